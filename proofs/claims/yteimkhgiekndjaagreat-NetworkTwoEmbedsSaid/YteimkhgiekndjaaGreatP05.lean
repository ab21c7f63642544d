/- What functions of the program compute, proved by walks over their code, and the plain mathematics of it; a part of the proof in the last text. -/
import Derived.Test.YteimkhgiekndjaaGreatP04
set_option linter.unusedVariables false
set_option linter.unusedSimpArgs false
set_option maxRecDepth 100000
set_option maxHeartbeats 4000000
namespace Go.Proofs.YteimkhgiekndjaaGreat
section
open Go Go.RowKit
theorem sumN_sub (m : Nat) (f : Qi) (a b : Nat → Qi) : sumN m (fun k => a k - f * b k) = sumN m a - f * sumN m b := by
 induction m with
 | zero => simp only [sumN, q0]; grind
 | succ m ih => simp only [sumN, ih]; grind
def Ker (M : List (List Qi)) (n m : Nat) (x : Nat → Qi) : Prop := ∀ i, i < n → sumN m (fun k => gm M i k * x k) = 0
def redJR (rr rc : List Qi) (c k : Nat) : List Qi := tab rr.length fun j => if c ≤ j ∧ j < k then gv rr j - gv rr c / gv rc c * gv rc j else gv rr j
def redJ (M : List (List Qi)) (c r : Nat) : List (List Qi) := tab M.length fun i => if i ≠ c ∧ i < r then redJR (rw' M i) (rw' M c) c (rw' M i).length else rw' M i
theorem redJ_len (M : List (List Qi)) (c r : Nat) : (redJ M c r).length = M.length := tab_len _ _
theorem redJR_len (rr rc : List Qi) (c k : Nat) : (redJR rr rc c k).length = rr.length := tab_len _ _
theorem redJ_row {M : List (List Qi)} {c r i : Nat} (hi : i < M.length) : rw' (redJ M c r) i = if i ≠ c ∧ i < r then redJR (rw' M i) (rw' M c) c (rw' M i).length else rw' M i := by
 simp only [rw', redJ, List.getD]; rw [tab_get hi]; rfl
theorem redJ_shp {M : List (List Qi)} {n m c r : Nat} (h : Shp M n m) : Shp (redJ M c r) n m := by
 refine ⟨(redJ_len _ _ _).trans h.1, fun x hx => ?_⟩
 obtain ⟨i, hi, rfl⟩ := tab_mem.1 hx
 have hr := h.row (i := i) (by rw [← h.1]; exact hi)
 show (if i ≠ c ∧ i < r then redJR (rw' M i) (rw' M c) c (rw' M i).length else rw' M i).length = m
 split
 ·rw [redJR_len]; exact hr
 ·exact hr
theorem redJ_gm {M : List (List Qi)} {n m c i j : Nat} (h : Shp M n m) (hi : i < n) (hj : j < m) : gm (redJ M c n) i j = if i ≠ c ∧ c ≤ j then gm M i j - gm M i c / gm M c c * gm M c j else gm M i j := by
 have hr : (rw' M i).length = m := h.row hi
 show gv (rw' (redJ M c n) i) j = _
 rw [redJ_row (by rw [h.1]; exact hi)]
 by_cases e : i = c
 ·rw [if_neg (fun k => k.1 e), if_neg (fun k => k.1 e)]
 ·rw [if_pos ⟨e, hi⟩, redJR, gv_tab (by omega)]
  by_cases e2 : c ≤ j
  ·rw [if_pos ⟨e2, by omega⟩, if_pos ⟨e, e2⟩]
  ·rw [if_neg (fun k => e2 k.1), if_neg (fun k => e2 k.2)]
theorem swp_rw {M : List (List Qi)} {p c i : Nat} (hp : p < M.length) (hc : c < M.length) : rw' (swp [] M p c) i = rw' M (if i = c then p else if i = p then c else i) := by
 simp only [rw', swp, List.getD]
 by_cases e : i = c
 ·subst e; rw [List.getElem?_set_self (by simpa using hc), if_pos rfl]; rfl
 ·rw [List.getElem?_set_ne (Ne.symm e), if_neg e]
  by_cases e2 : i = p
  ·subst e2; rw [List.getElem?_set_self hp, if_pos rfl]; rfl
  ·rw [List.getElem?_set_ne (Ne.symm e2), if_neg e2]
theorem ker_swp {M : List (List Qi)} {n m p c : Nat} {x : Nat → Qi} (hl : M.length = n) (hp : p < n) (hc : c < n) : Ker (swp [] M p c) n m x ↔ Ker M n m x := by
 have key : ∀ i, gm (swp [] M p c) i = gm M (if i = c then p else if i = p then c else i) := fun i => by
  funext j; exact congrArg (fun r => gv r j) (swp_rw (by omega) (by omega))
 constructor
 ·intro h i hi
  have h1 := h (if i = c then p else if i = p then c else i) (by split <;> (try split) <;> omega)
  rw [key] at h1
  have e : (if (if i = c then p else if i = p then c else i) = c then p else if (if i = c then p else if i = p then c else i) = p then c else (if i = c then p else if i = p then c else i)) = i := by
   by_cases e1 : i = c
   ·subst e1; rw [if_pos rfl]
    by_cases e2 : p = i
    ·rw [if_pos e2]; exact e2
    ·rw [if_neg e2, if_pos rfl]
   ·rw [if_neg e1]
    by_cases e2 : i = p
    ·subst e2; rw [if_pos rfl, if_pos rfl]
    ·rw [if_neg e2, if_neg e1, if_neg e2]
  rw [e] at h1; exact h1
 ·intro h i hi
  rw [key]; exact h _ (by split <;> (try split) <;> omega)
theorem ker_red {M : List (List Qi)} {n m c : Nat} {x : Nat → Qi} (hs : Shp M n m) (hc : c < n) (hz : ∀ j, j < c → gm M c j = 0) : Ker (redJ M c n) n m x ↔ Ker M n m x := by
 have key : ∀ i, i < n → i ≠ c → sumN m (fun k => gm (redJ M c n) i k * x k) = sumN m (fun k => gm M i k * x k) - gm M i c / gm M c c * sumN m (fun k => gm M c k * x k) := fun i hi e => by
  rw [← sumN_sub]
  refine sumN_congr fun k hk => ?_
  rw [redJ_gm hs hi hk]
  by_cases e2 : c ≤ k
  ·rw [if_pos ⟨e, e2⟩]; grind
  ·rw [if_neg (fun h => e2 h.2), hz k (by omega)]; grind
 have keyc : sumN m (fun k => gm (redJ M c n) c k * x k) = sumN m (fun k => gm M c k * x k) := sumN_congr fun k hk => by rw [redJ_gm hs hc hk, if_neg (fun h => h.1 rfl)]
 constructor
 ·intro h i hi
  have h0 := h c hc
  rw [keyc] at h0
  by_cases e : i = c
  ·rw [e]; exact h0
  ·have h1 := h i hi
   rw [key i hi e, h0] at h1
   grind
 ·intro h i hi
  have h0 := h c hc
  by_cases e : i = c
  ·rw [e, keyc]; exact h0
  ·rw [key i hi e, h0, h i hi]; grind
structure GJ (M A : List (List Qi)) (n m c : Nat) : Prop where
 sh : Shp A n m
 ker : ∀ x, Ker A n m x ↔ Ker M n m x
 off : ∀ j, j < c → ∀ i, i < n → i ≠ j → gm A i j = 0
 dg : ∀ j, j < c → gm A j j ≠ 0
theorem GJ.next {M A : List (List Qi)} {n m c p : Nat} (h : GJ M A n m c) (hc : c < n) (hnm : n ≤ m) (hcp : c ≤ p) (hp : p < n) (hz : gm A p c ≠ 0) : GJ M (redJ (swp [] A p c) c n) n m (c + 1) := by
 have hs : Shp (swp [] A p c) n m := swp_shp h.sh hp hc
 have hl := h.sh.1
 have key : ∀ i, gm (swp [] A p c) i = gm A (if i = c then p else if i = p then c else i) := fun i => by
  funext j; exact congrArg (fun r => gv r j) (swp_rw (by omega) (by omega))
 have hcc : gm (swp [] A p c) c c ≠ 0 := by rw [key, if_pos rfl]; exact hz
 have hoff : ∀ j, j < c → ∀ i, i < n → i ≠ j → gm (swp [] A p c) i j = 0 := fun j hj i hi hij => by
  rw [key]
  by_cases e1 : i = c
  ·rw [if_pos e1]; exact h.off j hj p hp (by omega)
  ·rw [if_neg e1]
   by_cases e2 : i = p
   ·rw [if_pos e2]; exact h.off j hj c hc (by omega)
   ·rw [if_neg e2]; exact h.off j hj i hi hij
 refine ⟨redJ_shp hs, fun x => (ker_red hs hc (fun j hj => hoff j hj c hc (by omega))).trans ((ker_swp hl hp hc).trans (h.ker x)), fun j hj i hi hij => ?_, fun j hj => ?_⟩
 ·rw [redJ_gm hs hi (by omega)]
  by_cases e : j = c
  ·subst e
   rw [if_pos ⟨hij, Nat.le_refl _⟩]
   have := div_eq (x := gm (swp [] A p j) i j) hcc
   grind
  ·rw [if_neg (fun k => by omega)]; exact hoff j (by omega) i hi hij
 ·rw [redJ_gm hs (by omega) (by omega)]
  by_cases e : j = c
  ·subst e; rw [if_neg (fun k => k.1 rfl)]; exact hcc
  ·rw [if_neg (fun k => by omega), key, if_neg (by omega), if_neg (by omega)]; exact h.dg j (by omega)
end
section
open Go Go.RowKit
abbrev pA (ps : List (Nat × Nat)) (k : Nat) : Nat := (ps.getD k (0, 0)).1
abbrev pB (ps : List (Nat × Nat)) (k : Nat) : Nat := (ps.getD k (0, 0)).2
end
section
open Go Go.RowKit
theorem gv_set {l : List Qi} {t k : Nat} {v : Qi} (ht : t < l.length) : gv (l.set t v) k = if k = t then v else gv l k := by
 simp only [gv, List.getD]
 by_cases e : k = t
 ·subst e; rw [if_pos rfl, List.getElem?_set_self ht]; rfl
 ·rw [if_neg e, List.getElem?_set_ne (Ne.symm e)]
end
section
open Go Go.RowKit
def clr (A : List (List Qi)) (c i j : Nat) : Qi := if j < c ∧ j < i then 0 else gm A i j
def KerF (F : Nat → Nat → Qi) (n m : Nat) (x : Nat → Qi) : Prop := ∀ i, i < n → sumN m (fun k => F i k * x k) = 0
theorem kerF_congr {F G : Nat → Nat → Qi} {n m : Nat} {x : Nat → Qi} (h : ∀ i, i < n → ∀ j, j < m → F i j = G i j) : KerF F n m x ↔ KerF G n m x := by
 have e : ∀ i, i < n → sumN m (fun k => F i k * x k) = sumN m (fun k => G i k * x k) := fun i hi => sumN_congr fun k hk => by rw [h i hi k hk]
 exact ⟨fun k i hi => by rw [← e i hi]; exact k i hi, fun k i hi => by rw [e i hi]; exact k i hi⟩
def tau (p c i : Nat) : Nat := if i = c then p else if i = p then c else i
theorem tau_lt {p c i n : Nat} (hp : p < n) (hc : c < n) (hi : i < n) : tau p c i < n := by unfold tau; split <;> (try split) <;> omega
theorem tau_tau (p c i : Nat) : tau p c (tau p c i) = i := by
 unfold tau
 by_cases e1 : i = c
 ·subst e1
  rw [if_pos rfl]
  by_cases e2 : p = i
  ·rw [if_pos e2]; exact e2
  ·rw [if_neg e2, if_pos rfl]
 ·rw [if_neg e1]
  by_cases e2 : i = p
  ·subst e2; rw [if_pos rfl, if_pos rfl]
  ·rw [if_neg e2, if_neg e1, if_neg e2]
theorem kerF_tau {F : Nat → Nat → Qi} {n m p c : Nat} {x : Nat → Qi} (hp : p < n) (hc : c < n) : KerF (fun i => F (tau p c i)) n m x ↔ KerF F n m x :=
 ⟨fun h i hi => by have := h _ (tau_lt hp hc hi); simp only [tau_tau] at this; exact this, fun h i hi => h _ (tau_lt hp hc hi)⟩
theorem kerF_red {F G : Nat → Nat → Qi} {n m c : Nat} {x f : Nat → Qi} (hc : c < n) (hG : ∀ i, i < n → ∀ j, j < m → G i j = if c < i then F i j - f i * F c j else F i j) : KerF G n m x ↔ KerF F n m x := by
 have key : ∀ i, i < n → sumN m (fun k => G i k * x k) = if c < i then sumN m (fun k => F i k * x k) - f i * sumN m (fun k => F c k * x k) else sumN m (fun k => F i k * x k) := fun i hi => by
  by_cases e : c < i
  ·rw [if_pos e, ← sumN_sub]
   exact sumN_congr fun k hk => by rw [hG i hi k hk, if_pos e]; grind
  ·rw [if_neg e]
   exact sumN_congr fun k hk => by rw [hG i hi k hk, if_neg e]
 have kc := key c hc
 rw [if_neg (by omega)] at kc
 constructor
 ·intro h i hi
  have h0 := h c hc
  rw [kc] at h0
  have h1 := h i hi
  rw [key i hi] at h1
  by_cases e : c < i
  ·rw [if_pos e, h0] at h1; grind
  ·rw [if_neg e] at h1; exact h1
 ·intro h i hi
  rw [key i hi]
  by_cases e : c < i
  ·rw [if_pos e, h i hi, h c hc]; grind
  ·rw [if_neg e]; exact h i hi
theorem redM_gm {M : List (List Qi)} {n m c i j : Nat} (h : Shp M n m) (hi : i < n) (hj : j < m) : gm (redM M c n) i j = if c < i ∧ c < j then gm M i j - gm M i c / gm M c c * gm M c j else gm M i j := by
 have hr : (rw' M i).length = m := h.row hi
 have e0 : rw' (redM M c n) i = if c < i ∧ i < n then redR (rw' M i) (rw' M c) c (rw' M i).length else rw' M i := by
  simp only [rw', redM, List.getD]; rw [tab_get (by rw [h.1]; exact hi)]; rfl
 show gv (rw' (redM M c n) i) j = _
 rw [e0]
 by_cases e : c < i
 ·rw [if_pos ⟨e, hi⟩, redR, gv_tab (by omega)]
  by_cases e2 : c < j
  ·rw [if_pos ⟨e2, by omega⟩, if_pos ⟨e, e2⟩]
  ·rw [if_neg (fun k => e2 k.1), if_neg (fun k => e2 k.2)]
 ·rw [if_neg (fun k => e k.1), if_neg (fun k => e k.1)]
theorem clr_swp {A : List (List Qi)} {p c i j : Nat} (hc : c < A.length) (hp : p < A.length) (hcp : c ≤ p) : clr (swp [] A p c) c i j = clr A c (tau p c i) j := by
 have key : gm (swp [] A p c) i j = gm A (tau p c i) j := congrArg (fun r => gv r j) (swp_rw (by omega) (by omega))
 unfold clr
 rw [key]
 have e : (j < c ∧ j < i) ↔ (j < c ∧ j < tau p c i) := by unfold tau; split <;> (try split) <;> omega
 by_cases h : j < c ∧ j < i
 ·rw [if_pos h, if_pos (e.1 h)]
 ·rw [if_neg h, if_neg (fun k => h (e.2 k))]
structure EL (M A : List (List Qi)) (n m c : Nat) : Prop where
 sh : Shp A n m
 ker : ∀ x, KerF (clr A c) n m x ↔ KerF (gm M) n m x
theorem EL.next {M A : List (List Qi)} {n m c p : Nat} (h : EL M A n m c) (hc : c < n) (hcm : c < m) (hcp : c ≤ p) (hp : p < n) (hz : gm A p c ≠ 0) : EL M (redM (if p = c then A else swp [] A p c) c n) n m (c + 1) := by
 have hl := h.sh.1
 obtain ⟨B, hB⟩ : ∃ B, B = if p = c then A else swp [] A p c := ⟨_, rfl⟩
 have hs : Shp B n m := by
  rw [hB]; split
  ·exact h.sh
  ·exact swp_shp h.sh hp hc
 have hBk : ∀ x, KerF (clr B c) n m x ↔ KerF (gm M) n m x := fun x => by
  rw [hB]; split
  ·exact h.ker x
  ·exact (kerF_congr (G := fun i => clr A c (tau p c i)) fun i hi j hj => clr_swp (by omega) (by omega) hcp).trans ((kerF_tau hp hc).trans (h.ker x))
 have hBz : gm B c c ≠ 0 := by
  rw [hB]; split
  ·rename_i e; rw [← e] at hz ⊢; exact hz
  ·show gv (rw' (swp [] A p c) c) c ≠ 0
   rw [swp_at (by omega)]; exact hz
 rw [← hB]
 refine ⟨redM_shp hs, fun x => (kerF_red (f := fun i => gm B i c / gm B c c) hc fun i hi j hj => ?_).trans (hBk x)⟩
 have hd := div_eq (x := gm B i c) hBz
 unfold clr
 rw [redM_gm hs hi hj]
 by_cases e : c < i
 ·rw [if_pos e]
  by_cases e1 : j < c
  ·rw [if_pos (by omega), if_pos (by omega), if_pos (by omega)]; grind
  ·by_cases e2 : j = c
   ·subst e2
    rw [if_pos (by omega), if_neg (by omega), if_neg (by omega)]; grind
   ·rw [if_neg (by omega), if_pos (by omega), if_neg (by omega), if_neg (by omega)]
 ·rw [if_neg e, if_neg (show ¬ (c < i ∧ c < j) from fun k => e k.1)]
  by_cases e1 : j < i
  ·rw [if_pos (show j < c + 1 ∧ j < i by omega), if_pos (show j < c ∧ j < i by omega)]
  ·rw [if_neg (show ¬ (j < c + 1 ∧ j < i) by omega), if_neg (show ¬ (j < c ∧ j < i) by omega)]
end
section
open Go Go.RowKit
def gq (ps : List (Nat × Nat)) (x : Nat) : Nat := if x % 2 = 0 then pA ps (x / 2) else pB ps (x / 2)
structure Jn (ps : List (Nat × Nat)) (n K : Nat) : Prop where
 lt : ∀ x, x < 2 * K → gq ps x < n
 inj : ∀ x y, x < 2 * K → y < 2 * K → gq ps x = gq ps y → x = y
theorem Jn.le {ps : List (Nat × Nat)} {n K k : Nat} (h : Jn ps n K) (hk : k ≤ K) : Jn ps n k := ⟨fun x hx => h.lt x (by omega), fun x y hx hy => h.inj x y (by omega) (by omega)⟩
end
section
open Go Go.RowKit
theorem fit_div {x y : Qi} {L M : Nat} (hx : FitC x L) (hy : FitC y M) (h : y ≠ 0) : FitC (x / y) (L + 3 * M + 2) := ⟨hx.fit.div hy.fit h⟩
end
section
open Go Go.RowKit
section
variable {φ : Qi → Qi → Bool} {z : List Qi} {js : List (Int × Int)}
end
section
variable {js : List (Int × Int)} {n : Nat}
end
theorem lfG_all : ∀ n, lfG [] n = tab n fun i => i
 | 0 => rfl
 | n + 1 => by rw [lfG, lfG_all n, tab_succ]; rfl
theorem all_len (n : Nat) : (lfG [] n).length = n := by rw [lfG_all, tab_len]
theorem all_sub {z : List Qi} : subZ z (lfG [] z.length) = z := by
 rw [subZ, all_len, lfG_all]
 apply List.ext_getElem?
 intro i
 by_cases hi : i < z.length
 ·rw [tab_get hi, qat, tab_getD hi]; simp [gv, List.getD, hi]
 ·rw [List.getElem?_eq_none (by rw [tab_len]; omega), List.getElem?_eq_none (by omega)]
end
section
open Go Go.RowKit
abbrev emD (s f : List (List Qi)) (p : Nat) : Qi := Qi.ofInt 1 - gm f 1 1 * gm s p p
def embX (s f : List (List Qi)) (p i j : Nat) : Qi :=
 if i = p ∧ j = p then gm f 0 0 + gm f 0 1 * (gm f 1 0 * (gm s p p / emD s f p))
 else if j = p then gm s i p / emD s f p * gm f 1 0
 else if i = p then gm f 0 1 * (gm s p j / emD s f p)
 else gm s i j + gm s i p / emD s f p * (gm f 1 1 * gm s p j)
def embM (s f : List (List Qi)) (p n : Nat) : List (List Qi) := tab n fun i => tab n fun j => embX s f p i j
def fxE (z fz : List Qi) (port : Int) (x : Nat) : Int := if fz.length ≠ 2 then 4 else if ¬ (1 ≤ port ∧ port ≤ z.length) then 1 else if gv fz (x - 1) = gv z (port - 1).toNat then 0 else 40
theorem fx_ok {z fz : List Qi} {port : Int} {x : Nat} (h : fxE z fz port x = 0) : fz.length = 2 ∧ (1 ≤ port ∧ port ≤ z.length) ∧ gv fz (x - 1) = gv z (port - 1).toNat := by
 unfold fxE at h
 by_cases c1 : fz.length = 2
 ·rw [if_neg (fun k => k c1)] at h
  by_cases c2 : 1 ≤ port ∧ port ≤ z.length
  ·rw [if_neg (fun k => k c2)] at h
   by_cases c3 : gv fz (x - 1) = gv z (port - 1).toNat
   ·exact ⟨c1, c2, c3⟩
   ·rw [if_neg c3] at h; omega
  ·rw [if_pos c2] at h; omega
 ·rw [if_pos c1] at h; omega
def emE (z : List Qi) (s : List (List Qi)) (fz : List Qi) (f : List (List Qi)) (port : Int) : Int := if fxE z fz port 2 ≠ 0 then fxE z fz port 2 else if emD s f (port - 1).toNat = Qi.zero then 6 else 0
theorem em_fx {z fz : List Qi} {s f : List (List Qi)} {port : Int} (h : fxE z fz port 2 ≠ 0) : emE z s fz f port = fxE z fz port 2 := if_pos h
theorem em_no {z fz : List Qi} {s f : List (List Qi)} {port : Int} (h : fxE z fz port 2 = 0) (h2 : emD s f (port - 1).toNat = Qi.zero) : emE z s fz f port = 6 := by rw [emE, if_neg (fun k => k h), if_pos h2]
theorem em_yes {z fz : List Qi} {s f : List (List Qi)} {port : Int} (h : fxE z fz port 2 = 0) (h2 : emD s f (port - 1).toNat ≠ Qi.zero) : emE z s fz f port = 0 := by rw [emE, if_neg (fun k => k h), if_neg h2]
def emZ (z : List Qi) (s : List (List Qi)) (fz : List Qi) (f : List (List Qi)) (port : Int) : List Qi := okL (emE z s fz f port) (z.set (port - 1).toNat (gv fz 0))
def emR (z : List Qi) (s : List (List Qi)) (fz : List Qi) (f : List (List Qi)) (port : Int) : List (List Qi) := okL (emE z s fz f port) (embM s f (port - 1).toNat z.length)
end
section
open Go Go.RowKit
def fixZ (zl : List Rt) (zz : Qi) : List Qi := ((plZ 1 zl).map Rt.q).set 1 zz
def fixS (sl : List Rt) : List (List Qi) := rq (plS 1 sl)
theorem fixZ_len (zl : List Rt) (zz : Qi) : (fixZ zl zz).length = 2 := by rw [fixZ, List.length_set, List.length_map, plZ, tab_len]; rfl
theorem fixZ_one (zl : List Rt) (zz : Qi) : gv (fixZ zl zz) 1 = zz := by rw [fixZ, gv_set (by rw [List.length_map, plZ, tab_len]; decide), if_pos rfl]
theorem fixS_shp (sl : List Rt) : Shp (fixS sl) 2 2 := by
 obtain ⟨_, _, h, _⟩ := netErr_ok (pl_err 1 [] sl)
 have hl : ((plZ 1 []).map Rt.q).length = 2 := by rw [List.length_map, plZ, tab_len]; rfl
 rw [hl] at h; exact h
theorem fixS_fit (sl : List Rt) : FitM (fixS sl) 2 := FitM.rt
theorem fixZ_fit (zl : List Rt) {zz : Qi} (h : FitC zz 2) : FitL (fixZ zl zz) 2 := fun x hx => (List.mem_or_eq_of_mem_set hx).elim (fun k => (FitL.rt : FitL ((plZ 1 zl).map Rt.q) 2) x k) fun e => e ▸ h
theorem fixZ_pos (zl : List Rt) {zz : Qi} (h : posQ zz = true) : (fixZ zl zz).all posQ = true := by
 obtain ⟨_, _, _, hp⟩ := netErr_ok (pl_err 1 zl [])
 rw [List.all_eq_true] at hp ⊢
 intro x hx
 rcases List.mem_or_eq_of_mem_set hx with k | k
 ·exact hp x k
 ·rw [k]; exact h
theorem fix_err (zl sl : List Rt) {zz : Qi} (h : posQ zz = true) : netErr (fixZ zl zz) (fixS sl) = 0 := by
 have hs := fixS_shp sl
 have hz := fixZ_len zl zz
 rw [netErr, if_neg, if_pos (fixZ_pos zl h)]
 rintro (h | h | h | h)
 ·omega
 ·omega
 ·exact h (by rw [hs.1, hz])
 ·obtain ⟨r, hr, h2⟩ := List.any_eq_true.1 h
  simp [hs.2 r hr, hz] at h2
theorem c_lawFix {a : Nat} {zl sl : List Rt} {zz : Qi} (hz : posQ zz = true) (hf : FitC zz 2) : Fun Tryz.prog 64 [PartT a zl sl, NT .i64 2, NumT zz] (TupT [NetT (fixZ zl zz) (fixS sl), BoolT true]) := by
 have hzl : ((plZ 1 zl).map Rt.q).length = 2 := by rw [List.length_map, plZ, tab_len]; rfl
 obtain ⟨z0, hz0⟩ : ∃ z0, z0 = ((plZ 1 zl).map Rt.q) := ⟨_, rfl⟩
 obtain ⟨s0, hs0⟩ : ∃ s0, s0 = fixS sl := ⟨_, rfl⟩
 have hsh : Shp s0 2 2 := by rw [hs0]; exact fixS_shp sl
 have hB := c_Build (a := 1) (zl := zl) (sl := sl) (by decide)
 rw [← hz0] at hzl
 rw [← hz0, show (rq (plS 1 sl)) = s0 from hs0.symm] at hB
 have hsl2 : Shp s0 z0.length z0.length := by rw [hzl]; exact hsh
 have hrf : ∀ i, i < 2 → Fun Tryz.prog 63 [NetT z0 s0, NT .i64 (i + 1)] (TupT [NumT (gv z0 i), IntT .i64 0]) := fun i hi => by
  have h := c_Ref (z := z0) (s := s0) (i := ((i + 1 : Nat) : Int)) (by omega)
  rw [show pkv z0 ((i + 1 : Nat) : Int) = gv z0 i from pkv_at (by omega), if_pos (by omega)] at h; exact h
 have hat : ∀ i j, i < 2 → j < 2 → Fun Tryz.prog 65 [NetT z0 s0, NT .i64 (i + 1), NT .i64 (j + 1)] (TupT [NumT (gm s0 i j), IntT .i64 0]) := fun i j hi hj => by
  have h := c_At (z := z0) (s := s0) (i := ((i + 1 : Nat) : Int)) (j := ((j + 1 : Nat) : Int)) hsl2 (by omega)
  rw [show pkm z0.length s0 ((i + 1 : Nat) : Int) ((j + 1 : Nat) : Int) = gm s0 i j from pkm_at (by omega) (by omega), if_pos (by omega)] at h; exact h
 have hnw : Fun Tryz.prog 85 [NumsT (fixZ zl zz), NumM s0] (TupT [NetT (fixZ zl zz) s0, IntT .i64 0]) := by
  have h := c_netNew (z := fixZ zl zz) (s := s0) (L := 2) (fixZ_fit zl hf) (by decide) (by rw [fixZ_len]; decide) (by rw [hsh.1]; decide)
  rw [show netErr (fixZ zl zz) s0 = 0 by rw [hs0]; exact fix_err zl sl hz] at h; exact h
 refine Fun.intro Tryz.func64 rfl Tryz.ntmps64 rfl (fun cx => (ts (rn rfl (fU (Ht rfl)) fun B3 => (rn rfl (fU (Ht rfl)) fun B5 => (rn rfl (eW (Ts := [Is (.slice none 0 0), Is (.slice none 0 0)]) O_30 rfl (fun V => aW ⟨rfl, trivial⟩ (aW ⟨rfl, trivial⟩ (aG)))) fun B6 => (ro rfl (cQ cV) (eX (ts (ro rfl (eZ fa_24_0 (Ht rfl) rfl) (R_st Z_5 (Ht rfl) (cJ 1) (i := 0) rfl (aK rfl) rfl (eX (ts (ro rfl (eJ A_24 Z_24 (Ht rfl) (i := 0) rfl rfl rfl) (ro rfl (cZ Tryz.call16 hB ⟨(Ht rfl), trivial⟩) ?_))))))))))))))
 refine rm rfl (ro rfl (dK (Ht rfl) rfl) (ro rfl (dK (Ht rfl) rfl) (ro rfl (dK (Ht rfl) rfl) (rn rfl (eW (Ts := [Is (.slice none 0 0), Is (.slice none 0 0)]) O_30 rfl (fun V => aW ⟨rfl, trivial⟩ (aW ⟨rfl, trivial⟩ (aG)))) fun B8 => (rn rfl (eW (Ts := [Is (.slice none 0 0), Is (.slice none 0 0)]) O_34 rfl (fun V => aW ⟨rfl, trivial⟩ (aW ⟨rfl, trivial⟩ (aG)))) fun B9 => (gJ Z_30 (Ht rfl) (Ht rfl) rfl (i := 3) rfl (aK rfl) rfl rfl (gJ Z_34 (Ht rfl) (Ht rfl) rfl (i := 4) rfl (aK rfl) rfl rfl ?_)))))))
 refine ra rfl (eX (cK (ts (rm rfl (ro rfl (op_not (Ht rfl)) (eX (T_condF (Ht rfl) (by rfl) ?_)))))))
 refine cU (ts (rn rfl (new_makeO (T := NumT Qi.zero) (i := Tryz.t45) und_27 info_45 rfl rfl (cJ 2) rfl num_zero_p (El.ag rfl) (by show 88 * _ ≤ _; omega) (by omega)) fun B27 => (ra rfl (eX (ts (rn rfl (new_make (T := Is (.slice none 0 0)) (i := Tryz.t27) V_28 info_27 rfl rfl (cJ 2) rfl (fun _ => rfl) trivial (by show 24 * _ ≤ _; omega) (by omega)) fun B28 => (ra rfl (eX (cK (ts (ro rfl (cX (cJ 0)) (eX (eG (T_conv 6 rfl (mat_nil (e := 45) (s := 5)) (T_keep [1, 2, 3, 5, 6] rfl (by decide) ?_)))))))))))))))
 refine T_loop (fun (i : Nat) => i ≤ 2) (fun (i : Nat) => 2 - i) (fun (i : Nat) => [(1, NT .i64 2), (5, PtrB B5 0), (6, PtrB B6 0), (8, PtrB B8 0), (11, Is B27), (12, Is (.slice (some ⟨B28, 0, none⟩) 2 2)), (29, NT .i64 i)]) (fun (i : Nat) => [box B5 45 [BoolT (decide (zz.a < 0)), NatT zz.a.natAbs, BoolT (decide (zz.b < 0)), NatT zz.b.natAbs, NatT (du zz)], box B6 30 [Is (.slice none 0 0), Is (.slice none 0 0)], box B8 30 [NumsT z0, NumM s0], rowO 45 5 B27 ((mixT (gv z0) Qi.zero 2 i).map NumT), matO B28 27 45 5 (FRow NumT (mixT (fun i => tab 2 fun j => gm s0 i j) [] 2 i))]) 0 (Nat.zero_le _)
  (aQ rfl (aQ rfl (aQ rfl (aQ rfl (aQ rfl (aQ rfl (aQ rfl aX))))))) (aU (box_of rfl) (aU (box_of rfl) (aU (box_of rfl) (aU (rowO_of (by rw [← mix_zero]; exact tab_rep NumT 2)) (aU (matO_of (by rw [← mix_zero, tab_const]; exact rep_FRow NumT 2)) aY))))) (fun i hi => ?_)
 refine ts (ro rfl (gV (Ht rfl) (cJ 2)) (eX (cK (dQ (Ht rfl) (fun hd => ?_) (fun hd => ?_)))))
 ·have hi2 : i < 2 := by simp only [decide_eq_true_eq] at hd; omega
  refine cU (cK (eG (ts (rm rfl (ra rfl (eX (ts (rm rfl (rm rfl (ro rfl (eJ A_30 Z_30 (Ht rfl) (i := 2) rfl rfl rfl) (rm rfl (ro rfl (dV (Ht rfl) (cJ 1) (by show _ < 9223372036854775808; first | omega | (simp only [lim]; omega))) (ro rfl (cZ Tryz.call63 (hrf i hi2) ⟨(Ht rfl), (Ht rfl), trivial⟩) (rm rfl (ro rfl (dK (Ht rfl) rfl) (ro rfl (dK (Ht rfl) rfl) (ro rfl (op_idxO U_27 Z_45 (Ht rfl) (Ht rfl) rfl (i := 3) rfl (by rw [List.length_map, mix_len]; omega) rfl) ?_)))))))))))))))))
  refine R_stO Z_45 (Ht rfl) (Ht rfl) (El.ag rfl) (i := 3) rfl rfl (by rw [List.length_map, mix_len]; omega) rfl ?_
  refine eX (cK (T_conv 3 rfl (rowO_of (by rw [set_mapF, mix_set (f := gv z0)])) ?_))
  refine T_focus 4 (i) rfl (frow_mix hi2) (fun v0 => (cY (rm rfl (rm rfl (rn rfl (new_makeO (T := NumT Qi.zero) (i := Tryz.t45) und_27 info_45 rfl rfl (cJ 2) rfl num_zero_p (El.ag rfl) (by show 88 * _ ≤ _; omega) (by omega)) fun B44 => (ro rfl (gX U_28 Z_27 (Ht rfl) (Ht rfl) rfl (by omega) (by rw [Nat.mul_one, Nat.zero_add])) ?_))))))
  refine R_stH Z_27 (Ht rfl) (Ht rfl) (by simp only [FRow, List.length_map, mix_len]; omega) (j := 4) (l := 6) rfl rfl rfl ?_
  refine eX (cK (T_keep [0, 1, 2, 3, 4, 6] rfl (by decide) (cY (ro rfl (cX (cJ 0)) (eX (eG ?_))))))
  refine T_loop (fun (j : Nat) => j ≤ 2) (fun (j : Nat) => 2 - j) (fun (j : Nat) => [(1, NT .i64 2), (5, PtrB B5 0), (6, PtrB B6 0), (8, PtrB B8 0), (11, Is B27), (12, Is (.slice (some ⟨B28, 0, none⟩) 2 2)), (13, NT .i64 i), (29, NT .i64 i), (46, NT .i64 j)]) (fun (j : Nat) => [box B5 45 [BoolT (decide (zz.a < 0)), NatT zz.a.natAbs, BoolT (decide (zz.b < 0)), NatT zz.b.natAbs, NatT (du zz)], box B6 30 [Is (.slice none 0 0), Is (.slice none 0 0)], box B8 30 [NumsT z0, NumM s0], rowO 45 5 B27 ((mixT (gv z0) Qi.zero 2 (i + 1)).map NumT), matH B28 27 45 5 (FRow NumT (mixT (fun i => tab 2 fun j => gm s0 i j) [] 2 i)) i B44, rowO 45 5 B44 ((mixT (fun j => gm s0 i j) Qi.zero 2 j).map NumT)]) 0 (Nat.zero_le _)
   (aQ rfl (aQ rfl (aQ rfl (aQ rfl (aQ rfl (aQ rfl (aQ rfl (aQ rfl (aQ rfl aX))))))))) (aU (box_of rfl) (aU (box_of rfl) (aU (box_of rfl) (aU (fun _ _ _ h => h) (aU (fun _ _ _ h => h) (aU (rowO_of (by rw [← mix_zero]; exact tab_rep NumT 2)) aY)))))) (fun j hj => ?_)
  refine ts (ro rfl (gV (Ht rfl) (cJ 2)) (eX (cK (dQ (Ht rfl) (fun he => ?_) (fun he => ?_)))))
  ·have hj2 : j < 2 := by simp only [decide_eq_true_eq] at he; omega
   refine cU (cK (eG (ts (rm rfl (ra rfl (eX (W.D_start (m := 16) (fun b => cond b ([box B5 45 [BoolT (decide (zz.a < 0)), NatT zz.a.natAbs, BoolT (decide (zz.b < 0)), NatT zz.b.natAbs, NatT (du zz)], box B6 30 [Is (.slice none 0 0), Is (.slice none 0 0)], box B8 30 [NumsT z0, NumM s0], rowO 45 5 B27 ((mixT (gv z0) Qi.zero 2 (i + 1)).map NumT), matH B28 27 45 5 (FRow NumT (mixT (fun i => tab 2 fun j => gm s0 i j) [] 2 i)) i B44, rowO 45 5 B44 (((mixT (fun j => gm s0 i j) Qi.zero 2 j).map NumT).set j (NumT (gm s0 i j)))]) _) 15 (W.D_step (Ei := [(12, _)]) rfl rfl (W.Srcs.cons (W.Src.pre rfl rfl) W.Srcs.nil) rfl (by kernel_rfl) (dX rfl (cX (Ht rfl))) ?_))))))))
   refine W.D_step (Ei := [(13, _)]) rfl rfl (W.Srcs.cons (W.Src.pre rfl rfl) W.Srcs.nil) rfl (by kernel_rfl) (dX rfl (cX (Ht rfl))) (W.D_step (Ei := [(50, _), (51, _)]) rfl rfl (W.Srcs.cons (W.Src.op 0 rfl rfl) (W.Srcs.cons (W.Src.op 1 rfl rfl) W.Srcs.nil)) rfl (by kernel_rfl) (dX rfl (gX U_28 Z_27 (Ht rfl) (Ht rfl) rfl (by omega) (by rw [Nat.mul_one, Nat.zero_add]))) ?_)
   refine W.D_step (Ei := [(52, _)]) rfl rfl (W.Srcs.cons (W.Src.op 2 rfl rfl) W.Srcs.nil) rfl (by kernel_rfl) (dX rfl (op_ldH A_27 Z_27 (Ht rfl) (j := 4) rfl)) (W.D_step (Ei := [(14, _)]) rfl rfl (W.Srcs.cons (W.Src.pre rfl rfl) W.Srcs.nil) rfl (by kernel_rfl) (dX rfl (cX (Ht rfl))) (W.D_step (Ei := [(8, _)]) rfl rfl (W.Srcs.cons (W.Src.pre rfl rfl) W.Srcs.nil) rfl (by kernel_rfl) (dX rfl (eJ A_30 Z_30 (Ht rfl) (i := 2) rfl rfl rfl)) (W.D_step (Ei := [(13, _)]) rfl rfl (W.Srcs.cons (W.Src.pre rfl rfl) W.Srcs.nil) rfl (by kernel_rfl) (dX rfl (cX (Ht rfl))) ?_)))
   refine W.D_step (Ei := [(56, _)]) rfl rfl (W.Srcs.cons (W.Src.op 6 rfl rfl) W.Srcs.nil) rfl (by kernel_rfl) (dX rfl (dV (Ht rfl) (cJ 1) (by show _ < 9223372036854775808; first | omega | (simp only [lim]; omega)))) (W.D_step (Ei := [(14, _)]) rfl rfl (W.Srcs.cons (W.Src.pre rfl rfl) W.Srcs.nil) rfl (by kernel_rfl) (dX rfl (cX (Ht rfl))) (W.D_step (Ei := [(58, _)]) rfl rfl (W.Srcs.cons (W.Src.op 8 rfl rfl) W.Srcs.nil) rfl (by kernel_rfl) (dX rfl (dV (Ht rfl) (cJ 1) (by show _ < 9223372036854775808; first | omega | (simp only [lim]; omega)))) (W.D_step (Ei := [(55, _), (57, _), (59, _)]) rfl rfl (W.Srcs.cons (W.Src.op 5 rfl rfl) (W.Srcs.cons (W.Src.op 7 rfl rfl) (W.Srcs.cons (W.Src.op 9 rfl rfl) W.Srcs.nil))) rfl (by kernel_rfl) (dX rfl (cZ Tryz.call65 (hat i j hi2 hj2) ⟨(Ht rfl), (Ht rfl), (Ht rfl), trivial⟩)) ?_)))
   refine W.D_step (Ei := [(60, _)]) rfl rfl (W.Srcs.cons (W.Src.op 10 rfl rfl) W.Srcs.nil) rfl (by kernel_rfl) (dX rfl (cX (Ht rfl))) (W.D_step (Ei := [(49, _)]) rfl rfl (W.Srcs.cons (W.Src.op 11 rfl rfl) W.Srcs.nil) rfl (by kernel_rfl) (dX rfl (dK (Ht rfl) rfl)) (W.D_pure (Ei := [(49, _)]) rfl rfl (W.Srcs.cons (W.Src.op 11 rfl rfl) W.Srcs.nil) rfl (fun _ => dX rfl (dK (Ht rfl) rfl)) (W.D_step (Ei := [(53, _), (54, _)]) rfl rfl (W.Srcs.cons (W.Src.op 3 rfl rfl) (W.Srcs.cons (W.Src.op 4 rfl rfl) W.Srcs.nil)) rfl (by kernel_rfl) (dX rfl (op_idxO U_27 Z_45 (Ht rfl) (Ht rfl) rfl (i := 5) rfl (by rw [List.length_map, mix_len]; omega) rfl)) ?_)))
   refine W.D_put (Ei := [(63, _), (61, _)]) rfl rfl (W.Srcs.cons (W.Src.op 14 rfl rfl) (W.Srcs.cons (W.Src.op 12 rfl rfl) W.Srcs.nil)) rfl (P_stO Z_45 (Ht rfl) (Ht rfl) (El.ag rfl) (i := 5) rfl rfl (by rw [List.length_map, mix_len]; omega)) ?_
   refine W.D_done mixed rfl (by kernel_rfl) rfl (W.F_val (W.F_val (W.F_val (W.F_val (W.F_val (W.F_val (W.F_val (W.F_val (W.F_val (W.F_val (W.F_val (W.F_val (W.F_val (W.F_val (W.F_val (W.F_put (W.F_nil (eX (T_blk (cY (ro rfl (dV (Ht rfl) (cJ 1) (by show _ < 9223372036854775808; first | omega | (simp only [lim]; omega))) (rm rfl (eX (gQ (j + 1) hj2 (by omega) (aQ rfl (aQ rfl (aQ rfl (aQ rfl (aQ rfl (aQ rfl (aQ rfl (aQ rfl (aQ rfl aX))))))))) (aU (box_of rfl) (aU (box_of rfl) (aU (box_of rfl) (aU (fun _ _ _ h => h) (aU (fun _ _ _ h => h) (aU (rowO_of (by rw [set_mapF]; exact congrArg _ (mix_set (f := (fun j => gm s0 i j))))) aY))))))))))))))))))))))))))))))
  ·obtain rfl : j = 2 := by simp only [decide_eq_false_iff_not] at he; omega
   rw [mix_fin (fun j => gm s0 i j)]
   refine gK rfl (T_blk (T_unfocus 4 5 rfl rfl (by decide) (by simp only [FRow, List.length_map, mix_len]; omega) ?_))
   refine cY (ro rfl (dV (Ht rfl) (cJ 1) (by show _ < 9223372036854775808; first | omega | (simp only [lim]; omega))) (rm rfl (eX (T_keep [0, 1, 2, 3, 4] rfl (by decide) (gQ (i + 1) hi2 (by omega) (aQ rfl (aQ rfl (aQ rfl (aQ rfl (aQ rfl (aQ rfl (aQ rfl aX))))))) (aU (box_of rfl) (aU (box_of rfl) (aU (box_of rfl) (aU (fun _ _ _ h => h) (aU (matO_of (by rw [set_FRow]; exact congrArg _ (mix_set (f := (fun i => tab 2 fun j => gm s0 i j))))) aY))))))))))
 ·obtain rfl : i = 2 := by simp only [decide_eq_false_iff_not] at hd; omega
  rw [mix_fin, mix_fin]
  have hzt : tab 2 (gv z0) = z0 := by rw [← hzl]; exact (tab_eq rfl).symm
  have hst : (tab 2 fun i => tab 2 fun j => gm s0 i j) = s0 := (mat_tab hsh).symm
  rw [hzt, hst]
  refine gK rfl (ts (rm rfl (rm rfl (ro rfl (dW (Ht rfl) (cJ 1) (by omega) (by show _ < 9223372036854775808; first | omega | (simp only [lim]; omega))) (ro rfl (eJ A_45 Z_45 (Ht rfl) (i := 0) rfl rfl rfl) (ro rfl (op_idxO U_27 Z_45 (Ht rfl) (Ht rfl) rfl (i := 3) rfl (by rw [List.length_map]; omega) rfl) ?_))))))
  refine R_stO Z_45 (Ht rfl) (Ht rfl) (El.ag rfl) (i := 3) rfl rfl (by rw [List.length_map]; omega) rfl ?_
  refine eX (cK (T_conv 3 rfl (rowO_of ((set_mapF NumT z0 1 zz).trans (by rw [hz0]; rfl)) : ∀ S m V, _ → (rowO 45 5 B27 ((fixZ zl zz).map NumT)).h S m V) ?_))
  refine gG (i := 3) (tt := 11) rfl rfl frz_row (gG (i := 4) (tt := 12) rfl rfl (frz_matF (s := 5) (M := s0) hsh.1.symm) (cY (rm rfl (rm rfl (ro rfl (cZ Tryz.call85 hnw ⟨(Ht rfl), (Ht rfl), trivial⟩) (rm rfl (ro rfl (dK (Ht rfl) rfl) (ro rfl (dK (Ht rfl) rfl) (rn rfl (eW (Ts := [Is (.slice none 0 0), Is (.slice none 0 0)]) O_30 rfl (fun V => aW ⟨rfl, trivial⟩ (aW ⟨rfl, trivial⟩ (aG)))) fun B15 => (gJ Z_30 (Ht rfl) (Ht rfl) rfl (i := 5) rfl (aK rfl) rfl rfl (ra rfl (eX ?_))))))))))))
  refine cK (T_keep [0, 1, 2, 3, 4, 5] rfl (by decide) (cY (ro rfl (eJ A_30 Z_30 (Ht rfl) (i := 5) rfl rfl rfl) (rm rfl (ro rfl (op_eql (Ht rfl) cV) (gJ Z_30 (Ht rfl) (Ht rfl) rfl (i := 1) rfl (aK rfl) rfl rfl (ra rfl (eX (T_ret2 rfl (fX (fY A_30 Z_30 rfl (i := 1) rfl rfl) ?_) (eU rfl))))))))))
  exact (fun v V h => by rw [← hs0]; exact h)
end
section
open Go Go.RowKit
section
variable {P : Program} {n : Nat} {E : Env} {H : Hp}
variable {d : Option Tmp} {t : TypeId} {pos : String} {af : Array Edge} {g : Option (Nat × Bool)}
theorem P_stB {x y : Operand} {i B o' : Nat} {BT : TypeId} {Ts Ws : List Ty} {T : Ty} [hsh : Shape T 1 false] (hS : ∀ w, (sizeOf t).run P w = .ok 1 w) (hx : Has E x (PtrB B o')) (hy : Has E y T)
  (hH : H[i]? = some (box B BT Ts)) (hlt : o' < Ts.length) (hW : Ts.set o' T = Ws) {t' : TypeId} {H' : Hp} (hH' : H.set i (box B BT Ws) = H') :
  W.PutTy P n E H H' ⟨none, .store t x y, t', pos, af, none⟩ := by subst hW; subst hH'; exact P_st hS hx hy hH hlt
end
end
section
open Go Go.RowKit
section
variable {P : Program} {R : Post} {cx : Cx} {n : Nat} {k : List It} {E : Env} {H : Hp}
theorem HH.two {base : Nat} {w : World} {V : View} {Z : SA} {X : Hp} (h : HH base w V (Z :: X)) : HH base w V [Z, starSA (SA.emp :: X)] := by
 have h1 : HH base w V ((Z :: X).set 0 SA.emp ++ [Z]) := h.last rfl
 have h2 : HH base w V (starSA (SA.emp :: X) :: [Z]) := HH.repack h1
 exact h2.pick (is := [1, 0]) ⟨⟨_, rfl, fun _ _ _ h => h⟩, ⟨_, rfl, fun _ _ _ h => h⟩, trivial⟩ (by decide)
theorem FunO.pack {f : FuncId} {Ts : List Ty} {γ : Type} {U : γ → Ty} {X : γ → Hp} {Q : γ → Prop} (h : FunO P f Ts [] γ U X Q) : FunO P f Ts [] γ U (fun x => [starSA (SA.emp :: X x)]) Q :=
 fun cx Z vs V w h1 h2 => (h cx Z vs V w h1 h2).mono fun e w' ⟨v, V', x, a, b, c, d, e'⟩ => ⟨v, V', x, a, b, c.withHH c.hp.two, d, e'⟩
theorem T_star {X Y : Hp} (h : Tr P R cx n k E (X ++ Y)) : Tr P R cx n k E (starSA X :: Y) := fun a w ⟨V, hin, hs⟩ => h a w ⟨V, hin.withHH hin.hp.unpack, hs⟩
end
namespace W
variable {P : Program} {R : Post} {cx : Cx} {n : Nat} {k : List It} {E : Env} {H : Hp} {Hf : Bool → Hp} {p : Nat}
end W
end
section
open Go Go.RowKit
theorem c_partZ {z : List Qi} {s : List (List Qi)} {Q : List Nat} {m : Nat} (hs : Shp s z.length z.length) (hQ : ∀ x, x ∈ Q → x < z.length) (hm : Q.length = m) (hm2 : m ≤ 1000) (hl : z.length ≤ 1000) : FunO Tryz.prog 111 [NetT z s, IntsT (Q.map Nat.succ)] [] (Nat × Nat) (fun B => AggT [Is (.slice (some ⟨B.1, 0, none⟩) m m), Is (.slice (some ⟨B.2, 0, none⟩) m m)]) (fun B => [rowO 45 5 (.slice (some ⟨B.1, 0, none⟩) m m) ((subZ z Q).map NumT), matO B.2 27 45 5 (FRow NumT (subM s Q))]) (fun _ => True) := by
 have hll : (Q.map Nat.succ).length = m := by rw [List.length_map]; exact hm
 refine FunO.intro Tryz.func111 rfl Tryz.ntmps111 rfl (fun cx Z => (ts (rn rfl (fU (Ht rfl)) fun B2 => (rn rfl (new_box1 (Ht rfl)) fun B3 => (rn rfl (eW (Ts := [Is (.slice none 0 0), Is (.slice none 0 0)]) O_30 rfl (fun V => aW ⟨rfl, trivial⟩ (aW ⟨rfl, trivial⟩ (aG)))) fun B4 => (eX (cK (gG (i := 1) (tt := 2) rfl rfl frz_ptr (gG (i := 2) (tt := 3) rfl rfl frz_ptr1 (cY (ro rfl (dJ A_69 Z_69 (Ht rfl)) (ro rfl (dG U_69 (Ht rfl) (by rw [List.length_map, hll])) ?_))))))))))))
 refine rn rfl (new_makeS (T := NumT Qi.zero) (i := Tryz.t45) und_27 info_45 rfl rfl (Ht rfl) rfl num_zero_p (El.ag rfl) (by show 88 * _ ≤ _; omega) (by omega)) fun B10 => ra rfl (eX (cK (ts (ro rfl (dJ A_69 Z_69 (Ht rfl)) (ro rfl (dG U_69 (Ht rfl) (by rw [List.length_map, hll])) ?_)))))
 refine ro rfl (cX (cJ 0)) (eX (eG (T_keep [0, 3, 4] rfl (by decide) ?_)))
 refine T_loop (fun (i : Nat) => i ≤ m) (fun (i : Nat) => m - i) (fun (i : Nat) => [(2, PT (NetT z s)), (3, PT (IntsT (Q.map Nat.succ))), (4, PtrB B4 0), (5, Is (.slice (some ⟨B10, 0, none⟩) m m)), (11, IntsT (Q.map Nat.succ)), (12, NT .i64 m), (13, NT .i64 i)]) (fun (i : Nat) => [Z, box B4 30 [Is (.slice none 0 0), Is (.slice none 0 0)], rowO 45 5 (.slice (some ⟨B10, 0, none⟩) m m) ((mixT (fun i => gv z (qat Q i)) Qi.zero m i).map NumT)]) 0 (Nat.zero_le _)
  (aQ rfl (aQ rfl (aQ rfl (aQ rfl (aQ rfl (aQ rfl (aQ rfl aX))))))) (aU (fun _ _ _ h => h) (aU (fun _ _ _ h => h) (aU (rowO_of (by rw [← mix_zero]; exact tab_rep NumT m)) aY))) (fun i hi => ?_)
 refine ts (ro rfl (gV (Ht rfl) (Ht rfl)) (eX (cK (dQ (Ht rfl) (fun hd => ?_) (fun hd => ?_)))))
 ·simp only [decide_eq_true_eq] at hd
  have hki : qat Q i < z.length := qat_lt hQ (by omega)
  refine cU (cK (eG (ts (rm rfl (ro rfl (dZ U_69 Z_3 (Ht rfl) (Ht rfl) rfl (dY (suc_get (by omega)))) (ro rfl (dJ A_3 Z_3 (Ht rfl)) (ra rfl (ra rfl (eX (cY (rm rfl (rm rfl (ro rfl (op_fld1 fa_30_0 (Ht rfl) rfl) (ro rfl (dJ A_27 Z_27 (Ht rfl)) (rm rfl (ro rfl (OpTy.nat (dW (Ht rfl) (cJ 1) (by omega) (by show _ < 9223372036854775808; first | omega | (simp only [lim]; omega))) (show qat Q i + 1 - 1 = qat Q i by omega)) (ro rfl (dZ U_27 Z_45 (Ht rfl) (Ht rfl) rfl (dY (dU (d := Qi.zero) hki))) ?_)))))))))))))))))
  refine ro rfl (dJ A_45 Z_45 (Ht rfl)) (ro rfl (op_idxO U_27 Z_45 (Ht rfl) (Ht rfl) rfl (i := 2) rfl (by rw [List.length_map, mix_len]; omega) rfl) ?_)
  refine R_stO Z_45 (Ht rfl) (Ht rfl) (El.ag rfl) (i := 2) rfl rfl (by rw [List.length_map, mix_len]; omega) rfl ?_
  refine eX (T_blk (cY (ro rfl (dV (Ht rfl) (cJ 1) (by show _ < 9223372036854775808; first | omega | (simp only [lim]; omega))) (rm rfl (eX (gQ (i + 1) hd (by omega) (aQ rfl (aQ rfl (aQ rfl (aQ rfl (aQ rfl (aQ rfl (aQ rfl aX))))))) (aU (fun _ _ _ h => h) (aU (fun _ _ _ h => h) (aU (rowO_of (by rw [set_mapF, ← mix_set (f := (fun i => gv z (qat Q i)))])) aY)))))))))
 ·simp only [decide_eq_false_iff_not] at hd
  obtain rfl : m = i := Nat.le_antisymm (by omega) hi
  rw [mix_fin]
  rw [show subZ z Q = tab m fun i => gv z (qat Q i) from by rw [subZ, hm], show subM s Q = tab m fun i => tab m fun j => gm s (qat Q i) (qat Q j) from by rw [subM, hm]]
  refine gK rfl (ts (rm rfl (ro rfl (dJ A_69 Z_69 (Ht rfl)) (ro rfl (dG U_69 (Ht rfl) (by rw [List.length_map, hll])) ?_))))
  refine ro rfl (op_clos (γ := Fin m × Fin m) (Ts := fun x => [NT .i64 x.1.1, NT .i64 x.2.1]) (U := fun x => NumT (gm s (qat Q x.1.1) (qat Q x.2.1))) Tryz.call210 (fun x => c_part1 hs hQ hm hm2 hl x.1.2 x.2.2) ⟨(Ht rfl), (Ht rfl), trivial⟩) (R_call0 Tryz.call119 (c_fillO (n := m) (f := fun i j => gm s (qat Q i) (qat Q j)) (by omega)) ⟨(Ht rfl), (Ht rfl), trivial⟩ rfl (fun B32 _ => (ro rfl (bld_30_0_1 (Ht rfl) (Ht rfl)) (gJ Z_30 (Ht rfl) (Ht rfl) rfl (i := 1) rfl (aK rfl) rfl rfl (eX ?_)))))
  exact T_retO (B10, B32) trivial [0, 2, 3] ⟨⟨_, rfl, fun _ _ _ h => h⟩, ⟨_, rfl, fun _ _ _ h => h⟩, ⟨_, rfl, fun _ _ _ h => h⟩, trivial⟩ (by decide) (rvs1 rfl (fY A_30 Z_30 rfl (i := 1) rfl rfl))
end
section
open Go Go.RowKit
theorem c_left0 {z : List Qi} {s : List (List Qi)} (hl : z.length ≤ 1000) : Fun Tryz.prog 112 [NetT z s, Is (.slice none 0 0)] (IntsT ((lfG [] z.length).map Nat.succ)) :=
 (c_leftG (z := z) (s := s) (G := []) hl (by simp)).arg fun vs V h => match vs, h with
  | [_, b], ⟨h1, h2, _⟩ => ⟨h1, nil_slT b V h2, trivial⟩
end
section
open Go Go.RowKit
section
variable {P : Program} {n : Nat} {E : Env} {H : Hp}
variable {d : Option Tmp} {t : TypeId} {pos : String} {af : Array Edge} {g : Option (Nat × Bool)}
theorem op_idxAB {x i : Operand} {B o q r s : Nat} {kd : IntKind} {j : Int} {e : TypeId} {len : Nat} (hU : ∀ w, (underlying t).run P w = .ok (.array len e) w) (hS : ∀ w, (sizeOf e).run P w = .ok s w)
  (hx : Has E x (PtrB B o)) (hi : Has E i (IntT kd j)) (hj : j = (q : Int)) (hl : q < len) (hr : o + q * s = r) {t' : TypeId} : OpTy P n E H ⟨d, .indexAddr t x i, t', pos, af, g⟩ (PtrB B r) :=
 op_pure fun a V w hs => by
  have e1 : a.eval x = .pointer (some ⟨B, o, none⟩) := hx n V a hs
  have ei : a.eval i = .int kd j := hi n V a hs
  subst hj hr
  exact ⟨.pointer (some ⟨B, o + q * s, none⟩), by simp [execOp, e1, ei, Instr.indexAt, Instr.sureAddr, asIntOf, Sem.run_bind, hU, hS, Result.andThen, hl, add_plain], rfl⟩
theorem op_s2a2 {x : Operand} {arr e : TypeId} {s : Nat} {Us Ws : List Ty} (hU : ∀ w, (underlying arr).run P w = .ok (.array 2 e) w) (hx : Has E x (SlT s [AggT Us, AggT Ws])) (hl : Us.length = s) {t' : TypeId} :
  OpTy P n E H ⟨d, .sliceToArrayPointer arr x, t', pos, af, g⟩ (PT (AggT (Us ++ Ws))) :=
 op_pure fun a V w hs => by
  obtain ⟨a0, cap, e1, hcap, h3⟩ := hx n V a hs
  obtain ⟨b, o, x0, ea, ⟨c, BT, fr, l2, l3⟩, c0, us, rfl, hu⟩ := h3 0 _ rfl
  obtain ⟨b', o', x1, ea', ⟨c', BT', fr', l2', l3'⟩, c1, ws, rfl, hw⟩ := h3 1 _ rfl
  subst ea
  obtain ⟨rfl, rfl⟩ : b = b' ∧ o = o' := by simpa using ea'
  obtain ⟨rfl, rfl, rfl⟩ : c = c' ∧ BT = BT' ∧ fr = fr' := by rw [l2] at l2'; simpa using l2'
  have hlu : us.length = s := hu.length.trans hl
  refine ⟨.pointer (some ⟨b, o, none⟩), by simp [execOp, e1, Instr.arrayAt, Sem.run_bind, hU, Result.andThen, pure, Sem.run], b, o, .agg (us ++ ws).toArray, rfl, ⟨c, BT, fr, l2, fun j u hj => ?_⟩, us ++ ws, rfl, hu.append hw⟩
  simp only [Value.cells, List.getElem?_toArray] at hj
  by_cases c2 : j < us.length
  ·rw [List.getElem?_append_left c2] at hj
   have := l3 j u (by simpa [Value.cells] using hj)
   rw [show o + j = o + 0 * s + j by omega]; exact this
  ·rw [List.getElem?_append_right (by omega)] at hj
   have := l3' (j - us.length) u (by simpa [Value.cells] using hj)
   rw [show o + j = o + 1 * s + (j - us.length) by omega]; exact this
end
end
section
open Go Go.RowKit
abbrev nb (x : Qi) : List Ty := [BoolT (decide (x.a < 0)), NatT x.a.natAbs, BoolT (decide (x.b < 0)), NatT x.b.natAbs, NatT (du x)]
abbrev nbZ : List Ty := [Is (.bool false), Is (.slice none 0 0), Is (.bool false), Is (.slice none 0 0), Is (.slice none 0 0)]
def fxC (f : List (List Qi)) : Nat → List Ty
 | 0 => nbZ ++ nbZ ++ (nbZ ++ nbZ)
 | 1 => nb (gm f 0 0) ++ nb (gm f 0 1) ++ (nbZ ++ nbZ)
 | _ => nb (gm f 0 0) ++ nb (gm f 0 1) ++ (nb (gm f 1 0) ++ nb (gm f 1 1))
theorem fxC_len (f : List (List Qi)) : ∀ i, (fxC f i).length = 20
 | 0 => rfl
 | 1 => rfl
 | _ + 2 => rfl
theorem fxC_next (f : List (List Qi)) : ∀ {i : Nat}, i < 2 → (fxC f i).take (0 + i * 10) ++ (nb (gm f i 0) ++ nb (gm f i 1)) ++ (fxC f i).drop (0 + i * 10 + 10) = fxC f (i + 1)
 | 0, _ => rfl
 | 1, _ => rfl
theorem row2 {f : List (List Qi)} (h : Shp f 2 2) {i : Nat} (hi : i < 2) : (f.getD i []).map NumT = [NumT (gm f i 0), NumT (gm f i 1)] := by
 have hl := h.row hi
 show (f.getD i []).map NumT = [NumT (gv (f.getD i []) 0), NumT (gv (f.getD i []) 1)]
 generalize f.getD i [] = l at hl
 match l, hl with
 | [a, b], _ => rfl
theorem fx_4 {z fz : List Qi} {port : Int} {x : Nat} (h : fz.length ≠ 2) : fxE z fz port x = 4 := if_pos h
theorem fx_1 {z fz : List Qi} {port : Int} {x : Nat} (h : fz.length = 2) (h2 : ¬ (1 ≤ port ∧ port ≤ (z.length : Int))) : fxE z fz port x = 1 := by rw [fxE, if_neg (fun k => k h), if_pos h2]
theorem fx_d {z fz : List Qi} {port : Int} {x : Nat} (h : fz.length = 2) (h2 : 1 ≤ port ∧ port ≤ (z.length : Int)) : fxE z fz port x = if gv fz (x - 1) = gv z (port - 1).toNat then 0 else 40 := by rw [fxE, if_neg (fun k => k h), if_neg (fun k => k h2)]
theorem c_fixture2 {fz : List Qi} {f : List (List Qi)} (h2 : fz.length = 2) (hf : Shp f 2 2) : Fun Tryz.prog 231 [NetT fz f] (TupT [AggT (fxC f 2), IntT .i64 0]) := by
 have hfl := hf.1
 refine Fun.intro Tryz.func231 rfl Tryz.ntmps231 rfl (fun cx => (ts (rn rfl (fU (Ht rfl)) fun B1 => (rn rfl (eW (Ts := [Is (.bool false), Is (.slice none 0 0), Is (.bool false), Is (.slice none 0 0), Is (.slice none 0 0), Is (.bool false), Is (.slice none 0 0), Is (.bool false), Is (.slice none 0 0), Is (.slice none 0 0), Is (.bool false), Is (.slice none 0 0), Is (.bool false), Is (.slice none 0 0), Is (.slice none 0 0), Is (.bool false), Is (.slice none 0 0), Is (.bool false), Is (.slice none 0 0), Is (.slice none 0 0)]) O_192 rfl (fun V => aW ⟨rfl, trivial⟩ (aW ⟨rfl, trivial⟩ (aW ⟨rfl, trivial⟩ (aW ⟨rfl, trivial⟩ (aW ⟨rfl, trivial⟩ (aW ⟨rfl, trivial⟩ (aW ⟨rfl, trivial⟩ (aW ⟨rfl, trivial⟩ (aW ⟨rfl, trivial⟩ (aW ⟨rfl, trivial⟩ (aW ⟨rfl, trivial⟩ (aW ⟨rfl, trivial⟩ (aW ⟨rfl, trivial⟩ (aW ⟨rfl, trivial⟩ (aW ⟨rfl, trivial⟩ (aW ⟨rfl, trivial⟩ (aW ⟨rfl, trivial⟩ (aW ⟨rfl, trivial⟩ (aW ⟨rfl, trivial⟩ (aW ⟨rfl, trivial⟩ (aG)))))))))))))))))))))) fun B2 => ?_))))
 refine ro rfl (cQ (cJ 0)) (eX (ts (rn rfl (eW (Ts := [Is (.bool false), Is (.slice none 0 0), Is (.bool false), Is (.slice none 0 0), Is (.slice none 0 0), Is (.bool false), Is (.slice none 0 0), Is (.bool false), Is (.slice none 0 0), Is (.slice none 0 0), Is (.bool false), Is (.slice none 0 0), Is (.bool false), Is (.slice none 0 0), Is (.slice none 0 0), Is (.bool false), Is (.slice none 0 0), Is (.bool false), Is (.slice none 0 0), Is (.slice none 0 0)]) O_192 rfl (fun V => aW ⟨rfl, trivial⟩ (aW ⟨rfl, trivial⟩ (aW ⟨rfl, trivial⟩ (aW ⟨rfl, trivial⟩ (aW ⟨rfl, trivial⟩ (aW ⟨rfl, trivial⟩ (aW ⟨rfl, trivial⟩ (aW ⟨rfl, trivial⟩ (aW ⟨rfl, trivial⟩ (aW ⟨rfl, trivial⟩ (aW ⟨rfl, trivial⟩ (aW ⟨rfl, trivial⟩ (aW ⟨rfl, trivial⟩ (aW ⟨rfl, trivial⟩ (aW ⟨rfl, trivial⟩ (aW ⟨rfl, trivial⟩ (aW ⟨rfl, trivial⟩ (aW ⟨rfl, trivial⟩ (aW ⟨rfl, trivial⟩ (aW ⟨rfl, trivial⟩ (aG)))))))))))))))))))))) fun B4 => ?_)))
 refine eX (cK (ts (ro rfl (eZ fa_30_0 (Ht rfl) rfl) (ro rfl (eY A_27 Z_27 (Ht rfl) (i := 0) rfl rfl) (ro rfl (dG U_27 (Ht rfl) len_map) (ro rfl (op_neqN (Ht rfl) (cJ 2)) (eX (T_condF (Ht rfl) (by simp [h2]) ?_))))))))
 refine cU (cK (ts (ro rfl (cX (cJ 0)) (eX (eG ?_)))))
 refine T_loop (fun (i : Nat) => i ≤ 2) (fun (i : Nat) => 2 - i) (fun (i : Nat) => [(1, PtrB B1 0), (2, PtrB B2 0), (4, PtrB B4 0), (11, NT .i64 i)]) (fun (i : Nat) => [box B1 30 [NumsT fz, NumM f], box B2 192 (nbZ ++ nbZ ++ (nbZ ++ nbZ)), box B4 192 (fxC f i)]) 0 (Nat.zero_le _)
  (aQ rfl (aQ rfl (aQ rfl (aQ rfl aX)))) (aU (box_of rfl) (aU (box_of rfl) (aU (box_of rfl) aY))) (fun i hi => ?_)
 refine ts (ro rfl (gV (Ht rfl) (cJ 2)) (eX (cK (dQ (Ht rfl) (fun hd => ?_) (fun hd => ?_)))))
 ·have hi2 : i < 2 := by simp only [decide_eq_true_eq] at hd; omega
  have hxl := fxC_len f i
  refine cU (cK (eG (ts (rm rfl (ra rfl (eX (cY (rm rfl (ro rfl (eZ fa_30_1 (Ht rfl) rfl) (ro rfl (eY A_28 Z_28 (Ht rfl) (i := 0) rfl rfl) (rm rfl (ro rfl (dZ U_28 Z_27 (Ht rfl) (Ht rfl) rfl (dY (dU (d := []) (by omega)))) (ro rfl (dJ A_27 Z_27 (Ht rfl)) (ro rfl (op_s2a2 U_191 (Has.to (Ht rfl) (slT_of (row2 hf hi2))) rfl) (ro rfl (dJ Tryz.isAgg191 Z_191 (Ht rfl)) (ro rfl (op_idxAB U_192 Z_191 (Ht rfl) (Ht rfl) rfl (by omega) rfl) ?_))))))))))))))))
  refine gJ Z_191 (Ht rfl) (Ht rfl) rfl (i := 2) rfl (by rw [hxl]; omega) rfl rfl ?_
  refine eX (T_blk (cY (ro rfl (dV (Ht rfl) (cJ 1) (by show _ < 9223372036854775808; first | omega | (simp only [lim]; omega))) (rm rfl (eX (gQ (i + 1) hi2 (by omega) (aQ rfl (aQ rfl (aQ rfl (aQ rfl aX)))) (aU (box_of rfl) (aU (box_of rfl) (aU (box_of (fxC_next f hi2)) aY)))))))))
 ·obtain rfl : i = 2 := by simp only [decide_eq_false_iff_not] at hd; omega
  refine gK rfl (ts (ro rfl (eJ A_192 Z_192 (Ht rfl) (i := 2) rfl rfl rfl) (gJ Z_192 (Ht rfl) (Ht rfl) rfl (i := 1) rfl (aK rfl) rfl rfl (ro rfl (cQ (cJ 0)) (eX ?_)))))
  exact T_ret2 rfl (fY A_192 Z_192 rfl (i := 1) rfl rfl) (eU rfl)
theorem c_fixture0 {fz : List Qi} {f : List (List Qi)} (h2 : fz.length ≠ 2) : Fun Tryz.prog 231 [NetT fz f] (TupT [AggT (fxC [] 0), IntT .i64 4]) := by
 refine Fun.intro Tryz.func231 rfl Tryz.ntmps231 rfl (fun cx => (ts (rn rfl (fU (Ht rfl)) fun B1 => (rn rfl (eW (Ts := [Is (.bool false), Is (.slice none 0 0), Is (.bool false), Is (.slice none 0 0), Is (.slice none 0 0), Is (.bool false), Is (.slice none 0 0), Is (.bool false), Is (.slice none 0 0), Is (.slice none 0 0), Is (.bool false), Is (.slice none 0 0), Is (.bool false), Is (.slice none 0 0), Is (.slice none 0 0), Is (.bool false), Is (.slice none 0 0), Is (.bool false), Is (.slice none 0 0), Is (.slice none 0 0)]) O_192 rfl (fun V => aW ⟨rfl, trivial⟩ (aW ⟨rfl, trivial⟩ (aW ⟨rfl, trivial⟩ (aW ⟨rfl, trivial⟩ (aW ⟨rfl, trivial⟩ (aW ⟨rfl, trivial⟩ (aW ⟨rfl, trivial⟩ (aW ⟨rfl, trivial⟩ (aW ⟨rfl, trivial⟩ (aW ⟨rfl, trivial⟩ (aW ⟨rfl, trivial⟩ (aW ⟨rfl, trivial⟩ (aW ⟨rfl, trivial⟩ (aW ⟨rfl, trivial⟩ (aW ⟨rfl, trivial⟩ (aW ⟨rfl, trivial⟩ (aW ⟨rfl, trivial⟩ (aW ⟨rfl, trivial⟩ (aW ⟨rfl, trivial⟩ (aW ⟨rfl, trivial⟩ (aG)))))))))))))))))))))) fun B2 => ?_))))
 refine ro rfl (cQ (cJ 0)) (eX (ts (rn rfl (eW (Ts := [Is (.bool false), Is (.slice none 0 0), Is (.bool false), Is (.slice none 0 0), Is (.slice none 0 0), Is (.bool false), Is (.slice none 0 0), Is (.bool false), Is (.slice none 0 0), Is (.slice none 0 0), Is (.bool false), Is (.slice none 0 0), Is (.bool false), Is (.slice none 0 0), Is (.slice none 0 0), Is (.bool false), Is (.slice none 0 0), Is (.bool false), Is (.slice none 0 0), Is (.slice none 0 0)]) O_192 rfl (fun V => aW ⟨rfl, trivial⟩ (aW ⟨rfl, trivial⟩ (aW ⟨rfl, trivial⟩ (aW ⟨rfl, trivial⟩ (aW ⟨rfl, trivial⟩ (aW ⟨rfl, trivial⟩ (aW ⟨rfl, trivial⟩ (aW ⟨rfl, trivial⟩ (aW ⟨rfl, trivial⟩ (aW ⟨rfl, trivial⟩ (aW ⟨rfl, trivial⟩ (aW ⟨rfl, trivial⟩ (aW ⟨rfl, trivial⟩ (aW ⟨rfl, trivial⟩ (aW ⟨rfl, trivial⟩ (aW ⟨rfl, trivial⟩ (aW ⟨rfl, trivial⟩ (aW ⟨rfl, trivial⟩ (aW ⟨rfl, trivial⟩ (aW ⟨rfl, trivial⟩ (aG)))))))))))))))))))))) fun B4 => ?_)))
 refine eX (cK (ts (ro rfl (eZ fa_30_0 (Ht rfl) rfl) (ro rfl (eY A_27 Z_27 (Ht rfl) (i := 0) rfl rfl) (ro rfl (dG U_27 (Ht rfl) len_map) (ro rfl (op_neqN (Ht rfl) (cJ 2)) (eX (T_condT (Ht rfl) (by simp; omega) ?_))))))))
 refine ts (ro rfl (eJ A_192 Z_192 (Ht rfl) (i := 2) rfl rfl rfl) (gJ Z_192 (Ht rfl) (Ht rfl) rfl (i := 1) rfl (aK rfl) rfl rfl (ro rfl (cQ (cJ 4)) (eX ?_))))
 exact T_ret2 rfl (fY A_192 Z_192 rfl (i := 1) rfl rfl) (eU rfl)
theorem c_attach2 {z fz : List Qi} {s f : List (List Qi)} {port : Int} {x L : Nat} (h2 : fz.length = 2) (hf : Shp f 2 2) (hx : x = 1 ∨ x = 2) (hfz : FitL z L) (hff : FitL fz L) (hL : 1 ≤ L) (hLb : L ≤ 1000000) (hl : z.length ≤ 1000) : Fun Tryz.prog 149 [NetT z s, IntT .i64 port, NetT fz f, NT .i64 x] (TupT [AggT (fxC f 2), IntT .i64 (fxE z fz port x)]) := by
 refine Fun.intro Tryz.func149 rfl Tryz.ntmps149 rfl (fun cx => (ts (rn rfl (fU (Ht rfl)) fun B4 => (rn rfl (fU (Ht rfl)) fun B6 => (rn rfl (eW (Ts := [Is (.bool false), Is (.slice none 0 0), Is (.bool false), Is (.slice none 0 0), Is (.slice none 0 0), Is (.bool false), Is (.slice none 0 0), Is (.bool false), Is (.slice none 0 0), Is (.slice none 0 0), Is (.bool false), Is (.slice none 0 0), Is (.bool false), Is (.slice none 0 0), Is (.slice none 0 0), Is (.bool false), Is (.slice none 0 0), Is (.bool false), Is (.slice none 0 0), Is (.slice none 0 0)]) O_192 rfl (fun V => aW ⟨rfl, trivial⟩ (aW ⟨rfl, trivial⟩ (aW ⟨rfl, trivial⟩ (aW ⟨rfl, trivial⟩ (aW ⟨rfl, trivial⟩ (aW ⟨rfl, trivial⟩ (aW ⟨rfl, trivial⟩ (aW ⟨rfl, trivial⟩ (aW ⟨rfl, trivial⟩ (aW ⟨rfl, trivial⟩ (aW ⟨rfl, trivial⟩ (aW ⟨rfl, trivial⟩ (aW ⟨rfl, trivial⟩ (aW ⟨rfl, trivial⟩ (aW ⟨rfl, trivial⟩ (aW ⟨rfl, trivial⟩ (aW ⟨rfl, trivial⟩ (aW ⟨rfl, trivial⟩ (aW ⟨rfl, trivial⟩ (aW ⟨rfl, trivial⟩ (aG)))))))))))))))))))))) fun B8 => ?_)))))
 refine ro rfl (cQ (cJ 0)) (eX (ts (ro rfl (eJ A_30 Z_30 (Ht rfl) (i := 1) rfl rfl rfl) (ro rfl (cZ Tryz.call231 (c_fixture2 h2 hf) ⟨(Ht rfl), trivial⟩) (rm rfl (ro rfl (dK (Ht rfl) rfl) (ro rfl (dK (Ht rfl) rfl) (rn rfl (eW (Ts := [Is (.bool false), Is (.slice none 0 0), Is (.bool false), Is (.slice none 0 0), Is (.slice none 0 0), Is (.bool false), Is (.slice none 0 0), Is (.bool false), Is (.slice none 0 0), Is (.slice none 0 0), Is (.bool false), Is (.slice none 0 0), Is (.bool false), Is (.slice none 0 0), Is (.slice none 0 0), Is (.bool false), Is (.slice none 0 0), Is (.bool false), Is (.slice none 0 0), Is (.slice none 0 0)]) O_192 rfl (fun V => aW ⟨rfl, trivial⟩ (aW ⟨rfl, trivial⟩ (aW ⟨rfl, trivial⟩ (aW ⟨rfl, trivial⟩ (aW ⟨rfl, trivial⟩ (aW ⟨rfl, trivial⟩ (aW ⟨rfl, trivial⟩ (aW ⟨rfl, trivial⟩ (aW ⟨rfl, trivial⟩ (aW ⟨rfl, trivial⟩ (aW ⟨rfl, trivial⟩ (aW ⟨rfl, trivial⟩ (aW ⟨rfl, trivial⟩ (aW ⟨rfl, trivial⟩ (aW ⟨rfl, trivial⟩ (aW ⟨rfl, trivial⟩ (aW ⟨rfl, trivial⟩ (aW ⟨rfl, trivial⟩ (aW ⟨rfl, trivial⟩ (aW ⟨rfl, trivial⟩ (aG)))))))))))))))))))))) fun B10 => ?_))))))))
 refine gJ Z_192 (Ht rfl) (Ht rfl) rfl (i := 3) rfl (aK rfl) rfl rfl (ra rfl (eX (cK (eG (ts (rm rfl (ro rfl (op_neq (Ht rfl) cV) (ra rfl (eX (T_condF (Ht rfl) (by rfl) ?_))))))))))
 refine ts (ro rfl (eJ A_30 Z_30 (Ht rfl) (i := 0) rfl rfl rfl) (rm rfl (ro rfl (cZ Tryz.call171 c_has ⟨(Ht rfl), (Ht rfl), trivial⟩) (ro rfl (op_not (Ht rfl)) (ra rfl (eX (dQ (Ht rfl) (fun hb => ?_) (fun hb => ?_))))))))
 ·have he := fx_1 (x := x) h2 (by simpa only [Bool.not_eq_true', decide_eq_false_iff_not] using hb : ¬ (1 ≤ port ∧ port ≤ (z.length : Int)))
  refine ts (ro rfl (eJ A_192 Z_192 (Ht rfl) (i := 3) rfl rfl rfl) (gJ Z_192 (Ht rfl) (Ht rfl) rfl (i := 2) rfl (aK rfl) rfl rfl (ro rfl (cQ (cJ 1)) (eX (T_ret2 rfl (fY A_192 Z_192 rfl (i := 2) rfl rfl) (fX (eU rfl) ?_))))))
  exact (int_of he.symm)
 ·have hb2 : 1 ≤ port ∧ port ≤ (z.length : Int) := by simpa using hb
  have hd := fx_d (x := x) h2 hb2
  haveI g1 : FitC (gv fz (x - 1)) L := hff.get hL _
  haveI g2 : FitC (gv z (port - 1).toNat) L := hfz.get hL _
  refine cK (fJ (m := 12) (dp 6 rfl (eZ fa_30_0 (Ht rfl) rfl) (dq 29 0 rfl (eY A_27 Z_27 (Ht rfl) (i := 1) rfl rfl) (dp 3 rfl (cX (Ht rfl)) (dq 31 2 rfl (dW (Ht rfl) (cJ 1) (by omega) (by show _ < 9223372036854775808; first | omega | (simp only [lim]; omega))) (dqq 30 1 32 3 rfl (dZ U_27 Z_45 (Ht rfl) (Ht rfl) rfl (dY (dU (d := Qi.zero) (by omega)))) (dq 33 4 rfl (dJ A_45 Z_45 (Ht rfl)) (dp 4 rfl (eZ fa_30_0 (Ht rfl) rfl) (dq 35 6 rfl (eY A_27 Z_27 (Ht rfl) (i := 0) rfl rfl) ?_)))))))))
  refine dp 1 rfl (cX (Ht rfl)) (dq 37 8 rfl (op_sub (Ht rfl) cV (r := (((port - 1).toNat : Nat) : Int)) ((w64 (z := port - 1) (by omega)).trans (by omega))) ?_)
  refine dqq 36 7 38 9 rfl (dZ U_27 Z_45 (Ht rfl) (Ht rfl) rfl (dY (dU (d := Qi.zero) (by omega)))) (dq 39 10 rfl (dJ A_45 Z_45 (Ht rfl)) (fW mixed rfl (by kernel_rfl) (aJ (aJ (aJ (aJ (aJ (aJ (aJ (aJ (aJ (aJ (aJ (aJ (aV (ro rfl (cZ Tryz.call109 (c_Same (x := gv fz (x - 1)) (y := gv z (port - 1).toNat) (L := L) (M := L) (by omega) (by omega)) ⟨(Ht rfl), (Ht rfl), trivial⟩) (ro rfl (op_not (Ht rfl)) (ra rfl (eX (dQ (Ht rfl) (fun hc => ?_) (fun hc => ?_)))))))))))))))))))))
  ·have he : fxE z fz port x = 40 := by rw [hd, if_neg (by simpa using hc)]
   refine ts (ro rfl (eJ A_192 Z_192 (Ht rfl) (i := 3) rfl rfl rfl) (gJ Z_192 (Ht rfl) (Ht rfl) rfl (i := 2) rfl (aK rfl) rfl rfl (ro rfl (cQ (cJ 40)) (eX (T_ret2 rfl (fY A_192 Z_192 rfl (i := 2) rfl rfl) (fX (eU rfl) ?_))))))
   exact (int_of he.symm)
  ·have he : fxE z fz port x = 0 := by rw [hd, if_pos (by simpa using hc)]
   refine cU (T_blk (ts (ro rfl (eJ A_192 Z_192 (Ht rfl) (i := 3) rfl rfl rfl) (gJ Z_192 (Ht rfl) (Ht rfl) rfl (i := 2) rfl (aK rfl) rfl rfl (ro rfl (cQ (cJ 0)) (eX (T_ret2 rfl (fY A_192 Z_192 rfl (i := 2) rfl rfl) (fX (eU rfl) ?_))))))))
   exact (int_of he.symm)
theorem c_attach0 {z fz : List Qi} {s f : List (List Qi)} {port : Int} {x : Nat} (h2 : fz.length ≠ 2) : Fun Tryz.prog 149 [NetT z s, IntT .i64 port, NetT fz f, NT .i64 x] (TupT [AggT (fxC [] 0), IntT .i64 4]) := by
 refine Fun.intro Tryz.func149 rfl Tryz.ntmps149 rfl (fun cx => (ts (rn rfl (fU (Ht rfl)) fun B4 => (rn rfl (fU (Ht rfl)) fun B6 => (rn rfl (eW (Ts := [Is (.bool false), Is (.slice none 0 0), Is (.bool false), Is (.slice none 0 0), Is (.slice none 0 0), Is (.bool false), Is (.slice none 0 0), Is (.bool false), Is (.slice none 0 0), Is (.slice none 0 0), Is (.bool false), Is (.slice none 0 0), Is (.bool false), Is (.slice none 0 0), Is (.slice none 0 0), Is (.bool false), Is (.slice none 0 0), Is (.bool false), Is (.slice none 0 0), Is (.slice none 0 0)]) O_192 rfl (fun V => aW ⟨rfl, trivial⟩ (aW ⟨rfl, trivial⟩ (aW ⟨rfl, trivial⟩ (aW ⟨rfl, trivial⟩ (aW ⟨rfl, trivial⟩ (aW ⟨rfl, trivial⟩ (aW ⟨rfl, trivial⟩ (aW ⟨rfl, trivial⟩ (aW ⟨rfl, trivial⟩ (aW ⟨rfl, trivial⟩ (aW ⟨rfl, trivial⟩ (aW ⟨rfl, trivial⟩ (aW ⟨rfl, trivial⟩ (aW ⟨rfl, trivial⟩ (aW ⟨rfl, trivial⟩ (aW ⟨rfl, trivial⟩ (aW ⟨rfl, trivial⟩ (aW ⟨rfl, trivial⟩ (aW ⟨rfl, trivial⟩ (aW ⟨rfl, trivial⟩ (aG)))))))))))))))))))))) fun B8 => ?_)))))
 refine ro rfl (cQ (cJ 0)) (eX (ts (ro rfl (eJ A_30 Z_30 (Ht rfl) (i := 1) rfl rfl rfl) (ro rfl (cZ Tryz.call231 (c_fixture0 h2) ⟨(Ht rfl), trivial⟩) (rm rfl (ro rfl (dK (Ht rfl) rfl) (ro rfl (dK (Ht rfl) rfl) (rn rfl (eW (Ts := [Is (.bool false), Is (.slice none 0 0), Is (.bool false), Is (.slice none 0 0), Is (.slice none 0 0), Is (.bool false), Is (.slice none 0 0), Is (.bool false), Is (.slice none 0 0), Is (.slice none 0 0), Is (.bool false), Is (.slice none 0 0), Is (.bool false), Is (.slice none 0 0), Is (.slice none 0 0), Is (.bool false), Is (.slice none 0 0), Is (.bool false), Is (.slice none 0 0), Is (.slice none 0 0)]) O_192 rfl (fun V => aW ⟨rfl, trivial⟩ (aW ⟨rfl, trivial⟩ (aW ⟨rfl, trivial⟩ (aW ⟨rfl, trivial⟩ (aW ⟨rfl, trivial⟩ (aW ⟨rfl, trivial⟩ (aW ⟨rfl, trivial⟩ (aW ⟨rfl, trivial⟩ (aW ⟨rfl, trivial⟩ (aW ⟨rfl, trivial⟩ (aW ⟨rfl, trivial⟩ (aW ⟨rfl, trivial⟩ (aW ⟨rfl, trivial⟩ (aW ⟨rfl, trivial⟩ (aW ⟨rfl, trivial⟩ (aW ⟨rfl, trivial⟩ (aW ⟨rfl, trivial⟩ (aW ⟨rfl, trivial⟩ (aW ⟨rfl, trivial⟩ (aW ⟨rfl, trivial⟩ (aG)))))))))))))))))))))) fun B10 => ?_))))))))
 refine gJ Z_192 (Ht rfl) (Ht rfl) rfl (i := 3) rfl (aK rfl) rfl rfl (ra rfl (eX (cK (eG (ts (rm rfl (ro rfl (op_neq (Ht rfl) cV) (ra rfl (eX (T_condT (Ht rfl) (by rfl) ?_))))))))))
 refine ts (ro rfl (eJ A_192 Z_192 (Ht rfl) (i := 3) rfl rfl rfl) (rm rfl (gJ Z_192 (Ht rfl) (Ht rfl) rfl (i := 2) rfl (aK rfl) rfl rfl (ra rfl (eX ?_)))))
 exact T_ret2 rfl (fY A_192 Z_192 rfl (i := 2) rfl rfl) (eU rfl)
theorem c_ratios0 {z : List Qi} {s : List (List Qi)} {p : Nat} {e : Qi} {L M : Nat} (hs : Shp s z.length z.length) (hp : p < z.length) (hz : z.length ≤ 1000) (hf : FitM s L) (he2 : FitC e M) (hL : 1 ≤ L) (hLb : L + 3 * M + 2 ≤ 1000000) (he : e = Qi.zero) : Fun Tryz.prog 150 [NetT z s, NT .i64 p, NumT e] (TupT [NumsT [], NumsT [], IntT .i64 6]) := by
 have hsl := hs.1
 have hspr := hs.row hp
 haveI := he2
 refine Fun.intro Tryz.func150 rfl Tryz.ntmps150 rfl (fun cx => (ts (rn rfl (fU (Ht rfl)) fun B3 => (rn rfl (fU (Ht rfl)) fun B5 => (ro rfl (cQ cV) (ro rfl (cQ cV) (ro rfl (cQ (cJ 0)) (eX (cK (cK (T_row 45 5 (T_row 45 5 (cY (ro rfl (eZ fa_30_1 (Ht rfl) rfl) (ro rfl (eY A_28 Z_28 (Ht rfl) (i := 0) rfl rfl) (ro rfl (dG U_28 (Ht rfl) (by rw [List.length_map, hsl])) ?_))))))))))))))))
 refine ro rfl (cX (cJ 0)) (eX (eG ?_))
 refine T_loop3 (fun (i : Nat) (vU : Value) (vV : Value) => i = 0) (fun (i : Nat) (vU : Value) (vV : Value) => z.length - i) (fun (i : Nat) (vU : Value) (vV : Value) => [(1, NT .i64 p), (3, PtrB B3 0), (5, PtrB B5 0), (6, Is vU), (7, Is vV), (8, NT .i64 0), (16, NT .i64 z.length), (17, NT .i64 i)]) (fun (i : Nat) (vU : Value) (vV : Value) => [box B3 30 [NumsT z, NumM s], box B5 45 (nb e), rowO 45 5 vU ((tab i (fun i => gm s i p / e)).map NumT), rowO 45 5 vV ((tab i (fun i => gm s p i / e)).map NumT)]) 0 _ _ rfl
  (aQ rfl (aQ rfl (aQ rfl (aQ rfl (aQ rfl (aQ rfl (aQ rfl (aQ rfl aX)))))))) (aU (box_of rfl) (aU (box_of rfl) (aU (rowO_of rfl) (aU (rowO_of rfl) aY)))) (fun i vU vV hi => ?_)
 refine ts (ro rfl (gV (Ht rfl) (Ht rfl)) (eX (cK (dQ (Ht rfl) (fun hd => ?_) (fun hd => ?_)))))
 ·have hin : i < z.length := by simp only [decide_eq_true_eq] at hd; omega
  have hsr := hs.row hin
  haveI g1 : FitC (gm s i p) L := hf.get hL _ _
  haveI g2 : FitC (gm s p i) L := hf.get hL _ _
  refine cU (cK (eG (ts (rm rfl (ra rfl (eX (cK (Y.D_start (m := 16) [] (bY (Ei := [(3, _)]) rfl rfl (bQ (bJ rfl rfl) bX) rfl rfl (dX rfl (eZ fa_30_1 (Ht rfl) rfl)) (bY (Ei := [(21, _)]) rfl rfl (bQ (bZ 0 rfl rfl) bX) rfl rfl (dX rfl (eY A_28 Z_28 (Ht rfl) (i := 0) rfl rfl)) (bY (Ei := [(9, _)]) rfl rfl (bQ (bJ rfl rfl) bX) rfl rfl (dX rfl (cX (Ht rfl))) (bY (Ei := [(22, _), (23, _)]) rfl rfl (bQ (bZ 1 rfl rfl) (bQ (bZ 2 rfl rfl) bX)) rfl rfl (dX rfl (dZ U_28 Z_27 (Ht rfl) (Ht rfl) rfl (dY (dU (d := []) (by omega))))) ?_))))))))))))
  refine bY (Ei := [(24, _)]) rfl rfl (bQ (bZ 3 rfl rfl) bX) rfl rfl (dX rfl (dJ A_27 Z_27 (Ht rfl))) (bY (Ei := [(1, _)]) rfl rfl (bQ (bJ rfl rfl) bX) rfl rfl (dX rfl (cX (Ht rfl))) (bY (Ei := [(25, _), (26, _)]) rfl rfl (bQ (bZ 4 rfl rfl) (bQ (bZ 5 rfl rfl) bX)) rfl rfl (dX rfl (dZ U_27 Z_45 (Ht rfl) (Ht rfl) rfl (dY (dU (d := Qi.zero) (by omega))))) (bY (Ei := [(27, _)]) rfl rfl (bQ (bZ 6 rfl rfl) bX) rfl rfl (dX rfl (dJ A_45 Z_45 (Ht rfl))) ?_)))
  refine bY (Ei := [(28, _)]) rfl rfl (bQ (bZ 7 rfl rfl) bX) rfl rfl (dX rfl (op_iface mkif_45 (Ht rfl))) (bY (Ei := [(5, _)]) rfl rfl (bQ (bJ rfl rfl) bX) rfl rfl (dX rfl (eJ A_45 Z_45 (Ht rfl) (i := 1) rfl rfl rfl)) (bY (Ei := [(29, _), (30, _)]) rfl rfl (bQ (bZ 8 rfl rfl) (bQ (bZ 9 rfl rfl) bX)) rfl rfl (dX rfl (op_invoke meth_45_Div K_59 (c_Div (x := gm s i p) (y := e) (L := L) (M := M) (by omega)) (Ht rfl) ⟨(Ht rfl), trivial⟩)) (bY (Ei := [(31, _)]) rfl rfl (bQ (bZ 10 rfl rfl) bX) rfl rfl (dX rfl (cX (Ht rfl))) ?_)))
  refine bY (Ei := [(20, _)]) rfl rfl (bQ (bZ 11 rfl rfl) bX) rfl rfl (dX rfl (dK (Ht rfl) rfl)) (bY (Ei := [(20, _)]) rfl rfl (bQ (bZ 11 rfl rfl) bX) rfl rfl (dX rfl (dK (Ht rfl) rfl)) (Y.D_newp (Ei := []) (fun bb => box bb 45 (nb (gm s i p / e))) 15 rfl rfl rfl bX rfl rfl (by kernel_rfl) (eW (Ts := [Is (.bool false), Is (.slice none 0 0), Is (.bool false), Is (.slice none 0 0), Is (.slice none 0 0)]) O_45 rfl (fun V => aW ⟨rfl, trivial⟩ (aW ⟨rfl, trivial⟩ (aW ⟨rfl, trivial⟩ (aW ⟨rfl, trivial⟩ (aW ⟨rfl, trivial⟩ (aG))))))) ?_))
  refine Y.D_putN (Ei := [(32, _)]) 14 rfl rfl rfl rfl rfl rfl (bQ (bZ 12 rfl rfl) bX) (fun bb => P_stA Z_45 (Ht rfl) (Ht rfl) rfl (i := 0) rfl (aK rfl) rfl rfl) (Y.D_done mixed rfl (by kernel_rfl) rfl (by simp [Y.okP]) rfl rfl (bU (bU (bU (bU (bU (bU (bU (bU (bU (bU (bU (bU (bU (bU (Y.F_newp (fun B10 => Y.F_putN (Y.F_nil ?_))))))))))))))))))
  refine ra rfl (eX (cK (gG (i := 4) (tt := 10) rfl rfl frz_ptr (T_keep [0, 1, 2, 3] rfl (by decide) (Y.D_start (m := 16) [] (bY (Ei := [(3, _)]) rfl rfl (bQ (bJ rfl rfl) bX) rfl rfl (dX rfl (eZ fa_30_1 (Ht rfl) rfl)) (bY (Ei := [(35, _)]) rfl rfl (bQ (bZ 0 rfl rfl) bX) rfl rfl (dX rfl (eY A_28 Z_28 (Ht rfl) (i := 0) rfl rfl)) (bY (Ei := [(1, _)]) rfl rfl (bQ (bJ rfl rfl) bX) rfl rfl (dX rfl (cX (Ht rfl))) (bY (Ei := [(36, _), (37, _)]) rfl rfl (bQ (bZ 1 rfl rfl) (bQ (bZ 2 rfl rfl) bX)) rfl rfl (dX rfl (dZ U_28 Z_27 (Ht rfl) (Ht rfl) rfl (dY (dU (d := []) (by omega))))) ?_)))))))))
  refine bY (Ei := [(38, _)]) rfl rfl (bQ (bZ 3 rfl rfl) bX) rfl rfl (dX rfl (dJ A_27 Z_27 (Ht rfl))) (bY (Ei := [(9, _)]) rfl rfl (bQ (bJ rfl rfl) bX) rfl rfl (dX rfl (cX (Ht rfl))) (bY (Ei := [(39, _), (40, _)]) rfl rfl (bQ (bZ 4 rfl rfl) (bQ (bZ 5 rfl rfl) bX)) rfl rfl (dX rfl (dZ U_27 Z_45 (Ht rfl) (Ht rfl) rfl (dY (dU (d := Qi.zero) (by omega))))) (bY (Ei := [(41, _)]) rfl rfl (bQ (bZ 6 rfl rfl) bX) rfl rfl (dX rfl (dJ A_45 Z_45 (Ht rfl))) ?_)))
  refine bY (Ei := [(42, _)]) rfl rfl (bQ (bZ 7 rfl rfl) bX) rfl rfl (dX rfl (op_iface mkif_45 (Ht rfl))) (bY (Ei := [(5, _)]) rfl rfl (bQ (bJ rfl rfl) bX) rfl rfl (dX rfl (eJ A_45 Z_45 (Ht rfl) (i := 1) rfl rfl rfl)) (bY (Ei := [(43, _), (44, _)]) rfl rfl (bQ (bZ 8 rfl rfl) (bQ (bZ 9 rfl rfl) bX)) rfl rfl (dX rfl (op_invoke meth_45_Div K_59 (c_Div (x := gm s p i) (y := e) (L := L) (M := M) (by omega)) (Ht rfl) ⟨(Ht rfl), trivial⟩)) (bY (Ei := [(45, _)]) rfl rfl (bQ (bZ 10 rfl rfl) bX) rfl rfl (dX rfl (cX (Ht rfl))) ?_)))
  refine bY (Ei := [(34, _)]) rfl rfl (bQ (bZ 11 rfl rfl) bX) rfl rfl (dX rfl (dK (Ht rfl) rfl)) (bY (Ei := [(34, _)]) rfl rfl (bQ (bZ 11 rfl rfl) bX) rfl rfl (dX rfl (dK (Ht rfl) rfl)) (Y.D_newp (Ei := []) (fun bb => box bb 45 (nb (gm s p i / e))) 15 rfl rfl rfl bX rfl rfl (by kernel_rfl) (eW (Ts := [Is (.bool false), Is (.slice none 0 0), Is (.bool false), Is (.slice none 0 0), Is (.slice none 0 0)]) O_45 rfl (fun V => aW ⟨rfl, trivial⟩ (aW ⟨rfl, trivial⟩ (aW ⟨rfl, trivial⟩ (aW ⟨rfl, trivial⟩ (aW ⟨rfl, trivial⟩ (aG))))))) ?_))
  refine Y.D_putN (Ei := [(46, _)]) 14 rfl rfl rfl rfl rfl rfl (bQ (bZ 12 rfl rfl) bX) (fun bb => P_stA Z_45 (Ht rfl) (Ht rfl) rfl (i := 0) rfl (aK rfl) rfl rfl) (Y.D_done mixed rfl (by kernel_rfl) rfl (by simp [Y.okP]) rfl rfl (bU (bU (bU (bU (bU (bU (bU (bU (bU (bU (bU (bU (bU (bU (Y.F_newp (fun B12 => Y.F_putN (Y.F_nil ?_))))))))))))))))))
  refine ra rfl (eX (cK (cK (gG (i := 4) (tt := 12) rfl rfl frz_ptr (T_keep [0, 1, 2, 3] rfl (by decide) (cY (rm rfl (ro rfl (op_neq (Ht rfl) cV) (rm rfl (fQ rfl rfl (eK rfl rfl (Ht rfl) (fun h => cX (Ht rfl))) (fQ rfl rfl (eK rfl rfl (Ht rfl) (fun h => op_neq (fV rfl h) cV)) (ro rfl (op_or (Ht rfl) (fun h => (fV rfl h))) (eX (T_condT (Ht rfl) (by simp [he]) ?_))))))))))))))
  refine ts (ro rfl (cQ cV) (ro rfl (cQ cV) (ro rfl (cQ (cJ 6)) (eX (T_ret3 rfl (fX (eU rfl) ?_) (fX (eU rfl) ?_) (eU rfl))))))
  ·exact nil_slT
  ·exact nil_slT
 ·exact absurd hd (by simp; omega)
theorem c_ratios1 {z : List Qi} {s : List (List Qi)} {p : Nat} {e : Qi} {L M : Nat} (hs : Shp s z.length z.length) (hp : p < z.length) (hz : z.length ≤ 1000) (hf : FitM s L) (he2 : FitC e M) (hL : 1 ≤ L) (hLb : L + 3 * M + 2 ≤ 1000000) (he : e ≠ Qi.zero) : Fun Tryz.prog 150 [NetT z s, NT .i64 p, NumT e] (TupT [NumsT (tab z.length (fun i => gm s i p / e)), NumsT (tab z.length (fun i => gm s p i / e)), IntT .i64 0]) := by
 have hsl := hs.1
 have hspr := hs.row hp
 haveI := he2
 refine Fun.intro Tryz.func150 rfl Tryz.ntmps150 rfl (fun cx => (ts (rn rfl (fU (Ht rfl)) fun B3 => (rn rfl (fU (Ht rfl)) fun B5 => (ro rfl (cQ cV) (ro rfl (cQ cV) (ro rfl (cQ (cJ 0)) (eX (cK (cK (T_row 45 5 (T_row 45 5 (cY (ro rfl (eZ fa_30_1 (Ht rfl) rfl) (ro rfl (eY A_28 Z_28 (Ht rfl) (i := 0) rfl rfl) (ro rfl (dG U_28 (Ht rfl) (by rw [List.length_map, hsl])) ?_))))))))))))))))
 refine ro rfl (cX (cJ 0)) (eX (eG ?_))
 refine T_loop3 (fun (i : Nat) (vU : Value) (vV : Value) => i ≤ z.length) (fun (i : Nat) (vU : Value) (vV : Value) => z.length - i) (fun (i : Nat) (vU : Value) (vV : Value) => [(1, NT .i64 p), (3, PtrB B3 0), (5, PtrB B5 0), (6, Is vU), (7, Is vV), (8, NT .i64 0), (16, NT .i64 z.length), (17, NT .i64 i)]) (fun (i : Nat) (vU : Value) (vV : Value) => [box B3 30 [NumsT z, NumM s], box B5 45 (nb e), rowO 45 5 vU ((tab i (fun i => gm s i p / e)).map NumT), rowO 45 5 vV ((tab i (fun i => gm s p i / e)).map NumT)]) 0 _ _ (Nat.zero_le _)
  (aQ rfl (aQ rfl (aQ rfl (aQ rfl (aQ rfl (aQ rfl (aQ rfl (aQ rfl aX)))))))) (aU (box_of rfl) (aU (box_of rfl) (aU (rowO_of rfl) (aU (rowO_of rfl) aY)))) (fun i vU vV hi => ?_)
 refine ts (ro rfl (gV (Ht rfl) (Ht rfl)) (eX (cK (dQ (Ht rfl) (fun hd => ?_) (fun hd => ?_)))))
 ·have hin : i < z.length := by simp only [decide_eq_true_eq] at hd; omega
  have hsr := hs.row hin
  haveI g1 : FitC (gm s i p) L := hf.get hL _ _
  haveI g2 : FitC (gm s p i) L := hf.get hL _ _
  refine cU (cK (eG (ts (rm rfl (ra rfl (eX (cK (Y.D_start (m := 16) [] (bY (Ei := [(3, _)]) rfl rfl (bQ (bJ rfl rfl) bX) rfl rfl (dX rfl (eZ fa_30_1 (Ht rfl) rfl)) (bY (Ei := [(21, _)]) rfl rfl (bQ (bZ 0 rfl rfl) bX) rfl rfl (dX rfl (eY A_28 Z_28 (Ht rfl) (i := 0) rfl rfl)) (bY (Ei := [(9, _)]) rfl rfl (bQ (bJ rfl rfl) bX) rfl rfl (dX rfl (cX (Ht rfl))) (bY (Ei := [(22, _), (23, _)]) rfl rfl (bQ (bZ 1 rfl rfl) (bQ (bZ 2 rfl rfl) bX)) rfl rfl (dX rfl (dZ U_28 Z_27 (Ht rfl) (Ht rfl) rfl (dY (dU (d := []) (by omega))))) ?_))))))))))))
  refine bY (Ei := [(24, _)]) rfl rfl (bQ (bZ 3 rfl rfl) bX) rfl rfl (dX rfl (dJ A_27 Z_27 (Ht rfl))) (bY (Ei := [(1, _)]) rfl rfl (bQ (bJ rfl rfl) bX) rfl rfl (dX rfl (cX (Ht rfl))) (bY (Ei := [(25, _), (26, _)]) rfl rfl (bQ (bZ 4 rfl rfl) (bQ (bZ 5 rfl rfl) bX)) rfl rfl (dX rfl (dZ U_27 Z_45 (Ht rfl) (Ht rfl) rfl (dY (dU (d := Qi.zero) (by omega))))) (bY (Ei := [(27, _)]) rfl rfl (bQ (bZ 6 rfl rfl) bX) rfl rfl (dX rfl (dJ A_45 Z_45 (Ht rfl))) ?_)))
  refine bY (Ei := [(28, _)]) rfl rfl (bQ (bZ 7 rfl rfl) bX) rfl rfl (dX rfl (op_iface mkif_45 (Ht rfl))) (bY (Ei := [(5, _)]) rfl rfl (bQ (bJ rfl rfl) bX) rfl rfl (dX rfl (eJ A_45 Z_45 (Ht rfl) (i := 1) rfl rfl rfl)) (bY (Ei := [(29, _), (30, _)]) rfl rfl (bQ (bZ 8 rfl rfl) (bQ (bZ 9 rfl rfl) bX)) rfl rfl (dX rfl (op_invoke meth_45_Div K_59 (c_Div (x := gm s i p) (y := e) (L := L) (M := M) (by omega)) (Ht rfl) ⟨(Ht rfl), trivial⟩)) (bY (Ei := [(31, _)]) rfl rfl (bQ (bZ 10 rfl rfl) bX) rfl rfl (dX rfl (cX (Ht rfl))) ?_)))
  refine bY (Ei := [(20, _)]) rfl rfl (bQ (bZ 11 rfl rfl) bX) rfl rfl (dX rfl (dK (Ht rfl) rfl)) (bY (Ei := [(20, _)]) rfl rfl (bQ (bZ 11 rfl rfl) bX) rfl rfl (dX rfl (dK (Ht rfl) rfl)) (Y.D_newp (Ei := []) (fun bb => box bb 45 (nb (gm s i p / e))) 15 rfl rfl rfl bX rfl rfl (by kernel_rfl) (eW (Ts := [Is (.bool false), Is (.slice none 0 0), Is (.bool false), Is (.slice none 0 0), Is (.slice none 0 0)]) O_45 rfl (fun V => aW ⟨rfl, trivial⟩ (aW ⟨rfl, trivial⟩ (aW ⟨rfl, trivial⟩ (aW ⟨rfl, trivial⟩ (aW ⟨rfl, trivial⟩ (aG))))))) ?_))
  refine Y.D_putN (Ei := [(32, _)]) 14 rfl rfl rfl rfl rfl rfl (bQ (bZ 12 rfl rfl) bX) (fun bb => P_stA Z_45 (Ht rfl) (Ht rfl) rfl (i := 0) rfl (aK rfl) rfl rfl) (Y.D_done mixed rfl (by kernel_rfl) rfl (by simp [Y.okP]) rfl rfl (bU (bU (bU (bU (bU (bU (bU (bU (bU (bU (bU (bU (bU (bU (Y.F_newp (fun B10 => Y.F_putN (Y.F_nil ?_))))))))))))))))))
  refine ra rfl (eX (cK (gG (i := 4) (tt := 10) rfl rfl frz_ptr (T_keep [0, 1, 2, 3] rfl (by decide) (Y.D_start (m := 16) [] (bY (Ei := [(3, _)]) rfl rfl (bQ (bJ rfl rfl) bX) rfl rfl (dX rfl (eZ fa_30_1 (Ht rfl) rfl)) (bY (Ei := [(35, _)]) rfl rfl (bQ (bZ 0 rfl rfl) bX) rfl rfl (dX rfl (eY A_28 Z_28 (Ht rfl) (i := 0) rfl rfl)) (bY (Ei := [(1, _)]) rfl rfl (bQ (bJ rfl rfl) bX) rfl rfl (dX rfl (cX (Ht rfl))) (bY (Ei := [(36, _), (37, _)]) rfl rfl (bQ (bZ 1 rfl rfl) (bQ (bZ 2 rfl rfl) bX)) rfl rfl (dX rfl (dZ U_28 Z_27 (Ht rfl) (Ht rfl) rfl (dY (dU (d := []) (by omega))))) ?_)))))))))
  refine bY (Ei := [(38, _)]) rfl rfl (bQ (bZ 3 rfl rfl) bX) rfl rfl (dX rfl (dJ A_27 Z_27 (Ht rfl))) (bY (Ei := [(9, _)]) rfl rfl (bQ (bJ rfl rfl) bX) rfl rfl (dX rfl (cX (Ht rfl))) (bY (Ei := [(39, _), (40, _)]) rfl rfl (bQ (bZ 4 rfl rfl) (bQ (bZ 5 rfl rfl) bX)) rfl rfl (dX rfl (dZ U_27 Z_45 (Ht rfl) (Ht rfl) rfl (dY (dU (d := Qi.zero) (by omega))))) (bY (Ei := [(41, _)]) rfl rfl (bQ (bZ 6 rfl rfl) bX) rfl rfl (dX rfl (dJ A_45 Z_45 (Ht rfl))) ?_)))
  refine bY (Ei := [(42, _)]) rfl rfl (bQ (bZ 7 rfl rfl) bX) rfl rfl (dX rfl (op_iface mkif_45 (Ht rfl))) (bY (Ei := [(5, _)]) rfl rfl (bQ (bJ rfl rfl) bX) rfl rfl (dX rfl (eJ A_45 Z_45 (Ht rfl) (i := 1) rfl rfl rfl)) (bY (Ei := [(43, _), (44, _)]) rfl rfl (bQ (bZ 8 rfl rfl) (bQ (bZ 9 rfl rfl) bX)) rfl rfl (dX rfl (op_invoke meth_45_Div K_59 (c_Div (x := gm s p i) (y := e) (L := L) (M := M) (by omega)) (Ht rfl) ⟨(Ht rfl), trivial⟩)) (bY (Ei := [(45, _)]) rfl rfl (bQ (bZ 10 rfl rfl) bX) rfl rfl (dX rfl (cX (Ht rfl))) ?_)))
  refine bY (Ei := [(34, _)]) rfl rfl (bQ (bZ 11 rfl rfl) bX) rfl rfl (dX rfl (dK (Ht rfl) rfl)) (bY (Ei := [(34, _)]) rfl rfl (bQ (bZ 11 rfl rfl) bX) rfl rfl (dX rfl (dK (Ht rfl) rfl)) (Y.D_newp (Ei := []) (fun bb => box bb 45 (nb (gm s p i / e))) 15 rfl rfl rfl bX rfl rfl (by kernel_rfl) (eW (Ts := [Is (.bool false), Is (.slice none 0 0), Is (.bool false), Is (.slice none 0 0), Is (.slice none 0 0)]) O_45 rfl (fun V => aW ⟨rfl, trivial⟩ (aW ⟨rfl, trivial⟩ (aW ⟨rfl, trivial⟩ (aW ⟨rfl, trivial⟩ (aW ⟨rfl, trivial⟩ (aG))))))) ?_))
  refine Y.D_putN (Ei := [(46, _)]) 14 rfl rfl rfl rfl rfl rfl (bQ (bZ 12 rfl rfl) bX) (fun bb => P_stA Z_45 (Ht rfl) (Ht rfl) rfl (i := 0) rfl (aK rfl) rfl rfl) (Y.D_done mixed rfl (by kernel_rfl) rfl (by simp [Y.okP]) rfl rfl (bU (bU (bU (bU (bU (bU (bU (bU (bU (bU (bU (bU (bU (bU (Y.F_newp (fun B12 => Y.F_putN (Y.F_nil ?_))))))))))))))))))
  refine ra rfl (eX (cK (cK (gG (i := 4) (tt := 12) rfl rfl frz_ptr (T_keep [0, 1, 2, 3] rfl (by decide) (cY (rm rfl (ro rfl (op_neq (Ht rfl) cV) (rm rfl (fQ rfl rfl (eK rfl rfl (Ht rfl) (fun h => cX (Ht rfl))) (fQ rfl rfl (eK rfl rfl (Ht rfl) (fun h => op_neq (fV rfl h) cV)) (ro rfl (op_or (Ht rfl) (fun h => (fV rfl h))) (eX (T_condF (Ht rfl) (by simp [he]) ?_))))))))))))))
  refine cU (Y.D_startA (m := 7) [] 3 2 rfl rfl (bY (Ei := [(6, _)]) rfl rfl (bQ (bJ rfl rfl) bX) rfl rfl (dX rfl (cX (Ht rfl))) (bY (Ei := [(10, _)]) rfl rfl (bQ (bJ rfl rfl) bX) rfl rfl (dX rfl (dJ A_45 Z_45 (Ht rfl))) (bY (Ei := [(55, _)]) rfl rfl (bQ (bZ 1 rfl rfl) bX) rfl rfl (dX rfl (op_bslice (xs := [.tmp 55]) U_27 Z_45 O_45 (cW (Ht rfl) cG) rfl rfl rfl)) (Y.D_app (Ei := [(54, _), (56, _)]) rfl rfl rfl rfl (bQ (bZ 0 rfl rfl) (bQ (bZ 2 rfl rfl) bX)) rfl (A_append (inf := Tryz.t45) und_27 info_45 rfl rfl rfl (Ht rfl) (Ht rfl) (by simp) (fun T hT => by simp at hT; subst hT; exact El.ag rfl) (by show _ * 88 ≤ _; simp only [List.length_map, tab_len, List.length_cons, List.length_nil]; omega) (by simp only [List.length_map, tab_len, List.length_cons, List.length_nil]; omega)) ?_)))))
  refine bY (Ei := [(7, _)]) rfl rfl (bQ (bJ rfl rfl) bX) rfl rfl (dX rfl (cX (Ht rfl))) (bY (Ei := [(12, _)]) rfl rfl (bQ (bJ rfl rfl) bX) rfl rfl (dX rfl (dJ A_45 Z_45 (Ht rfl))) (bY (Ei := [(59, _)]) rfl rfl (bQ (bZ 5 rfl rfl) bX) rfl rfl (dX rfl (op_bslice (xs := [.tmp 59]) U_27 Z_45 O_45 (cW (Ht rfl) cG) rfl rfl rfl)) (Y.D_done mixed rfl (by kernel_rfl) rfl (by simp [Y.okP]) rfl rfl (bU (bU (bU (Y.F_app (fun v2 => bU (bU (bU (Y.F_nil ?_)))))))))))
  refine R_append (inf := Tryz.t45) und_27 info_45 rfl rfl rfl (Ht rfl) (Ht rfl) (i := 3) rfl (by simp) (fun T hT => by simp at hT; subst hT; exact El.ag rfl) (by show _ * 88 ≤ _; simp only [List.length_map, tab_len, List.length_cons, List.length_nil]; omega) (by simp only [List.length_map, tab_len, List.length_cons, List.length_nil]; omega) rfl (fun v3 => ?_)
  refine ra rfl (ra rfl (eX (T_blk (cY (ro rfl (dV (Ht rfl) (cJ 1) (by show _ < 9223372036854775808; first | omega | (simp only [lim]; omega))) (rm rfl (eX ?_)))))))
  refine T_keep [0, 1, 4, 3] rfl (by decide) (gQ (i + 1, v2, v3) hin (by dsimp only; omega) (aQ rfl (aQ rfl (aQ rfl (aQ rfl (aQ rfl (aQ rfl (aQ rfl (aQ rfl aX)))))))) (aU (box_of rfl) (aU (box_of rfl) (aU (rowO_of (by rw [tab_succ, List.map_append]; rfl)) (aU (rowO_of (by rw [tab_succ, List.map_append]; rfl)) aY)))))
 ·obtain rfl : i = z.length := by simp only [decide_eq_false_iff_not] at hd; omega
  refine gK rfl (cK (gG (i := 2) (tt := 6) rfl rfl frz_row (gG (i := 3) (tt := 7) rfl rfl frz_row (cY (rm rfl (rm rfl (ra rfl (ra rfl (ro rfl (cQ (cJ 0)) (eX ?_))))))))))
  exact T_ret3 rfl (eU rfl) (eU rfl) (eU rfl)
theorem c_with {z : List Qi} {s : List (List Qi)} {p : Nat} {x : Qi} {F : Nat → Nat → Qi} (hs : Shp s z.length z.length) (hp : p < z.length) (hz : z.length ≤ 1000) : Fun Tryz.prog 151 [NetT z s, NT .i64 p, NumT x, ClT Tryz.prog (Fin z.length × Fin z.length) (fun x => [NT .i64 x.1.1, NT .i64 x.2.1]) (fun x => NumT (F x.1.1 x.2.1))] (NetT (z.set p x) (tab z.length fun i => tab z.length fun j => F i j)) := by
 refine Fun.intro Tryz.func151 rfl Tryz.ntmps151 rfl (fun cx => (ts (rn rfl (fU (Ht rfl)) fun B4 => (rn rfl (fU (Ht rfl)) fun B6 => (rn rfl (eW (Ts := [Is (.slice none 0 0), Is (.slice none 0 0)]) O_30 rfl (fun V => aW ⟨rfl, trivial⟩ (aW ⟨rfl, trivial⟩ (aG)))) fun B8 => (eX (cK (fJ (m := 5) (dp 4 rfl (eJ A_30 Z_30 (Ht rfl) (i := 0) rfl rfl rfl) (dp 4 rfl (eJ A_30 Z_30 (Ht rfl) (i := 0) rfl rfl rfl) (dq 11 1 rfl (cZ Tryz.call112 (c_left0 (z := z) (s := s) (by omega)) ⟨(Ht rfl), cV, trivial⟩) ?_)))))))))))
 refine C.D_new (Ei := [(10, _), (12, _)]) rfl rfl rfl (bV (bG 0 rfl rfl) (bV (bG 2 rfl rfl) bW)) (new_call0 Tryz.call111 (FunO.pack (c_partZ (z := z) (s := s) (Q := lfG [] z.length) (m := z.length) hs (fun x h => lfG_lt h) (all_len _) (by omega) (by omega))) ⟨(Ht rfl), (Ht rfl), trivial⟩) (C.D_new (Ei := []) rfl rfl rfl bW (eW (Ts := [Is (.slice none 0 0), Is (.slice none 0 0)]) O_30 rfl (fun V => aW ⟨rfl, trivial⟩ (aW ⟨rfl, trivial⟩ (aG)))) (fW mixed rfl (by kernel_rfl) (aJ (aJ (aJ (C.F_new (fun B13 => C.F_new (fun B9 => aV ?_))))))))
 refine gJ Z_30 (Ht rfl) (Ht rfl) rfl (i := 4) rfl (aK rfl) rfl rfl (eX (cK (T_keep [3, 0, 1, 2, 4] rfl (by decide) ?_)))
 obtain ⟨⟨vZ, bS⟩, hQ⟩ := B13
 refine T_star (X := [SA.emp, rowO 45 5 (.slice (some ⟨vZ, 0, none⟩) z.length z.length) ((subZ z (lfG [] z.length)).map NumT), matO bS 27 45 5 (FRow NumT (subM s (lfG [] z.length)))]) (Y := [box B4 30 [NumsT z, NumM s], box B6 45 (nb x), box B8 30 [Is (.slice none 0 0), Is (.slice none 0 0)], box B9 30 [Is (.slice (some ⟨vZ, 0, none⟩) z.length z.length), Is (.slice (some ⟨bS, 0, none⟩) z.length z.length)]]) (T_keep [1, 3, 4, 5, 6] rfl (by decide) (T_conv 0 rfl (rowO_of (congrArg (List.map NumT) all_sub)) (cY (ro rfl (eZ fa_30_0 (Ht rfl) rfl) (ro rfl (op_ldBp A_27 Z_27 (Ht rfl) (i := 4) rfl rfl) ?_)))))
 refine rm rfl (ro rfl (eJ A_45 Z_45 (Ht rfl) (i := 2) rfl rfl rfl) (ro rfl (op_idxO U_27 Z_45 (Ht rfl) (Ht rfl) rfl (i := 0) rfl (by rw [List.length_map]; omega) rfl) ?_))
 refine R_stO Z_45 (Ht rfl) (Ht rfl) (El.ag rfl) (i := 0) rfl rfl (by rw [List.length_map]; omega) rfl ?_
 refine eX (ts (ro rfl (eZ fa_30_0 (Ht rfl) rfl) (ro rfl (eY A_27 Z_27 (Ht rfl) (i := 1) rfl rfl) (ro rfl (dG U_27 (Ht rfl) len_map) (rm rfl (ro rfl (cZ Tryz.call119 (c_fill (n := z.length) (f := F) (by omega)) ⟨(Ht rfl), (Ht rfl), trivial⟩) (ro rfl (eZ fa_30_1 (Ht rfl) rfl) (R_st Z_28 (Ht rfl) (Ht rfl) (i := 4) rfl (aK rfl) rfl (eX (cK (T_conv 0 rfl (rowO_of (set_mapF NumT z p x)) (T_frzcell 4 0 0 rfl rfl rfl (by decide) (cY (ro rfl (eJ A_30 Z_30 (Ht rfl) (i := 4) rfl rfl rfl) ?_))))))))))))))
 refine gJ Z_30 (Ht rfl) (Ht rfl) rfl (i := 3) rfl (aK rfl) rfl rfl (eX ?_)
 exact fK rfl (fY A_30 Z_30 rfl (i := 3) rfl rfl)
end
section
open Go Go.RowKit
theorem tab_gv {n i : Nat} {f : Nat → Qi} (h : i < n) : (tab n f).getD i Qi.zero = f i := gv_tab h
theorem emD_fit {s f : List (List Qi)} {p L : Nat} (hs : FitM s L) (hf : FitM f L) (hL : 1 ≤ L) : FitC (emD s f p) (2 * L + 3) := by
 haveI := hs.get hL p p; haveI := hf.get hL 1 1; haveI := fit_one
 exact (inferInstance : FitC (Qi.ofInt 1 - gm f 1 1 * gm s p p) (1 + (L + L + 1) + 1)).le (by omega)
theorem embX_fit {s f : List (List Qi)} {p i j L : Nat} (hs : FitM s L) (hf : FitM f L) (hL : 1 ≤ L) (hd : emD s f p ≠ Qi.zero) : FitC (embX s f p i j) (20 * L + 20) := by
 haveI e := emD_fit (p := p) hs hf hL
 have q : ∀ a b, FitC (gm s a b / emD s f p) (7 * L + 11) := fun a b => (fit_div (hs.get hL a b) e hd).le (by omega)
 haveI q1 := q p p; haveI q2 := q i p; haveI q3 := q p j
 haveI := hs.get hL i j; haveI := hs.get hL p j; haveI := hf.get hL 1 1; haveI := hf.get hL 0 0; haveI := hf.get hL 0 1; haveI := hf.get hL 1 0
 rw [embX]
 split
 ·exact (inferInstance : FitC (_ + _ * (_ * _)) (L + (L + (L + (7 * L + 11) + 1) + 1) + 1)).le (by omega)
 ·split
  ·exact (inferInstance : FitC (_ * _) ((7 * L + 11) + L + 1)).le (by omega)
  ·split
   ·exact (inferInstance : FitC (_ * _) (L + (7 * L + 11) + 1)).le (by omega)
   ·exact (inferInstance : FitC (_ + _ * (_ * _)) (L + ((7 * L + 11) + (L + L + 1) + 1) + 1)).le (by omega)
theorem embM_fit {s f : List (List Qi)} {p n L : Nat} (hs : FitM s L) (hf : FitM f L) (hL : 1 ≤ L) (hd : emD s f p ≠ Qi.zero) : FitM (embM s f p n) (20 * L + 20) := FitM.tab fun i j _ _ => embX_fit hs hf hL hd
theorem tabq_get {n i : Nat} {f : Nat → Qi} (h : i < n) : ((tab n f).map NumT)[i]? = some (NumT (f i)) := by rw [List.getElem?_map, tab_get h]; rfl
theorem c_Embed1 {z : List Qi} {s f : List (List Qi)} {p i j L : Nat} (hs : Shp s z.length z.length) (hp : p < z.length) (hi : i < z.length) (hj : j < z.length) (hz : z.length ≤ 1000) (hfs : FitM s L) (hff : FitM f L) (hL : 1 ≤ L) (hLb : L ≤ 10000) (hd : emD s f p ≠ Qi.zero) : Fun Tryz.prog 152 [NT .i64 i, NT .i64 j, PT (NT .i64 p), PT (NumT (gm f 0 0)), PT (NumT (gm f 0 1)), PT (NumT (gm f 1 0)), PT (NumsT (tab z.length fun j => gm s p j / emD s f p)), PT (NumsT (tab z.length fun i => gm s i p / emD s f p)), PT (NetT z s), PT (NumT (gm f 1 1))] (NumT (embX s f p i j)) := by
 have hsl := hs.1
 have hsi := hs.row hi
 have hsp := hs.row hp
 haveI e := emD_fit (p := p) hfs hff hL
 have q : ∀ a b, FitC (gm s a b / emD s f p) (7 * L + 11) := fun a b => (fit_div (hfs.get hL a b) e hd).le (by omega)
 have hU : ∀ k, k < z.length → (tab z.length fun i => gm s i p / emD s f p).getD k Qi.zero = gm s k p / emD s f p := fun k h => tab_gv h
 have hV : ∀ k, k < z.length → (tab z.length fun j => gm s p j / emD s f p).getD k Qi.zero = gm s p k / emD s f p := fun k h => tab_gv h
 haveI := q p p; haveI := q i p; haveI := q p j
 haveI := hfs.get hL i j; haveI := hfs.get hL p j; haveI := hff.get hL 1 1; haveI := hff.get hL 0 0; haveI := hff.get hL 0 1; haveI := hff.get hL 1 0
 refine Fun.intro Tryz.func152 rfl Tryz.ntmps152 rfl (fun cx => (ts (rn rfl (eW (Ts := [Is (.bool false), Is (.slice none 0 0), Is (.bool false), Is (.slice none 0 0), Is (.slice none 0 0)]) O_45 rfl (fun V => aW ⟨rfl, trivial⟩ (aW ⟨rfl, trivial⟩ (aW ⟨rfl, trivial⟩ (aW ⟨rfl, trivial⟩ (aW ⟨rfl, trivial⟩ (aG))))))) fun B12 => (eX (cK (eG (ts (rm rfl (ro rfl (dJ A_3 Z_3 (Ht rfl)) (ro rfl (op_eqlN (Ht rfl) (Ht rfl)) (rm rfl (fQ rfl rfl (eK rfl rfl (Ht rfl) (fun h => cX (Ht rfl))) ?_))))))))))))
 refine fQ rfl rfl (eK rfl rfl (Ht rfl) (fun h => dJ A_3 Z_3 (Ht rfl))) (fQ rfl rfl (eK rfl rfl (Ht rfl) (fun h => op_eqlN (fV rfl h) (fV rfl h))) (ro rfl (op_and (Ht rfl) (fun h => (fV rfl h))) (ra rfl (eX (dQ (Ht rfl) (fun hb1 => ?_) (fun hb1 => ?_))))))
 ·have h2 : i = p ∧ j = p := by simpa using hb1
  refine cK (fJ (m := 12) (dp 3 rfl (dJ A_45 Z_45 (Ht rfl)) (dq 22 0 rfl (op_iface mkif_45 (Ht rfl)) (dp 4 rfl (dJ A_45 Z_45 (Ht rfl)) (dq 24 2 rfl (op_iface mkif_45 (Ht rfl)) (dp 5 rfl (dJ A_45 Z_45 (Ht rfl)) (dq 26 4 rfl (op_iface mkif_45 (Ht rfl)) (dp 6 rfl (dJ A_27 Z_27 (Ht rfl)) (dp 2 rfl (dJ A_3 Z_3 (Ht rfl)) (dqq 28 6 29 7 rfl (dZ U_27 Z_45 (Ht rfl) (Ht rfl) rfl (tabq_get hp)) (dq 30 8 rfl (dJ A_45 Z_45 (Ht rfl)) (dqq 27 5 31 9 rfl (op_invoke meth_45_Mul K_67 (c_Mul (x := gm f 1 0) (y := gm s p p / emD s f p) (L := L) (M := (7 * L + 11)) (by omega)) (Ht rfl) ⟨(Ht rfl), trivial⟩) ?_))))))))))))
  refine dqq 25 3 32 10 rfl (op_invoke meth_45_Mul K_67 (c_Mul (x := gm f 0 1) (y := gm f 1 0 * (gm s p p / emD s f p)) (L := L) (M := L + (7 * L + 11) + 1) (by omega)) (Ht rfl) ⟨(Ht rfl), trivial⟩) (fW mixed rfl (by kernel_rfl) (aJ (aJ (aJ (aJ (aJ (aJ (aJ (aJ (aJ (aJ (aJ (aJ (aV (ro rfl (op_invoke meth_45_Add Tryz.call68 (c_Add (x := gm f 0 0) (y := gm f 0 1 * (gm f 1 0 * (gm s p p / emD s f p))) (L := L) (M := L + (L + (7 * L + 11) + 1) + 1) (by omega)) (Ht rfl) ⟨(Ht rfl), trivial⟩) (gJ Z_45 (Ht rfl) (Ht rfl) rfl (i := 0) rfl (aK rfl) rfl rfl ?_))))))))))))))))
  refine eX (fK rfl (fX (fY A_45 Z_45 rfl (i := 0) rfl rfl) ?_))
  exact (num_of (by rw [embX, if_pos h2]))
 ·have h2 : ¬ (i = p ∧ j = p) := by simpa using hb1
  refine ts (rm rfl (ro rfl (dJ A_3 Z_3 (Ht rfl)) (ro rfl (op_eqlN (Ht rfl) (Ht rfl)) (ra rfl (eX (dQ (Ht rfl) (fun hb2 => ?_) (fun hb2 => ?_)))))))
  ·have h3 : j = p := by simpa using hb2
   refine cK (fJ (m := 6) (dp 7 rfl (dJ A_27 Z_27 (Ht rfl)) (dp 0 rfl (cX (Ht rfl)) (dqq 39 0 40 1 rfl (dZ U_27 Z_45 (Ht rfl) (Ht rfl) rfl (tabq_get hi)) (dq 41 2 rfl (dJ A_45 Z_45 (Ht rfl)) (dq 42 3 rfl (op_iface mkif_45 (Ht rfl)) (dp 5 rfl (dJ A_45 Z_45 (Ht rfl)) (fW mixed rfl (by kernel_rfl) (aJ (aJ (aJ (aJ (aJ (aJ (aV (ro rfl (op_invoke meth_45_Mul K_67 (c_Mul (x := gm s i p / emD s f p) (y := gm f 1 0) (L := (7 * L + 11)) (M := L) (by omega)) (Ht rfl) ⟨(Ht rfl), trivial⟩) ?_))))))))))))))))
   refine gJ Z_45 (Ht rfl) (Ht rfl) rfl (i := 0) rfl (aK rfl) rfl rfl (eX (fK rfl (fX (fY A_45 Z_45 rfl (i := 0) rfl rfl) ?_)))
   exact (num_of (by rw [embX, if_neg h2, if_pos h3]))
  ·have h3 : ¬ j = p := by simpa using hb2
   refine ts (rm rfl (ro rfl (dJ A_3 Z_3 (Ht rfl)) (ro rfl (op_eqlN (Ht rfl) (Ht rfl)) (ra rfl (eX (dQ (Ht rfl) (fun hb3 => ?_) (fun hb3 => ?_)))))))
   ·have h4 : i = p := by simpa using hb3
    refine cK (fJ (m := 6) (dp 4 rfl (dJ A_45 Z_45 (Ht rfl)) (dq 50 0 rfl (op_iface mkif_45 (Ht rfl)) (dp 6 rfl (dJ A_27 Z_27 (Ht rfl)) (dp 1 rfl (cX (Ht rfl)) (dqq 52 2 53 3 rfl (dZ U_27 Z_45 (Ht rfl) (Ht rfl) rfl (tabq_get hj)) (dq 54 4 rfl (dJ A_45 Z_45 (Ht rfl)) (fW mixed rfl (by kernel_rfl) (aJ (aJ (aJ (aJ (aJ (aJ (aV (ro rfl (op_invoke meth_45_Mul K_67 (c_Mul (x := gm f 0 1) (y := gm s p j / emD s f p) (L := L) (M := (7 * L + 11)) (by omega)) (Ht rfl) ⟨(Ht rfl), trivial⟩) ?_))))))))))))))))
    refine gJ Z_45 (Ht rfl) (Ht rfl) rfl (i := 0) rfl (aK rfl) rfl rfl (eX (fK rfl (fX (fY A_45 Z_45 rfl (i := 0) rfl rfl) ?_)))
    exact (num_of (by rw [embX, if_neg h2, if_neg h3, if_pos h4]))
   ·have h4 : ¬ i = p := by simpa using hb3
    refine cU (T_blk (cK (fJ (m := 26) (dp 8 rfl (op_fld1 fa_30_1 (Ht rfl) rfl) (dq 57 0 rfl (dJ A_28 Z_28 (Ht rfl)) (dp 0 rfl (cX (Ht rfl)) (dqq 58 1 59 2 rfl (dZ U_28 Z_27 (Ht rfl) (Ht rfl) rfl (dY (dU (d := []) (by omega)))) (dq 60 3 rfl (dJ A_27 Z_27 (Ht rfl)) (dp 1 rfl (cX (Ht rfl)) (dqq 61 4 62 5 rfl (dZ U_27 Z_45 (Ht rfl) (Ht rfl) rfl (dY (dU (d := Qi.zero) (by omega)))) (dq 63 6 rfl (dJ A_45 Z_45 (Ht rfl)) (dq 64 7 rfl (op_iface mkif_45 (Ht rfl)) ?_))))))))))))
    refine dp 7 rfl (dJ A_27 Z_27 (Ht rfl)) (dp 0 rfl (cX (Ht rfl)) (dqq 66 9 67 10 rfl (dZ U_27 Z_45 (Ht rfl) (Ht rfl) rfl (tabq_get hi)) (dq 68 11 rfl (dJ A_45 Z_45 (Ht rfl)) (dq 69 12 rfl (op_iface mkif_45 (Ht rfl)) (dp 9 rfl (dJ A_45 Z_45 (Ht rfl)) (dq 71 14 rfl (op_iface mkif_45 (Ht rfl)) (dp 8 rfl (op_fld1 fa_30_1 (Ht rfl) rfl) (dq 73 16 rfl (dJ A_28 Z_28 (Ht rfl)) (dp 2 rfl (dJ A_3 Z_3 (Ht rfl)) (dqq 74 17 75 18 rfl (dZ U_28 Z_27 (Ht rfl) (Ht rfl) rfl (dY (dU (d := []) (by omega)))) ?_))))))))))
    refine dq 76 19 rfl (dJ A_27 Z_27 (Ht rfl)) (dp 1 rfl (cX (Ht rfl)) (dqq 77 20 78 21 rfl (dZ U_27 Z_45 (Ht rfl) (Ht rfl) rfl (dY (dU (d := Qi.zero) (by omega)))) (dq 79 22 rfl (dJ A_45 Z_45 (Ht rfl)) (dqq 72 15 80 23 rfl (op_invoke meth_45_Mul K_67 (c_Mul (x := gm f 1 1) (y := gm s p j) (L := L) (M := L) (by omega)) (Ht rfl) ⟨(Ht rfl), trivial⟩) (dqq 70 13 81 24 rfl (op_invoke meth_45_Mul K_67 (c_Mul (x := gm s i p / emD s f p) (y := gm f 1 1 * gm s p j) (L := (7 * L + 11)) (M := L + L + 1) (by omega)) (Ht rfl) ⟨(Ht rfl), trivial⟩) ?_)))))
    refine fW mixed rfl (by kernel_rfl) (aJ (aJ (aJ (aJ (aJ (aJ (aJ (aJ (aJ (aJ (aJ (aJ (aJ (aJ (aJ (aJ (aJ (aJ (aJ (aJ (aJ (aJ (aJ (aJ (aJ (aJ (aV (ro rfl (op_invoke meth_45_Add Tryz.call68 (c_Add (x := gm s i j) (y := gm s i p / emD s f p * (gm f 1 1 * gm s p j)) (L := L) (M := (7 * L + 11) + (L + L + 1) + 1) (by omega)) (Ht rfl) ⟨(Ht rfl), trivial⟩) (gJ Z_45 (Ht rfl) (Ht rfl) rfl (i := 0) rfl (aK rfl) rfl rfl ?_)))))))))))))))))))))))))))))
    refine eX (fK rfl (fX (fY A_45 Z_45 rfl (i := 0) rfl rfl) ?_))
    exact (num_of (by rw [embX, if_neg h2, if_neg h3, if_neg h4]))
theorem c_Embed0 {z fz : List Qi} {s f : List (List Qi)} {port : Int} {L : Nat} (hs : Shp s z.length z.length) (hz1 : 1 ≤ z.length) (hz : z.length ≤ 1000) (hfs : FitM s L) (hff : FitM f L) (hfz : FitL z L) (hfg : FitL fz L) (hL : 1 ≤ L) (hLb : L ≤ 10000) (h2 : fz.length ≠ 2) : Fun Tryz.prog 53 [NetT z s, IntT .i64 port, NetT fz f] (TupT [NetT (emZ z s fz f port) (emR z s fz f port), IntT .i64 (emE z s fz f port)]) := by
 have hfx : fxE z fz port 2 = 4 := fx_4 h2
 have he : emE z s fz f port = 4 := (em_fx (by rw [hfx]; decide)).trans hfx
 have hne : emE z s fz f port ≠ 0 := by rw [he]; decide
 refine Fun.intro Tryz.func53 rfl Tryz.ntmps53 rfl (fun cx => (ts (rn rfl (fU (Ht rfl)) fun B3 => (rn rfl (fU (Ht rfl)) fun B5 => (rn rfl (eW (Ts := [Is (.slice none 0 0), Is (.slice none 0 0)]) O_30 rfl (fun V => aW ⟨rfl, trivial⟩ (aW ⟨rfl, trivial⟩ (aG)))) fun B6 => (ro rfl (cQ (cJ 0)) (eX (ts (ro rfl (eJ A_30 Z_30 (Ht rfl) (i := 0) rfl rfl rfl) (rm rfl (ro rfl (eJ A_30 Z_30 (Ht rfl) (i := 1) rfl rfl rfl) (ro rfl (cZ Tryz.call149 (c_attach0 (x := 2) h2) ⟨(Ht rfl), (Ht rfl), (Ht rfl), (cJ 2), trivial⟩) ?_))))))))))))
 refine rm rfl (ro rfl (dK (Ht rfl) rfl) (ro rfl (dK (Ht rfl) rfl) (rn rfl (eW (Ts := [Is (.bool false), Is (.slice none 0 0), Is (.bool false), Is (.slice none 0 0), Is (.slice none 0 0), Is (.bool false), Is (.slice none 0 0), Is (.bool false), Is (.slice none 0 0), Is (.slice none 0 0), Is (.bool false), Is (.slice none 0 0), Is (.bool false), Is (.slice none 0 0), Is (.slice none 0 0), Is (.bool false), Is (.slice none 0 0), Is (.bool false), Is (.slice none 0 0), Is (.slice none 0 0)]) O_192 rfl (fun V => aW ⟨rfl, trivial⟩ (aW ⟨rfl, trivial⟩ (aW ⟨rfl, trivial⟩ (aW ⟨rfl, trivial⟩ (aW ⟨rfl, trivial⟩ (aW ⟨rfl, trivial⟩ (aW ⟨rfl, trivial⟩ (aW ⟨rfl, trivial⟩ (aW ⟨rfl, trivial⟩ (aW ⟨rfl, trivial⟩ (aW ⟨rfl, trivial⟩ (aW ⟨rfl, trivial⟩ (aW ⟨rfl, trivial⟩ (aW ⟨rfl, trivial⟩ (aW ⟨rfl, trivial⟩ (aW ⟨rfl, trivial⟩ (aW ⟨rfl, trivial⟩ (aW ⟨rfl, trivial⟩ (aW ⟨rfl, trivial⟩ (aW ⟨rfl, trivial⟩ (aG)))))))))))))))))))))) fun B8 => ?_)))
 refine gJ Z_192 (Ht rfl) (Ht rfl) rfl (i := 3) rfl (aK rfl) rfl rfl (ra rfl (eX (cK (ts (rm rfl (ro rfl (op_neq (Ht rfl) cV) (eX (T_condT (Ht rfl) (by rfl) ?_))))))))
 refine ts (ro rfl (OpTy.imp (bld_30_ ) net_nil) (rm rfl (gJ Z_30 (Ht rfl) (Ht rfl) rfl (i := 2) rfl (aK rfl) rfl rfl (ra rfl (eX (T_ret2 rfl (fX (fY A_30 Z_30 rfl (i := 2) rfl rfl) ?_) (fX (eU rfl) ?_)))))))
 ·exact (fun v V h => by rw [emZ, emR, okL, okL, if_neg hne, if_neg hne]; exact h)
 ·exact (int_of he.symm)
theorem c_Embed2 {z fz : List Qi} {s f : List (List Qi)} {port : Int} {L : Nat} (hs : Shp s z.length z.length) (hz1 : 1 ≤ z.length) (hz : z.length ≤ 1000) (hfs : FitM s L) (hff : FitM f L) (hfz : FitL z L) (hfg : FitL fz L) (hL : 1 ≤ L) (hLb : L ≤ 10000) (h2 : fz.length = 2) (hf : Shp f 2 2) : Fun Tryz.prog 53 [NetT z s, IntT .i64 port, NetT fz f] (TupT [NetT (emZ z s fz f port) (emR z s fz f port), IntT .i64 (emE z s fz f port)]) := by
 have hsl := hs.1
 haveI h1f := fit_one
 refine Fun.intro Tryz.func53 rfl Tryz.ntmps53 rfl (fun cx => (ts (rn rfl (fU (Ht rfl)) fun B3 => (rn rfl (fU (Ht rfl)) fun B5 => (rn rfl (eW (Ts := [Is (.slice none 0 0), Is (.slice none 0 0)]) O_30 rfl (fun V => aW ⟨rfl, trivial⟩ (aW ⟨rfl, trivial⟩ (aG)))) fun B6 => (ro rfl (cQ (cJ 0)) (eX (ts (ro rfl (eJ A_30 Z_30 (Ht rfl) (i := 0) rfl rfl rfl) (rm rfl (ro rfl (eJ A_30 Z_30 (Ht rfl) (i := 1) rfl rfl rfl) (ro rfl (cZ Tryz.call149 (c_attach2 (x := 2) (L := L) h2 hf (by decide) hfz hfg hL (by omega) hz) ⟨(Ht rfl), (Ht rfl), (Ht rfl), (cJ 2), trivial⟩) ?_))))))))))))
 refine rm rfl (ro rfl (dK (Ht rfl) rfl) (ro rfl (dK (Ht rfl) rfl) (rn rfl (eW (Ts := [Is (.bool false), Is (.slice none 0 0), Is (.bool false), Is (.slice none 0 0), Is (.slice none 0 0), Is (.bool false), Is (.slice none 0 0), Is (.bool false), Is (.slice none 0 0), Is (.slice none 0 0), Is (.bool false), Is (.slice none 0 0), Is (.bool false), Is (.slice none 0 0), Is (.slice none 0 0), Is (.bool false), Is (.slice none 0 0), Is (.bool false), Is (.slice none 0 0), Is (.slice none 0 0)]) O_192 rfl (fun V => aW ⟨rfl, trivial⟩ (aW ⟨rfl, trivial⟩ (aW ⟨rfl, trivial⟩ (aW ⟨rfl, trivial⟩ (aW ⟨rfl, trivial⟩ (aW ⟨rfl, trivial⟩ (aW ⟨rfl, trivial⟩ (aW ⟨rfl, trivial⟩ (aW ⟨rfl, trivial⟩ (aW ⟨rfl, trivial⟩ (aW ⟨rfl, trivial⟩ (aW ⟨rfl, trivial⟩ (aW ⟨rfl, trivial⟩ (aW ⟨rfl, trivial⟩ (aW ⟨rfl, trivial⟩ (aW ⟨rfl, trivial⟩ (aW ⟨rfl, trivial⟩ (aW ⟨rfl, trivial⟩ (aW ⟨rfl, trivial⟩ (aW ⟨rfl, trivial⟩ (aG)))))))))))))))))))))) fun B8 => ?_)))
 refine gJ Z_192 (Ht rfl) (Ht rfl) rfl (i := 3) rfl (aK rfl) rfl rfl (ra rfl (eX (cK (ts (rm rfl (ro rfl (op_neq (Ht rfl) cV) (eX (dQ (Ht rfl) (fun hc => ?_) (fun hc => ?_)))))))))
 ·have hfx : fxE z fz port 2 ≠ 0 := by simpa using hc
  have he : emE z s fz f port = fxE z fz port 2 := em_fx hfx
  have hne : emE z s fz f port ≠ 0 := by rw [he]; exact hfx
  refine ts (ro rfl (OpTy.imp (bld_30_ ) net_nil) (rm rfl (gJ Z_30 (Ht rfl) (Ht rfl) rfl (i := 2) rfl (aK rfl) rfl rfl (ra rfl (eX (T_ret2 rfl (fX (fY A_30 Z_30 rfl (i := 2) rfl rfl) ?_) (fX (eU rfl) ?_)))))))
  ·exact (fun v V h => by rw [emZ, emR, okL, okL, if_neg hne, if_neg hne]; exact h)
  ·exact (int_of he.symm)
 ·have hfx : fxE z fz port 2 = 0 := by simpa using hc
  obtain ⟨_, hb2, hzz⟩ := fx_ok hfx
  obtain ⟨p, hp⟩ : ∃ p, p = (port - 1).toNat := ⟨_, rfl⟩
  have hpe : port - 1 = (p : Int) := by omega
  have hpl : p < z.length := by omega
  have hspr := hs.row hpl
  haveI := hfs.get hL p p; haveI := hff.get hL 1 1; haveI := hff.get hL 0 0; haveI := hff.get hL 0 1; haveI := hff.get hL 1 0
  refine cU (cK (Y.D_start (m := 23) [] (bY (Ei := [(8, _)]) rfl rfl (bQ (bJ rfl rfl) bX) rfl rfl (dX rfl (op_idxAB U_192 Z_191 (Ht rfl) (cJ 0) rfl (by decide) rfl)) (bY (Ei := [(28, _)]) rfl rfl (bQ (bZ 0 rfl rfl) bX) rfl rfl (dX rfl (op_idxAB U_191 Z_45 (Ht rfl) (cJ 0) rfl (by decide) rfl)) (bY (Ei := [(29, _)]) rfl rfl (bQ (bZ 1 rfl rfl) bX) rfl rfl (dX rfl (eJ A_45 Z_45 (Ht rfl) (i := 3) rfl rfl rfl)) ?_)))))
  refine bY (Ei := [(8, _)]) rfl rfl (bQ (bJ rfl rfl) bX) rfl rfl (dX rfl (op_idxAB U_192 Z_191 (Ht rfl) (cJ 0) rfl (by decide) rfl)) (bY (Ei := [(31, _)]) rfl rfl (bQ (bZ 3 rfl rfl) bX) rfl rfl (dX rfl (op_idxAB U_191 Z_45 (Ht rfl) (cJ 1) rfl (by decide) rfl)) (bY (Ei := [(32, _)]) rfl rfl (bQ (bZ 4 rfl rfl) bX) rfl rfl (dX rfl (eJ A_45 Z_45 (Ht rfl) (i := 3) rfl rfl rfl)) (bY (Ei := [(8, _)]) rfl rfl (bQ (bJ rfl rfl) bX) rfl rfl (dX rfl (op_idxAB U_192 Z_191 (Ht rfl) (cJ 1) rfl (by decide) rfl)) ?_)))
  refine bY (Ei := [(34, _)]) rfl rfl (bQ (bZ 6 rfl rfl) bX) rfl rfl (dX rfl (op_idxAB U_191 Z_45 (Ht rfl) (cJ 0) rfl (by decide) rfl)) (bY (Ei := [(35, _)]) rfl rfl (bQ (bZ 7 rfl rfl) bX) rfl rfl (dX rfl (eJ A_45 Z_45 (Ht rfl) (i := 3) rfl rfl rfl)) (bY (Ei := [(8, _)]) rfl rfl (bQ (bJ rfl rfl) bX) rfl rfl (dX rfl (op_idxAB U_192 Z_191 (Ht rfl) (cJ 1) rfl (by decide) rfl)) (bY (Ei := [(37, _)]) rfl rfl (bQ (bZ 9 rfl rfl) bX) rfl rfl (dX rfl (op_idxAB U_191 Z_45 (Ht rfl) (cJ 1) rfl (by decide) rfl)) ?_)))
  refine bY (Ei := [(38, _)]) rfl rfl (bQ (bZ 10 rfl rfl) bX) rfl rfl (dX rfl (eJ A_45 Z_45 (Ht rfl) (i := 3) rfl rfl rfl)) (bY (Ei := [(1, _)]) rfl rfl (bQ (bJ rfl rfl) bX) rfl rfl (dX rfl (cX (Ht rfl))) (bY (Ei := [(40, _)]) rfl rfl (bQ (bZ 12 rfl rfl) bX) rfl rfl (dX rfl (op_sub (Ht rfl) cV (r := ((p : Nat) : Int)) ((w64 (z := port - 1) (by omega)).trans (by omega)))) ?_))
  refine Y.D_newp (Ei := []) (fun bb => box bb 45 (nb (gm f 0 0))) 19 rfl rfl rfl bX rfl rfl (by kernel_rfl) (eW (Ts := [Is (.bool false), Is (.slice none 0 0), Is (.bool false), Is (.slice none 0 0), Is (.slice none 0 0)]) O_45 rfl (fun V => aW ⟨rfl, trivial⟩ (aW ⟨rfl, trivial⟩ (aW ⟨rfl, trivial⟩ (aW ⟨rfl, trivial⟩ (aW ⟨rfl, trivial⟩ (aG))))))) (Y.D_newp (Ei := []) (fun bb => box bb 45 (nb (gm f 0 1))) 20 rfl rfl rfl bX rfl rfl (by kernel_rfl) (eW (Ts := [Is (.bool false), Is (.slice none 0 0), Is (.bool false), Is (.slice none 0 0), Is (.slice none 0 0)]) O_45 rfl (fun V => aW ⟨rfl, trivial⟩ (aW ⟨rfl, trivial⟩ (aW ⟨rfl, trivial⟩ (aW ⟨rfl, trivial⟩ (aW ⟨rfl, trivial⟩ (aG))))))) ?_)
  refine Y.D_newp (Ei := []) (fun bb => box bb 45 (nb (gm f 1 0))) 21 rfl rfl rfl bX rfl rfl (by kernel_rfl) (eW (Ts := [Is (.bool false), Is (.slice none 0 0), Is (.bool false), Is (.slice none 0 0), Is (.slice none 0 0)]) O_45 rfl (fun V => aW ⟨rfl, trivial⟩ (aW ⟨rfl, trivial⟩ (aW ⟨rfl, trivial⟩ (aW ⟨rfl, trivial⟩ (aW ⟨rfl, trivial⟩ (aG))))))) (Y.D_newp (Ei := []) (fun bb => box bb 45 (nb (gm f 1 1))) 22 rfl rfl rfl bX rfl rfl (by kernel_rfl) (eW (Ts := [Is (.bool false), Is (.slice none 0 0), Is (.bool false), Is (.slice none 0 0), Is (.slice none 0 0)]) O_45 rfl (fun V => aW ⟨rfl, trivial⟩ (aW ⟨rfl, trivial⟩ (aW ⟨rfl, trivial⟩ (aW ⟨rfl, trivial⟩ (aW ⟨rfl, trivial⟩ (aG))))))) ?_)
  refine Y.D_new (Ei := []) rfl rfl rfl bX rfl rfl (eW (Ts := [Is (.int .i64 0)]) O_3 rfl (fun V => aW ⟨rfl, trivial⟩ (aG))) (Y.D_putN (Ei := [(30, _)]) 14 rfl rfl rfl rfl rfl rfl (bQ (bZ 2 rfl rfl) bX) (fun bb => P_stA Z_45 (Ht rfl) (Ht rfl) rfl (i := 0) rfl (aK rfl) rfl rfl) (Y.D_putN (Ei := [(33, _)]) 15 rfl rfl rfl rfl rfl rfl (bQ (bZ 5 rfl rfl) bX) (fun bb => P_stA Z_45 (Ht rfl) (Ht rfl) rfl (i := 0) rfl (aK rfl) rfl rfl) (Y.D_putN (Ei := [(36, _)]) 16 rfl rfl rfl rfl rfl rfl (bQ (bZ 8 rfl rfl) bX) (fun bb => P_stA Z_45 (Ht rfl) (Ht rfl) rfl (i := 0) rfl (aK rfl) rfl rfl) ?_)))
  refine Y.D_putN (Ei := [(39, _)]) 17 rfl rfl rfl rfl rfl rfl (bQ (bZ 11 rfl rfl) bX) (fun bb => P_stA Z_45 (Ht rfl) (Ht rfl) rfl (i := 0) rfl (aK rfl) rfl rfl) (Y.D_done mixed rfl (by kernel_rfl) rfl (by simp [Y.okP]) rfl rfl (bU (bU (bU (bU (bU (bU (bU (bU (bU (bU (bU (bU (bU (bU (Y.F_newp (fun B10 => Y.F_newp (fun B11 => Y.F_newp (fun B12 => Y.F_newp (fun B13 => Y.F_new (fun B14 => Y.F_putN (Y.F_putN (Y.F_putN (Y.F_putN (Y.F_nil ?_)))))))))))))))))))))))))
  refine R_st Z_3 (Ht rfl) (Ht rfl) (i := 8) rfl (aK rfl) rfl (eX (cK (gG (i := 4) (tt := 10) rfl rfl frz_ptr (gG (i := 5) (tt := 11) rfl rfl frz_ptr (gG (i := 6) (tt := 12) rfl rfl frz_ptr (gG (i := 7) (tt := 13) rfl rfl frz_ptr (gG (i := 8) (tt := 14) rfl rfl frz_ptr1 (gG (i := 0) (tt := 3) rfl rfl frz_ptr (T_keep [1, 2] rfl (by decide) ?_)))))))))
  have hDf := emD_fit (p := p) hfs hff hL
  by_cases hD : emD s f p = Qi.zero
  ·refine Y.D_start (m := 25) [] (bY (Ei := [(3, _)]) rfl rfl (bQ (bJ rfl rfl) bX) rfl rfl (dX rfl (dJ A_30 Z_30 (Ht rfl))) (bY (Ei := [(14, _)]) rfl rfl (bQ (bJ rfl rfl) bX) rfl rfl (dX rfl (dJ A_3 Z_3 (Ht rfl))) (bY (Ei := []) rfl rfl bX rfl rfl (dX rfl (cZ Tryz.call121 (c_whole (n := 1) (by decide) (by decide)) ⟨(cJ 1), trivial⟩)) (bY (Ei := [(45, _)]) rfl rfl (bQ (bZ 2 rfl rfl) bX) rfl rfl (dX rfl (op_iface mkif_45 (Ht rfl))) ?_))))
   refine bY (Ei := [(13, _)]) rfl rfl (bQ (bJ rfl rfl) bX) rfl rfl (dX rfl (dJ A_45 Z_45 (Ht rfl))) (bY (Ei := [(47, _)]) rfl rfl (bQ (bZ 4 rfl rfl) bX) rfl rfl (dX rfl (op_iface mkif_45 (Ht rfl))) (bY (Ei := [(3, _)]) rfl rfl (bQ (bJ rfl rfl) bX) rfl rfl (dX rfl (op_fld1 fa_30_1 (Ht rfl) rfl)) (bY (Ei := [(49, _)]) rfl rfl (bQ (bZ 6 rfl rfl) bX) rfl rfl (dX rfl (dJ A_28 Z_28 (Ht rfl))) (bY (Ei := [(14, _)]) rfl rfl (bQ (bJ rfl rfl) bX) rfl rfl (dX rfl (dJ A_3 Z_3 (Ht rfl))) ?_))))
   refine bY (Ei := [(50, _), (51, _)]) rfl rfl (bQ (bZ 7 rfl rfl) (bQ (bZ 8 rfl rfl) bX)) rfl rfl (dX rfl (dZ U_28 Z_27 (Ht rfl) (Ht rfl) rfl (dY (dU (d := []) (by omega))))) (bY (Ei := [(52, _)]) rfl rfl (bQ (bZ 9 rfl rfl) bX) rfl rfl (dX rfl (dJ A_27 Z_27 (Ht rfl))) (bY (Ei := [(14, _)]) rfl rfl (bQ (bJ rfl rfl) bX) rfl rfl (dX rfl (dJ A_3 Z_3 (Ht rfl))) (bY (Ei := [(53, _), (54, _)]) rfl rfl (bQ (bZ 10 rfl rfl) (bQ (bZ 11 rfl rfl) bX)) rfl rfl (dX rfl (dZ U_27 Z_45 (Ht rfl) (Ht rfl) rfl (dY (dU (d := Qi.zero) (by omega))))) ?_)))
   refine bY (Ei := [(55, _)]) rfl rfl (bQ (bZ 12 rfl rfl) bX) rfl rfl (dX rfl (dJ A_45 Z_45 (Ht rfl))) (bY (Ei := [(48, _), (56, _)]) rfl rfl (bQ (bZ 5 rfl rfl) (bQ (bZ 13 rfl rfl) bX)) rfl rfl (dX rfl (op_invoke meth_45_Mul K_67 (c_Mul (x := gm f 1 1) (y := gm s p p) (L := L) (M := L) (by omega)) (Ht rfl) ⟨(Ht rfl), trivial⟩)) (bY (Ei := [(46, _), (57, _)]) rfl rfl (bQ (bZ 3 rfl rfl) (bQ (bZ 14 rfl rfl) bX)) rfl rfl (dX rfl (op_invoke meth_45_Sub K_66 (c_Sub (x := Qi.ofInt 1) (y := gm f 1 1 * gm s p p) (L := 1) (M := L + L + 1) (by omega)) (Ht rfl) ⟨(Ht rfl), trivial⟩)) ?_))
   refine bY (Ei := [(43, _), (44, _), (58, _)]) rfl rfl (bQ (bZ 0 rfl rfl) (bQ (bZ 1 rfl rfl) (bQ (bZ 15 rfl rfl) bX))) rfl rfl (dX rfl (cZ Tryz.call150 (c_ratios0 (z := z) (s := s) (p := p) (e := emD s f p) (L := L) (M := 2 * L + 3) hs hpl hz hfs hDf hL (by omega) hD) ⟨(Ht rfl), (Ht rfl), (Ht rfl), trivial⟩)) (bY (Ei := [(59, _)]) rfl rfl (bQ (bZ 16 rfl rfl) bX) rfl rfl (dX rfl (cX (Ht rfl))) (bY (Ei := [(42, _)]) rfl rfl (bQ (bZ 17 rfl rfl) bX) rfl rfl (dX rfl (dK (Ht rfl) rfl)) ?_))
   refine bY (Ei := [(42, _)]) rfl rfl (bQ (bZ 17 rfl rfl) bX) rfl rfl (dX rfl (dK (Ht rfl) rfl)) (bY (Ei := [(42, _)]) rfl rfl (bQ (bZ 17 rfl rfl) bX) rfl rfl (dX rfl (dK (Ht rfl) rfl)) (Y.D_newp (Ei := []) (fun bb => box bb 27 [NumsT []]) 23 rfl rfl rfl bX rfl rfl (by kernel_rfl) (eW (Ts := [Is (.slice none 0 0)]) O_27 rfl (fun V => aW ⟨rfl, trivial⟩ (aG))) (Y.D_newp (Ei := []) (fun bb => box bb 27 [NumsT []]) 24 rfl rfl rfl bX rfl rfl (by kernel_rfl) (eW (Ts := [Is (.slice none 0 0)]) O_27 rfl (fun V => aW ⟨rfl, trivial⟩ (aG))) ?_)))
   refine Y.D_putN (Ei := [(60, _)]) 21 rfl rfl rfl rfl rfl rfl (bQ (bZ 18 rfl rfl) bX) (fun bb => P_stB Z_27 (Ht rfl) (Ht rfl) (i := 0) rfl (aK rfl) rfl rfl) (Y.D_putN (Ei := [(61, _)]) 22 rfl rfl rfl rfl rfl rfl (bQ (bZ 19 rfl rfl) bX) (fun bb => P_stB Z_27 (Ht rfl) (Ht rfl) (i := 0) rfl (aK rfl) rfl rfl) (Y.D_done mixed rfl (by kernel_rfl) rfl (by simp [Y.okP]) rfl rfl (bU (bU (bU (bU (bU (bU (bU (bU (bU (bU (bU (bU (bU (bU (bU (bU (bU (bU (bU (bU (bU (Y.F_newp (fun B15 => Y.F_newp (fun B16 => Y.F_putN (Y.F_putN (Y.F_nil ?_))))))))))))))))))))))))))))
   refine ra rfl (eX (cK (cK ?_)))
   have he : emE z s fz f port = 6 := em_no hfx (by rw [← hp]; exact hD)
   have hne : emE z s fz f port ≠ 0 := by rw [he]; decide
   refine cY (rm rfl (ro rfl (op_neq (Ht rfl) cV) (eX (T_condT (Ht rfl) (by rfl) ?_))))
   refine ts (ro rfl (OpTy.imp (bld_30_ ) net_nil) (rm rfl (gJ Z_30 (Ht rfl) (Ht rfl) rfl (i := 1) rfl (aK rfl) rfl rfl (ra rfl (eX (T_ret2 rfl (fX (fY A_30 Z_30 rfl (i := 1) rfl rfl) ?_) (fX (eU rfl) ?_)))))))
   ·exact (fun v V h => by rw [emZ, emR, okL, okL, if_neg hne, if_neg hne]; exact h)
   ·exact (int_of he.symm)
  ·refine Y.D_start (m := 25) [] (bY (Ei := [(3, _)]) rfl rfl (bQ (bJ rfl rfl) bX) rfl rfl (dX rfl (dJ A_30 Z_30 (Ht rfl))) (bY (Ei := [(14, _)]) rfl rfl (bQ (bJ rfl rfl) bX) rfl rfl (dX rfl (dJ A_3 Z_3 (Ht rfl))) (bY (Ei := []) rfl rfl bX rfl rfl (dX rfl (cZ Tryz.call121 (c_whole (n := 1) (by decide) (by decide)) ⟨(cJ 1), trivial⟩)) (bY (Ei := [(45, _)]) rfl rfl (bQ (bZ 2 rfl rfl) bX) rfl rfl (dX rfl (op_iface mkif_45 (Ht rfl))) ?_))))
   refine bY (Ei := [(13, _)]) rfl rfl (bQ (bJ rfl rfl) bX) rfl rfl (dX rfl (dJ A_45 Z_45 (Ht rfl))) (bY (Ei := [(47, _)]) rfl rfl (bQ (bZ 4 rfl rfl) bX) rfl rfl (dX rfl (op_iface mkif_45 (Ht rfl))) (bY (Ei := [(3, _)]) rfl rfl (bQ (bJ rfl rfl) bX) rfl rfl (dX rfl (op_fld1 fa_30_1 (Ht rfl) rfl)) (bY (Ei := [(49, _)]) rfl rfl (bQ (bZ 6 rfl rfl) bX) rfl rfl (dX rfl (dJ A_28 Z_28 (Ht rfl))) (bY (Ei := [(14, _)]) rfl rfl (bQ (bJ rfl rfl) bX) rfl rfl (dX rfl (dJ A_3 Z_3 (Ht rfl))) ?_))))
   refine bY (Ei := [(50, _), (51, _)]) rfl rfl (bQ (bZ 7 rfl rfl) (bQ (bZ 8 rfl rfl) bX)) rfl rfl (dX rfl (dZ U_28 Z_27 (Ht rfl) (Ht rfl) rfl (dY (dU (d := []) (by omega))))) (bY (Ei := [(52, _)]) rfl rfl (bQ (bZ 9 rfl rfl) bX) rfl rfl (dX rfl (dJ A_27 Z_27 (Ht rfl))) (bY (Ei := [(14, _)]) rfl rfl (bQ (bJ rfl rfl) bX) rfl rfl (dX rfl (dJ A_3 Z_3 (Ht rfl))) (bY (Ei := [(53, _), (54, _)]) rfl rfl (bQ (bZ 10 rfl rfl) (bQ (bZ 11 rfl rfl) bX)) rfl rfl (dX rfl (dZ U_27 Z_45 (Ht rfl) (Ht rfl) rfl (dY (dU (d := Qi.zero) (by omega))))) ?_)))
   refine bY (Ei := [(55, _)]) rfl rfl (bQ (bZ 12 rfl rfl) bX) rfl rfl (dX rfl (dJ A_45 Z_45 (Ht rfl))) (bY (Ei := [(48, _), (56, _)]) rfl rfl (bQ (bZ 5 rfl rfl) (bQ (bZ 13 rfl rfl) bX)) rfl rfl (dX rfl (op_invoke meth_45_Mul K_67 (c_Mul (x := gm f 1 1) (y := gm s p p) (L := L) (M := L) (by omega)) (Ht rfl) ⟨(Ht rfl), trivial⟩)) (bY (Ei := [(46, _), (57, _)]) rfl rfl (bQ (bZ 3 rfl rfl) (bQ (bZ 14 rfl rfl) bX)) rfl rfl (dX rfl (op_invoke meth_45_Sub K_66 (c_Sub (x := Qi.ofInt 1) (y := gm f 1 1 * gm s p p) (L := 1) (M := L + L + 1) (by omega)) (Ht rfl) ⟨(Ht rfl), trivial⟩)) ?_))
   refine bY (Ei := [(43, _), (44, _), (58, _)]) rfl rfl (bQ (bZ 0 rfl rfl) (bQ (bZ 1 rfl rfl) (bQ (bZ 15 rfl rfl) bX))) rfl rfl (dX rfl (cZ Tryz.call150 (c_ratios1 (z := z) (s := s) (p := p) (e := emD s f p) (L := L) (M := 2 * L + 3) hs hpl hz hfs hDf hL (by omega) hD) ⟨(Ht rfl), (Ht rfl), (Ht rfl), trivial⟩)) (bY (Ei := [(59, _)]) rfl rfl (bQ (bZ 16 rfl rfl) bX) rfl rfl (dX rfl (cX (Ht rfl))) (bY (Ei := [(42, _)]) rfl rfl (bQ (bZ 17 rfl rfl) bX) rfl rfl (dX rfl (dK (Ht rfl) rfl)) ?_))
   refine bY (Ei := [(42, _)]) rfl rfl (bQ (bZ 17 rfl rfl) bX) rfl rfl (dX rfl (dK (Ht rfl) rfl)) (bY (Ei := [(42, _)]) rfl rfl (bQ (bZ 17 rfl rfl) bX) rfl rfl (dX rfl (dK (Ht rfl) rfl)) (Y.D_newp (Ei := []) (fun bb => box bb 27 [NumsT (tab z.length fun i => gm s i p / emD s f p)]) 23 rfl rfl rfl bX rfl rfl (by kernel_rfl) (eW (Ts := [Is (.slice none 0 0)]) O_27 rfl (fun V => aW ⟨rfl, trivial⟩ (aG))) (Y.D_newp (Ei := []) (fun bb => box bb 27 [NumsT (tab z.length fun j => gm s p j / emD s f p)]) 24 rfl rfl rfl bX rfl rfl (by kernel_rfl) (eW (Ts := [Is (.slice none 0 0)]) O_27 rfl (fun V => aW ⟨rfl, trivial⟩ (aG))) ?_)))
   refine Y.D_putN (Ei := [(60, _)]) 21 rfl rfl rfl rfl rfl rfl (bQ (bZ 18 rfl rfl) bX) (fun bb => P_stB Z_27 (Ht rfl) (Ht rfl) (i := 0) rfl (aK rfl) rfl rfl) (Y.D_putN (Ei := [(61, _)]) 22 rfl rfl rfl rfl rfl rfl (bQ (bZ 19 rfl rfl) bX) (fun bb => P_stB Z_27 (Ht rfl) (Ht rfl) (i := 0) rfl (aK rfl) rfl rfl) (Y.D_done mixed rfl (by kernel_rfl) rfl (by simp [Y.okP]) rfl rfl (bU (bU (bU (bU (bU (bU (bU (bU (bU (bU (bU (bU (bU (bU (bU (bU (bU (bU (bU (bU (bU (Y.F_newp (fun B15 => Y.F_newp (fun B16 => Y.F_putN (Y.F_putN (Y.F_nil ?_))))))))))))))))))))))))))))
   refine ra rfl (eX (cK (cK ?_)))
   have he : emE z s fz f port = 0 := em_yes hfx (by rw [← hp]; exact hD)
   refine gG (i := 2) (tt := 15) rfl rfl frz_ptr1 (gG (i := 3) (tt := 16) rfl rfl frz_ptr1 (cY (rm rfl (ro rfl (op_neq (Ht rfl) cV) (eX (T_condF (Ht rfl) (by rfl) ?_))))))
   refine cU (cK (fJ (m := 7) (dp 3 rfl (dJ A_30 Z_30 (Ht rfl)) (dp 14 rfl (dJ A_3 Z_3 (Ht rfl)) (dp 5 rfl (eZ fa_30_0 (Ht rfl) rfl) (dq 69 2 rfl (eY A_27 Z_27 (Ht rfl) (i := 0) rfl rfl) (dq 70 3 rfl (dZ U_27 Z_45 (Ht rfl) (cJ 0) rfl (dY (dU (d := Qi.zero) (by omega)))) (dq 71 4 rfl (dJ A_45 Z_45 (Ht rfl)) (C.D_step (Ei := [(14, _), (10, _), (11, _), (12, _), (16, _), (15, _), (3, _), (13, _)]) rfl rfl (bV (bK rfl rfl) (bV (bK rfl rfl) (bV (bK rfl rfl) (bV (bK rfl rfl) (bV (bK rfl rfl) (bV (bK rfl rfl) (bV (bK rfl rfl) (bV (bK rfl rfl) bW)))))))) (dX rfl (op_clos (γ := Fin z.length × Fin z.length) (Ts := fun x => [NT .i64 x.1.1, NT .i64 x.2.1]) (U := fun x => NumT (embX s f p x.1.1 x.2.1)) Tryz.call152 (fun x => c_Embed1 (z := z) (s := s) (f := f) (p := p) (L := L) hs hpl x.1.2 x.2.2 hz hfs hff hL hLb hD) ⟨(Ht rfl), (Ht rfl), (Ht rfl), (Ht rfl), (Ht rfl), (Ht rfl), (Ht rfl), (Ht rfl), trivial⟩)) ?_)))))))))
   refine fW mixed rfl (by kernel_rfl) (aJ (aJ (aJ (aJ (aJ (aJ (aJ (aV (ro rfl (cZ Tryz.call151 (c_with (z := z) (s := s) (p := p) (x := gv fz 0) (F := fun i j => embX s f p i j) hs hpl hz) ⟨(Ht rfl), (Ht rfl), (Ht rfl), (Ht rfl), trivial⟩) (gJ Z_30 (Ht rfl) (Ht rfl) rfl (i := 1) rfl (aK rfl) rfl rfl (ro rfl (cQ (cJ 0)) (eX (T_ret2 rfl (fX (fY A_30 Z_30 rfl (i := 1) rfl rfl) ?_) (fX (eU rfl) ?_))))))))))))))
   ·exact (fun v V h => by rw [emZ, emR, okL, okL, if_pos he, if_pos he, ← hp]; exact h)
   ·exact (int_of he.symm)
theorem c_Embed {z fz : List Qi} {s f : List (List Qi)} {port : Int} {L : Nat} (hs : Shp s z.length z.length) (hz1 : 1 ≤ z.length) (hz : z.length ≤ 1000) (hfs : FitM s L) (hff : FitM f L) (hfz : FitL z L) (hfg : FitL fz L) (hL : 1 ≤ L) (hLb : L ≤ 10000) (hf : fz.length = 2 → Shp f 2 2) : Fun Tryz.prog 53 [NetT z s, IntT .i64 port, NetT fz f] (TupT [NetT (emZ z s fz f port) (emR z s fz f port), IntT .i64 (emE z s fz f port)]) := by
 by_cases h2 : fz.length = 2
 ·exact c_Embed2 hs hz1 hz hfs hff hfz hfg hL hLb h2 (hf h2)
 ·exact c_Embed0 hs hz1 hz hfs hff hfz hfg hL hLb h2
end
section
open Go Go.RowKit
theorem setL_fit {z : List Qi} {p L : Nat} {x : Qi} (h : FitL z L) (hx : FitC x L) : FitL (z.set p x) L := fun y hy => (List.mem_or_eq_of_mem_set hy).elim (h y) fun e => e ▸ hx
end
section
open Go Go.RowKit
theorem embM_gm {s f : List (List Qi)} {p n i j : Nat} (hi : i < n) (hj : j < n) : gm (embM s f p n) i j = embX s f p i j := gm_tab hi hj
section
variable {s f g : List (List Qi)} {n p q : Nat}
def twD (s f g : List (List Qi)) (p q : Nat) : Qi := emD s f p * emD s g q - gm f 1 1 * gm g 1 1 * (gm s p q * gm s q p)
theorem tw_d1 (hq : q < n) (hpq : p ≠ q) (h1 : emD s f p ≠ Qi.zero) : emD s f p * emD (embM s f p n) g q = twD s f g p q := by
 have hi := mul_inv2 (x := emD s f p) h1
 have e : gm (embM s f p n) q q = gm s q q + gm s q p * Qi.inv (emD s f p) * (gm f 1 1 * gm s p q) := by
  rw [embM_gm hq hq, embX, if_neg (fun k => hpq k.1.symm), if_neg (Ne.symm hpq), if_neg (Ne.symm hpq), Qi.div_def]
 rw [show emD (embM s f p n) g q = Qi.ofInt 1 - gm g 1 1 * gm (embM s f p n) q q from rfl, e, twD]
 generalize Qi.inv (emD s f p) = v at hi
 simp only [emD, q1] at hi ⊢
 grind
theorem tw_d2 (hp : p < n) (hpq : p ≠ q) (h2 : emD s g q ≠ Qi.zero) : emD s g q * emD (embM s g q n) f p = twD s f g p q := by
 rw [tw_d1 (s := s) (f := g) (g := f) (n := n) hp (Ne.symm hpq) h2, twD, twD]
 grind
theorem inv_of {x y v : Qi} (hx : x ≠ 0) (h : x * y = v) (hv : v ≠ 0) : Qi.inv y = x * Qi.inv v := by
 have hy : y ≠ 0 := fun e => hv (by rw [← h, e]; grind)
 have a := mul_inv2 hy
 have b := mul_inv2 hv
 rw [← h] at b ⊢
 have c : Qi.inv y * (x * y * Qi.inv (x * y)) = Qi.inv y := by rw [b]; grind
 have d : Qi.inv y * (x * y * Qi.inv (x * y)) = (y * Qi.inv y) * (x * Qi.inv (x * y)) := by grind
 rw [← c, d, a]; grind
theorem tw_zero (hp : p < n) (hq : q < n) (hpq : p ≠ q) (h1 : emD s f p ≠ Qi.zero) (h2 : emD s g q ≠ Qi.zero) : emD (embM s f p n) g q = Qi.zero ↔ emD (embM s g q n) f p = Qi.zero := by
 have e1 := tw_d1 (g := g) hq hpq h1
 have e2 := tw_d2 (f := f) hp hpq h2
 constructor
 ·intro h
  rw [h] at e1
  rcases mul_zero_or (x := emD s g q) (y := emD (embM s g q n) f p) (by rw [e2, ← e1, q0]; grind) with k | k
  ·exact absurd k h2
  ·exact k
 ·intro h
  rw [h] at e2
  rcases mul_zero_or (x := emD s f p) (y := emD (embM s f p n) g q) (by rw [e1, ← e2, q0]; grind) with k | k
  ·exact absurd k h1
  ·exact k
theorem tw_oo {s a b c d F G P Q R T u1 u3 : Qi} (i1 : (1 - F * P) * u1 = 1) (i3 : ((1 - F * P) * (1 - G * Q) - F * G * (R * T)) * u3 = 1) :
  s + a * u1 * (F * c) + (b + a * u1 * (F * R)) * ((1 - F * P) * u3) * (G * (d + T * u1 * (F * c))) = s + u3 * (a * F * c * (1 - G * Q) + b * G * d * (1 - F * P) + a * F * R * G * d + b * G * T * F * c) := by
 have k2 : u1 * (1 + F * G * (R * T) * u3) = u3 * (1 - G * Q) := by
  have e : 1 + F * G * (R * T) * u3 = (1 - F * P) * (1 - G * Q) * u3 := by clear i1; grind
  have e2 : u1 * ((1 - F * P) * (1 - G * Q) * u3) = (1 - F * P) * u1 * ((1 - G * Q) * u3) := by clear i1 i3 e; grind
  rw [e, e2, i1]; clear i1 i3 e e2; grind
 have k3 : s + a * u1 * (F * c) + (b + a * u1 * (F * R)) * ((1 - F * P) * u3) * (G * (d + T * u1 * (F * c)))
   = s + a * F * c * u1 + (b * G * d * (1 - F * P) + a * F * R * G * d * ((1 - F * P) * u1)) * u3 + b * G * T * F * c * ((1 - F * P) * u1) * u3 + a * F * c * u1 * (F * G * (R * T) * u3) * ((1 - F * P) * u1) := by clear i1 i3 k2; grind
 have k4 : a * F * c * u1 + a * F * c * u1 * (F * G * (R * T) * u3) = a * F * c * (u1 * (1 + F * G * (R * T) * u3)) := by clear i1 i3 k2 k3; grind
 rw [k3, i1]
 have k5 : s + a * F * c * u1 + (b * G * d * (1 - F * P) + a * F * R * G * d * 1) * u3 + b * G * T * F * c * 1 * u3 + a * F * c * u1 * (F * G * (R * T) * u3) * 1
   = s + (a * F * c * u1 + a * F * c * u1 * (F * G * (R * T) * u3)) + u3 * (b * G * d * (1 - F * P) + a * F * R * G * d + b * G * T * F * c) := by clear i1 i3 k2 k3 k4; grind
 rw [k5, k4, k2]; clear i1 i3 k2 k3 k4 k5; grind
theorem tw_eq (hp : p < n) (hq : q < n) (hpq : p ≠ q) (h1 : emD s f p ≠ Qi.zero) (h2 : emD s g q ≠ Qi.zero) (h3 : emD (embM s f p n) g q ≠ Qi.zero) :
  embM (embM s f p n) g q n = embM (embM s g q n) f p n := by
 have e1 := tw_d1 (g := g) hq hpq h1
 have e2 := tw_d2 (f := f) hp hpq h2
 have hv : twD s f g p q ≠ 0 := fun k => by
  rw [k] at e1
  rcases mul_zero_or e1 with k | k
  ·exact h1 k
  ·exact h3 k
 have j1 := inv_of h1 e1 hv
 have j2 := inv_of h2 e2 hv
 have i1 := mul_inv2 (x := emD s f p) h1
 have i2 := mul_inv2 (x := emD s g q) h2
 have i3 := mul_inv2 hv
 refine tab_congr fun x hx => tab_congr fun y hy => ?_
 have nq : ¬ q = p := fun k => hpq k.symm
 have A : ∀ a b, a < n → b < n → gm (embM s f p n) a b = embX s f p a b := fun a b ha hb => embM_gm ha hb
 have B : ∀ a b, a < n → b < n → gm (embM s g q n) a b = embX s g q a b := fun a b ha hb => embM_gm ha hb
 rw [embX, embX]
 simp only [Qi.div_def, j1, j2, A x y hx hy, A x q hx hq, A q y hq hy, A q q hq hq, B x y hx hy, B x p hx hp, B p y hp hy, B p p hp hp]
 simp only [embX, Qi.div_def]
 clear A B j1 j2 e1 e2 h3 h1 h2 hv
 simp only [emD, twD, q1] at i1 i2 i3 ⊢
 generalize Qi.inv (1 - gm f 1 1 * gm s p p) = u1 at *
 generalize Qi.inv (1 - gm g 1 1 * gm s q q) = u2 at *
 generalize Qi.inv ((1 - gm f 1 1 * gm s p p) * (1 - gm g 1 1 * gm s q q) - gm f 1 1 * gm g 1 1 * (gm s p q * gm s q p)) = u3 at *
 by_cases xp : x = p
 ·subst xp
  by_cases yp : y = x
  ·subst yp
   simp only [hpq, nq, and_self, and_true, true_and, false_and, and_false, if_true, if_false]; grind
  ·by_cases yq : y = q
   ·subst yq
    simp only [hpq, nq, yp, and_self, and_true, true_and, false_and, and_false, if_true, if_false]; grind
   ·simp only [hpq, nq, yp, yq, and_self, and_true, true_and, false_and, and_false, if_true, if_false]; grind
 ·by_cases xq : x = q
  ·subst xq
   by_cases yp : y = p
   ·subst yp
    simp only [hpq, nq, xp, and_self, and_true, true_and, false_and, and_false, if_true, if_false]; grind
   ·by_cases yq : y = x
    ·subst yq
     simp only [hpq, nq, xp, yp, and_self, and_true, true_and, false_and, and_false, if_true, if_false]; grind
    ·simp only [hpq, nq, xp, yp, yq, and_self, and_true, true_and, false_and, and_false, if_true, if_false]; grind
  ·by_cases yp : y = p
   ·subst yp
    simp only [hpq, nq, xp, xq, and_self, and_true, true_and, false_and, and_false, if_true, if_false]; grind
   ·by_cases yq : y = q
    ·subst yq
     simp only [hpq, nq, xp, xq, yp, and_self, and_true, true_and, false_and, and_false, if_true, if_false]; grind
    ·simp only [xp, xq, yp, yq, hpq, nq, false_and, and_false, if_false]
     have i4 : ((1 - gm g 1 1 * gm s q q) * (1 - gm f 1 1 * gm s p p) - gm g 1 1 * gm f 1 1 * (gm s q p * gm s p q)) * u3 = 1 := by clear i1 i2; grind
     refine (tw_oo i1 i3).trans (Eq.trans ?_ (tw_oo i2 i4).symm)
     clear i1 i2 i3 i4; grind
end
end
section
open Go Go.RowKit
abbrev A4T (a b c d : Nat) : Ty := AggT [NT .u8 a, NT .u8 b, NT .u8 c, NT .u8 d]
theorem mod_ne {P R n : Nat} (hP : P < n) (hR : R < n - 1) : P ≠ (P + 1 + R) % n := fun e => by
 rcases Nat.lt_or_ge (P + 1 + R) n with k | k
 ·rw [Nat.mod_eq_of_lt k] at e; omega
 ·rw [Nat.mod_eq_sub_mod k, Nat.mod_eq_of_lt (by omega)] at e; omega
theorem fix_fx {z : List Qi} {p : Nat} {zl : List Rt} {zz : Qi} (hp : p < z.length) (h : gv z p = zz) : fxE z (fixZ zl zz) ((p + 1 : Nat) : Int) 2 = 0 := by
 rw [fxE, if_neg (by rw [fixZ_len]; simp), if_neg (fun k => k ⟨by omega, by omega⟩), if_pos]
 rw [show (((p + 1 : Nat) : Int) - 1).toNat = p by omega, h]; exact fixZ_one zl zz
theorem c_EmbN0 {z : List Qi} {s : List (List Qi)} {p L : Nat} {zl sl : List Rt} {zz : Qi} (hs : Shp s z.length z.length) (hp : p < z.length) (hz : z.length ≤ 1000) (hfs : FitM s L) (hfz : FitL z L) (hL : 2 ≤ L) (hLb : L ≤ 10000) (hzz : gv z p = zz) (hzf : FitC zz 2) (hD : emD s (fixS sl) p = Qi.zero) : Fun Tryz.prog 53 [NetT z s, NT .i64 (p + 1), NetT (fixZ zl zz) (fixS sl)] (TupT [NetT [] [], IntT .i64 6]) := by
 have h := c_Embed (z := z) (fz := fixZ zl zz) (s := s) (f := fixS sl) (port := ((p + 1 : Nat) : Int)) (L := L) hs (by omega) hz hfs ((fixS_fit sl).le hL) hfz ((fixZ_fit zl hzf).le hL) (by omega) hLb (fun _ => fixS_shp sl)
 have he := em_no (s := s) (f := fixS sl) (fix_fx (zl := zl) hp hzz) (by rw [show (((p + 1 : Nat) : Int) - 1).toNat = p by omega]; exact hD)
 rw [emZ, emR, he] at h; exact h
theorem c_EmbN1 {z : List Qi} {s : List (List Qi)} {p L : Nat} {zl sl : List Rt} {zz : Qi} (hs : Shp s z.length z.length) (hp : p < z.length) (hz : z.length ≤ 1000) (hfs : FitM s L) (hfz : FitL z L) (hL : 2 ≤ L) (hLb : L ≤ 10000) (hzz : gv z p = zz) (hzf : FitC zz 2) (hD : emD s (fixS sl) p ≠ Qi.zero) : Fun Tryz.prog 53 [NetT z s, NT .i64 (p + 1), NetT (fixZ zl zz) (fixS sl)] (TupT [NetT (z.set p (gv (fixZ zl zz) 0)) (embM s (fixS sl) p z.length), IntT .i64 0]) := by
 have h := c_Embed (z := z) (fz := fixZ zl zz) (s := s) (f := fixS sl) (port := ((p + 1 : Nat) : Int)) (L := L) hs (by omega) hz hfs ((fixS_fit sl).le hL) hfz ((fixZ_fit zl hzf).le hL) (by omega) hLb (fun _ => fixS_shp sl)
 have he := em_yes (s := s) (f := fixS sl) (fix_fx (zl := zl) hp hzz) (by rw [show (((p + 1 : Nat) : Int) - 1).toNat = p by omega]; exact hD)
 rw [emZ, emR, he, show (((p + 1 : Nat) : Int) - 1).toNat = p by omega] at h; exact h
theorem c_NetworkTwoEmbeds {a l0 l1 l2 l3 b d : Nat} {zl sl zm sm zt st : List Rt} (ha : a < 256) (hl0 : l0 < 256) (hl1 : l1 < 256) (hl2 : l2 < 256) (hl3 : l3 < 256) : Fun Tryz.prog 10 [PartT a zl sl, A4T l0 l1 l2 l3, PartT b zm sm, PartT d zt st] (BoolT true) := by
 obtain ⟨h1, h8, hsh, hp⟩ := netErr_ok (pl_err (a % 3 + 1) zl sl)
 have hn : plN (a % 3 + 1) = a % 3 + 2 := by unfold plN; omega
 have hzl : ((plZ (a % 3 + 1) zl).map Rt.q).length = a % 3 + 2 := by rw [List.length_map, plZ, tab_len]; exact hn
 obtain ⟨z1, hz1⟩ : ∃ z1, z1 = ((plZ (a % 3 + 1) zl).map Rt.q) := ⟨_, rfl⟩
 obtain ⟨s1, hs1⟩ : ∃ s1, s1 = (rq (plS (a % 3 + 1) sl)) := ⟨_, rfl⟩
 have f1 : FitL z1 2 := by rw [hz1]; exact FitL.rt
 have f3 : FitM s1 2 := by rw [hs1]; exact FitM.rt
 have hB1 := c_Build (a := (a % 3 + 1)) (zl := zl) (sl := sl) (by omega)
 rw [← hz1] at h1 h8 hsh hzl hp
 rw [← hs1] at hsh
 rw [← hz1, ← hs1] at hB1
 have hz2 : 2 ≤ z1.length := by omega
 have hrf : ∀ i, i < z1.length → Fun Tryz.prog 63 [NetT z1 s1, NT .i64 (i + 1)] (TupT [NumT (gv z1 i), IntT .i64 0]) := fun i hi => by
  have h := c_Ref (z := z1) (s := s1) (i := ((i + 1 : Nat) : Int)) (by omega)
  rw [show pkv z1 ((i + 1 : Nat) : Int) = gv z1 i from pkv_at (by omega), if_pos (by omega)] at h; exact h
 have hpos : ∀ i, i < z1.length → posQ (gv z1 i) = true := fun i hi => by
  rw [List.all_eq_true] at hp
  exact hp _ (by rw [show gv z1 i = z1[i] by simp [gv, List.getD, hi]]; exact List.getElem_mem hi)
 have hn1 := Nat.mod_lt l0 (show 0 < z1.length by omega)
 have hn2 := Nat.mod_lt l1 (show 0 < z1.length - 1 by omega)
 have hn3 := Nat.mod_lt (l0 % z1.length + 1 + l1 % (z1.length - 1)) (show 0 < z1.length by omega)
 have hne := mod_ne hn1 hn2
 refine Fun.intro Tryz.func10 rfl Tryz.ntmps10 rfl (fun cx => (ts (rn rfl (fU (Ht rfl)) fun B4 => (rn rfl (fU (Ht rfl)) fun B5 => (rn rfl (fU (Ht rfl)) fun B6 => (rn rfl (fU (Ht rfl)) fun B7 => (ro rfl (cQ cV) (eX (ts (ro rfl (eZ fa_24_0 (Ht rfl) rfl) (ro rfl (eY A_5 Z_5 (Ht rfl) (i := 0) rfl rfl) (ro rfl (op_remN (Ht rfl) (cJ 3) (by omega)) (ro rfl (dV (Ht rfl) (cJ 1) (by show _ < 256; first | omega | (simp only [lim]; omega))) (ro rfl (eZ fa_24_0 (Ht rfl) rfl) (R_st Z_5 (Ht rfl) (Ht rfl) (i := 0) rfl (aK rfl) rfl ?_)))))))))))))))
 refine eX (ts (ro rfl (eJ A_24 Z_24 (Ht rfl) (i := 0) rfl rfl rfl) (ro rfl (cZ Tryz.call16 hB1 ⟨(Ht rfl), trivial⟩) (rm rfl (ro rfl (dK (Ht rfl) rfl) (ro rfl (dK (Ht rfl) rfl) (ro rfl (dK (Ht rfl) rfl) (rn rfl (eW (Ts := [Is (.slice none 0 0), Is (.slice none 0 0)]) O_30 rfl (fun V => aW ⟨rfl, trivial⟩ (aW ⟨rfl, trivial⟩ (aG)))) fun B9 => (rn rfl (eW (Ts := [Is (.slice none 0 0), Is (.slice none 0 0)]) O_34 rfl (fun V => aW ⟨rfl, trivial⟩ (aW ⟨rfl, trivial⟩ (aG)))) fun B10 => ?_)))))))))
 refine gJ Z_30 (Ht rfl) (Ht rfl) rfl (i := 4) rfl (aK rfl) rfl rfl (gJ Z_34 (Ht rfl) (Ht rfl) rfl (i := 5) rfl (aK rfl) rfl rfl (ra rfl (eX (cK (cK (T_keep [0, 1, 2, 3, 4, 5] rfl (by decide) (cY (rm rfl (ro rfl (op_not (Ht rfl)) (rm rfl (fQ rfl rfl (eK rfl rfl (Ht rfl) (fun h => eJ A_30 Z_30 (Ht rfl) (i := 4) rfl rfl rfl)) (fQ rfl rfl (eK rfl rfl (Ht rfl) (fun h => cZ K_37 c_Ports ⟨(fV rfl h), trivial⟩)) (fQ rfl rfl (eK rfl rfl (Ht rfl) (fun h => gV (fV rfl h) (cJ 2))) ?_)))))))))))))
 refine ro rfl (op_or (Ht rfl) (fun h => (fV rfl h))) (eX (T_condF (Ht rfl) (by simp; omega) ?_))
 refine cU (cK (fJ (m := 5) (dp 5 rfl (op_idxAB Tryz.runUnderlying63 Z_5 (Ht rfl) (cJ 0) rfl (by decide) rfl) (dq 44 0 rfl (eY A_5 Z_5 (Ht rfl) (i := 1) rfl rfl) (dq 45 1 rfl (gW U_5 U_3 (Ht rfl) (by show _ < 9223372036854775808; first | omega | (simp only [lim]; omega))) (dp 9 rfl (eJ A_30 Z_30 (Ht rfl) (i := 4) rfl rfl rfl) (dq 47 3 rfl (cZ K_37 c_Ports ⟨(Ht rfl), trivial⟩) (fW mixed rfl (by kernel_rfl) (aJ (aJ (aJ (aJ (aJ (aV ?_))))))))))))))
 refine ro rfl (op_remN (Ht rfl) (Ht rfl) (by omega)) (ro rfl (dV (Ht rfl) (cJ 1) (by show _ < 9223372036854775808; first | omega | (simp only [lim]; omega))) (ra rfl (eX (cK (fJ (m := 11) (dp 12 rfl (cX (Ht rfl)) (dp 5 rfl (op_idxAB Tryz.runUnderlying63 Z_5 (Ht rfl) (cJ 1) rfl (by decide) rfl) (dq 52 1 rfl (eY A_5 Z_5 (Ht rfl) (i := 1) rfl rfl) (dq 53 2 rfl (gW U_5 U_3 (Ht rfl) (by show _ < 9223372036854775808; first | omega | (simp only [lim]; omega))) (dp 9 rfl (eJ A_30 Z_30 (Ht rfl) (i := 4) rfl rfl rfl) ?_))))))))))
 refine dq 55 4 rfl (cZ K_37 c_Ports ⟨(Ht rfl), trivial⟩) (dq 56 5 rfl (dW (Ht rfl) (cJ 1) (by omega) (by show _ < 9223372036854775808; first | omega | (simp only [lim]; omega))) (dqq 54 3 57 6 rfl (op_remN (Ht rfl) (Ht rfl) (by omega)) (dqq 51 0 58 7 rfl (dV (Ht rfl) (Ht rfl) (by show _ < 9223372036854775808; first | omega | (simp only [lim]; omega))) (dp 9 rfl (eJ A_30 Z_30 (Ht rfl) (i := 4) rfl rfl rfl) (dq 60 9 rfl (cZ K_37 c_Ports ⟨(Ht rfl), trivial⟩) (fW mixed rfl (by kernel_rfl) (aJ (aJ (aJ (aJ (aJ (aJ (aJ (aJ (aJ (aJ (aJ (aV ?_))))))))))))))))))
 refine ro rfl (op_remN (Ht rfl) (Ht rfl) (by omega)) (ro rfl (dV (Ht rfl) (cJ 1) (by show _ < 9223372036854775808; first | omega | (simp only [lim]; omega))) (ra rfl (eX (cK (T_keep [0, 1, 2, 3, 4, 5] rfl (by decide) ?_)))))
 obtain ⟨p, hpd⟩ : ∃ p, p = l0 % z1.length := ⟨_, rfl⟩
 rw [← hpd] at hn1 hn3 hne ⊢
 obtain ⟨q, hqd⟩ : ∃ q, q = (p + 1 + l1 % (z1.length - 1)) % z1.length := ⟨_, rfl⟩
 rw [← hqd] at hn3 hne ⊢
 obtain ⟨zp, hzp⟩ : ∃ zp, zp = gv z1 p := ⟨_, rfl⟩
 obtain ⟨zq, hzq⟩ : ∃ zq, zq = gv z1 q := ⟨_, rfl⟩
 have fp : FitC zp 2 := by rw [hzp]; exact f1.get (by decide) p
 have fq : FitC zq 2 := by rw [hzq]; exact f1.get (by decide) q
 have hpp : posQ zp = true := by rw [hzp]; exact hpos p hn1
 have hpq : posQ zq = true := by rw [hzq]; exact hpos q hn3
 have hr1 := hrf p hn1
 have hr2 := hrf q hn3
 rw [← hzp] at hr1
 rw [← hzq] at hr2
 refine cY (ro rfl (eJ A_30 Z_30 (Ht rfl) (i := 4) rfl rfl rfl) (rm rfl (ro rfl (cZ Tryz.call63 hr1 ⟨(Ht rfl), (Ht rfl), trivial⟩) (rm rfl (ro rfl (dK (Ht rfl) rfl) (ro rfl (dK (Ht rfl) rfl) (rn rfl (eW (Ts := [Is (.bool false), Is (.slice none 0 0), Is (.bool false), Is (.slice none 0 0), Is (.slice none 0 0)]) O_45 rfl (fun V => aW ⟨rfl, trivial⟩ (aW ⟨rfl, trivial⟩ (aW ⟨rfl, trivial⟩ (aW ⟨rfl, trivial⟩ (aW ⟨rfl, trivial⟩ (aG))))))) fun B14 => (gJ Z_45 (Ht rfl) (Ht rfl) rfl (i := 6) rfl (aK rfl) rfl rfl ?_))))))))
 refine ra rfl (eX (cK (T_keep [0, 1, 2, 3, 4, 5, 6] rfl (by decide) (cY (ro rfl (eJ A_30 Z_30 (Ht rfl) (i := 4) rfl rfl rfl) (rm rfl (ro rfl (cZ Tryz.call63 hr2 ⟨(Ht rfl), (Ht rfl), trivial⟩) (rm rfl (ro rfl (dK (Ht rfl) rfl) (ro rfl (dK (Ht rfl) rfl) (rn rfl (eW (Ts := [Is (.bool false), Is (.slice none 0 0), Is (.bool false), Is (.slice none 0 0), Is (.slice none 0 0)]) O_45 rfl (fun V => aW ⟨rfl, trivial⟩ (aW ⟨rfl, trivial⟩ (aW ⟨rfl, trivial⟩ (aW ⟨rfl, trivial⟩ (aW ⟨rfl, trivial⟩ (aG))))))) fun B16 => ?_)))))))))))
 refine gJ Z_45 (Ht rfl) (Ht rfl) rfl (i := 7) rfl (aK rfl) rfl rfl (ra rfl (eX (cK (T_keep [0, 1, 2, 3, 4, 5, 6, 7] rfl (by decide) (cY (ro rfl (eJ A_24 Z_24 (Ht rfl) (i := 2) rfl rfl rfl) (ro rfl (eJ A_45 Z_45 (Ht rfl) (i := 6) rfl rfl rfl) (ro rfl (cZ Tryz.call64 (c_lawFix (zl := zm) (sl := sm) (zz := zp) hpp fp) ⟨(Ht rfl), (cJ 2), (Ht rfl), trivial⟩) (rm rfl (ro rfl (dK (Ht rfl) rfl) (ro rfl (dK (Ht rfl) rfl) (rn rfl (eW (Ts := [Is (.slice none 0 0), Is (.slice none 0 0)]) O_30 rfl (fun V => aW ⟨rfl, trivial⟩ (aW ⟨rfl, trivial⟩ (aG)))) fun B18 => ?_))))))))))))
 refine gJ Z_30 (Ht rfl) (Ht rfl) rfl (i := 8) rfl (aK rfl) rfl rfl (ra rfl (eX (cK (T_keep [0, 1, 2, 3, 4, 5, 6, 7, 8] rfl (by decide) (cY (ro rfl (eJ A_24 Z_24 (Ht rfl) (i := 3) rfl rfl rfl) (ro rfl (eJ A_45 Z_45 (Ht rfl) (i := 7) rfl rfl rfl) (ro rfl (cZ Tryz.call64 (c_lawFix (zl := zt) (sl := st) (zz := zq) hpq fq) ⟨(Ht rfl), (cJ 2), (Ht rfl), trivial⟩) (rm rfl (ro rfl (dK (Ht rfl) rfl) (ro rfl (dK (Ht rfl) rfl) (rn rfl (eW (Ts := [Is (.slice none 0 0), Is (.slice none 0 0)]) O_30 rfl (fun V => aW ⟨rfl, trivial⟩ (aW ⟨rfl, trivial⟩ (aG)))) fun B20 => ?_))))))))))))
 refine gJ Z_30 (Ht rfl) (Ht rfl) rfl (i := 9) rfl (aK rfl) rfl rfl (ra rfl (eX (cK (cK (T_keep [0, 1, 2, 3, 4, 5, 6, 7, 8, 9] rfl (by decide) (cY (rm rfl (ro rfl (op_not (Ht rfl)) (rm rfl (fQ rfl rfl (eK rfl rfl (Ht rfl) (fun h => cX (Ht rfl))) (fQ rfl rfl (eK rfl rfl (Ht rfl) (fun h => op_not (fV rfl h))) (ro rfl (op_or (Ht rfl) (fun h => (fV rfl h))) (eX (T_condF (Ht rfl) (by rfl) ?_))))))))))))))
 obtain ⟨fZ, hfZ⟩ : ∃ fZ, fZ = fixZ zm zp := ⟨_, rfl⟩
 obtain ⟨gZ, hgZ⟩ : ∃ gZ, gZ = fixZ zt zq := ⟨_, rfl⟩
 obtain ⟨F, hF⟩ : ∃ F, F = fixS sm := ⟨_, rfl⟩
 obtain ⟨G, hG⟩ : ∃ G, G = fixS st := ⟨_, rfl⟩
 have fF : FitM F 2 := by rw [hF]; exact fixS_fit sm
 have fG : FitM G 2 := by rw [hG]; exact fixS_fit st
 by_cases hD1 : emD s1 F p = Qi.zero
 ·have hc1 := (c_EmbN0 (z := z1) (s := s1) (p := p) (L := 2) (zl := zm) (sl := sm) (zz := zp) hsh hn1 (by omega) f3 f1 (by decide) (by decide) hzp.symm fp (by rw [← hF]; exact hD1))
  have hc2 := c_Embed (z := z1) (fz := fixZ zt zq) (s := s1) (f := fixS st) (port := ((q + 1 : Nat) : Int)) (L := 2) hsh (by omega) (by omega) f3 (fixS_fit st) f1 (fixZ_fit zt fq) (by decide) (by decide) (fun _ => fixS_shp st)
  refine cU (ts (ro rfl (eJ A_30 Z_30 (Ht rfl) (i := 4) rfl rfl rfl) (rm rfl (ro rfl (eJ A_30 Z_30 (Ht rfl) (i := 8) rfl rfl rfl) (ro rfl (cZ K_53 hc1 ⟨(Ht rfl), (Ht rfl), (Ht rfl), trivial⟩) (rm rfl (ro rfl (dK (Ht rfl) rfl) (ro rfl (dK (Ht rfl) rfl) (rn rfl (eW (Ts := [Is (.slice none 0 0), Is (.slice none 0 0)]) O_30 rfl (fun V => aW ⟨rfl, trivial⟩ (aW ⟨rfl, trivial⟩ (aG)))) fun B22 => (gJ Z_30 (Ht rfl) (Ht rfl) rfl (i := 10) rfl (aK rfl) rfl rfl ?_))))))))))
  refine ra rfl (eX (cK (T_keep [0, 1, 2, 3, 4, 5, 6, 7, 8, 9, 10] rfl (by decide) (cY (ro rfl (eJ A_30 Z_30 (Ht rfl) (i := 4) rfl rfl rfl) (rm rfl (ro rfl (eJ A_30 Z_30 (Ht rfl) (i := 9) rfl rfl rfl) (ro rfl (cZ K_53 hc2 ⟨(Ht rfl), (Ht rfl), (Ht rfl), trivial⟩) (rm rfl (ro rfl (dK (Ht rfl) rfl) (ro rfl (dK (Ht rfl) rfl) (rn rfl (eW (Ts := [Is (.slice none 0 0), Is (.slice none 0 0)]) O_30 rfl (fun V => aW ⟨rfl, trivial⟩ (aW ⟨rfl, trivial⟩ (aG)))) fun B24 => ?_))))))))))))
  refine gJ Z_30 (Ht rfl) (Ht rfl) rfl (i := 11) rfl (aK rfl) rfl rfl (ra rfl (eX (cK (cK (T_keep [0, 1, 2, 3, 4, 5, 6, 7, 8, 9, 10, 11] rfl (by decide) (cY (rm rfl (ro rfl (op_neq (Ht rfl) cV) (rm rfl (fQ rfl rfl (eK rfl rfl (Ht rfl) (fun h => cX (Ht rfl))) (fQ rfl rfl (eK rfl rfl (Ht rfl) (fun h => op_neq (fV rfl h) cV)) (ro rfl (op_or (Ht rfl) (fun h => (fV rfl h))) (eX (T_condT (Ht rfl) (by simp) ?_))))))))))))))
  refine ts (ro rfl (cZ Tryz.call15 c_awake4 trivial) (ra rfl (eX ?_)))
  exact fK rfl (eU rfl)
 ·have hc1 := (c_EmbN1 (z := z1) (s := s1) (p := p) (L := 2) (zl := zm) (sl := sm) (zz := zp) hsh hn1 (by omega) f3 f1 (by decide) (by decide) hzp.symm fp (by rw [← hF]; exact hD1))
  rw [← hfZ, ← hF] at hc1
  by_cases hD2 : emD s1 G q = Qi.zero
  ·have hc2 := (c_EmbN0 (z := z1) (s := s1) (p := q) (L := 2) (zl := zt) (sl := st) (zz := zq) hsh hn3 (by omega) f3 f1 (by decide) (by decide) hzq.symm fq (by rw [← hG]; exact hD2))
   rw [← hgZ, ← hG] at hc2
   rw [← hfZ, ← hF, ← hgZ, ← hG]
   refine cU (ts (ro rfl (eJ A_30 Z_30 (Ht rfl) (i := 4) rfl rfl rfl) (rm rfl (ro rfl (eJ A_30 Z_30 (Ht rfl) (i := 8) rfl rfl rfl) (ro rfl (cZ K_53 hc1 ⟨(Ht rfl), (Ht rfl), (Ht rfl), trivial⟩) (rm rfl (ro rfl (dK (Ht rfl) rfl) (ro rfl (dK (Ht rfl) rfl) (rn rfl (eW (Ts := [Is (.slice none 0 0), Is (.slice none 0 0)]) O_30 rfl (fun V => aW ⟨rfl, trivial⟩ (aW ⟨rfl, trivial⟩ (aG)))) fun B22 => (gJ Z_30 (Ht rfl) (Ht rfl) rfl (i := 10) rfl (aK rfl) rfl rfl ?_))))))))))
   refine ra rfl (eX (cK (T_keep [0, 1, 2, 3, 4, 5, 6, 7, 8, 9, 10] rfl (by decide) (cY (ro rfl (eJ A_30 Z_30 (Ht rfl) (i := 4) rfl rfl rfl) (rm rfl (ro rfl (eJ A_30 Z_30 (Ht rfl) (i := 9) rfl rfl rfl) (ro rfl (cZ K_53 hc2 ⟨(Ht rfl), (Ht rfl), (Ht rfl), trivial⟩) (rm rfl (ro rfl (dK (Ht rfl) rfl) (ro rfl (dK (Ht rfl) rfl) (rn rfl (eW (Ts := [Is (.slice none 0 0), Is (.slice none 0 0)]) O_30 rfl (fun V => aW ⟨rfl, trivial⟩ (aW ⟨rfl, trivial⟩ (aG)))) fun B24 => ?_))))))))))))
   refine gJ Z_30 (Ht rfl) (Ht rfl) rfl (i := 11) rfl (aK rfl) rfl rfl (ra rfl (eX (cK (cK (T_keep [0, 1, 2, 3, 4, 5, 6, 7, 8, 9, 10, 11] rfl (by decide) (cY (rm rfl (ro rfl (op_neq (Ht rfl) cV) (rm rfl (fQ rfl rfl (eK rfl rfl (Ht rfl) (fun h => cX (Ht rfl))) (fQ rfl rfl (eK rfl rfl (Ht rfl) (fun h => op_neq (fV rfl h) cV)) (ro rfl (op_or (Ht rfl) (fun h => (fV rfl h))) (eX (T_condT (Ht rfl) (by simp) ?_))))))))))))))
   refine ts (ro rfl (cZ Tryz.call15 c_awake4 trivial) (ra rfl (eX ?_)))
   exact fK rfl (eU rfl)
  ·have hc2 := (c_EmbN1 (z := z1) (s := s1) (p := q) (L := 2) (zl := zt) (sl := st) (zz := zq) hsh hn3 (by omega) f3 f1 (by decide) (by decide) hzq.symm fq (by rw [← hG]; exact hD2))
   rw [← hgZ, ← hG] at hc2
   obtain ⟨za, hza⟩ : ∃ za, za = z1.set p (gv fZ 0) := ⟨_, rfl⟩
   obtain ⟨zb, hzb⟩ : ∃ zb, zb = z1.set q (gv gZ 0) := ⟨_, rfl⟩
   obtain ⟨SA, hSA⟩ : ∃ SA, SA = embM s1 F p z1.length := ⟨_, rfl⟩
   obtain ⟨SB, hSB⟩ : ∃ SB, SB = embM s1 G q z1.length := ⟨_, rfl⟩
   rw [← hza, ← hSA] at hc1
   rw [← hzb, ← hSB] at hc2
   have hfF : FitL fZ 2 := by rw [hfZ]; exact fixZ_fit zm fp
   have hfG : FitL gZ 2 := by rw [hgZ]; exact fixZ_fit zt fq
   have hzal : za.length = z1.length := by rw [hza, List.length_set]
   have hzbl : zb.length = z1.length := by rw [hzb, List.length_set]
   have fza : FitL za 60 := (by rw [hza]; exact setL_fit f1 (hfF.get (by decide) 0) : FitL za 2).le (by decide)
   have fzb : FitL zb 60 := (by rw [hzb]; exact setL_fit f1 (hfG.get (by decide) 0) : FitL zb 2).le (by decide)
   have fSA : FitM SA 60 := by rw [hSA]; exact embM_fit f3 fF (by decide) hD1
   have fSB : FitM SB 60 := by rw [hSB]; exact embM_fit f3 fG (by decide) hD2
   have sSA : Shp SA za.length za.length := by rw [hzal, hSA]; exact Shp.tab
   have sSB : Shp SB zb.length zb.length := by rw [hzbl, hSB]; exact Shp.tab
   have haq : gv za q = zq := by rw [hza, gv_set hn1, if_neg (Ne.symm hne), ← hzq]
   have hbp : gv zb p = zp := by rw [hzb, gv_set hn3, if_neg hne, ← hzp]
   have hiff := tw_zero (s := s1) (f := F) (g := G) hn1 hn3 hne hD1 hD2
   rw [← hSA, ← hSB] at hiff
   have hC3 : Fun Tryz.prog 53 [NetT za SA, NT .i64 (q + 1), NetT gZ G] (TupT [NetT (if emD SA G q = Qi.zero then [] else za.set q (gv gZ 0)) (if emD SA G q = Qi.zero then [] else embM SA G q za.length), IntT .i64 (if emD SA G q = Qi.zero then 6 else 0)]) := by
    by_cases h : emD SA G q = Qi.zero
    ·rw [if_pos h, if_pos h, if_pos h, hgZ, hG]; exact c_EmbN0 (L := 60) sSA (by omega) (by omega) fSA fza (by decide) (by decide) haq fq (by rw [← hG]; exact h)
    ·rw [if_neg h, if_neg h, if_neg h, hgZ, hG]; exact c_EmbN1 (L := 60) sSA (by omega) (by omega) fSA fza (by decide) (by decide) haq fq (by rw [← hG]; exact h)
   have hC4 : Fun Tryz.prog 53 [NetT zb SB, NT .i64 (p + 1), NetT fZ F] (TupT [NetT (if emD SB F p = Qi.zero then [] else zb.set p (gv fZ 0)) (if emD SB F p = Qi.zero then [] else embM SB F p zb.length), IntT .i64 (if emD SB F p = Qi.zero then 6 else 0)]) := by
    by_cases h : emD SB F p = Qi.zero
    ·rw [if_pos h, if_pos h, if_pos h, hfZ, hF]; exact c_EmbN0 (L := 60) sSB (by omega) (by omega) fSB fzb (by decide) (by decide) hbp fp (by rw [← hF]; exact h)
    ·rw [if_neg h, if_neg h, if_neg h, hfZ, hF]; exact c_EmbN1 (L := 60) sSB (by omega) (by omega) fSB fzb (by decide) (by decide) hbp fp (by rw [← hF]; exact h)
   have hfin : ∃ zc C e, FitL zc 1220 ∧ FitM C 1220 ∧ Shp C zc.length zc.length ∧ zc.length ≤ 1000 ∧
     Fun Tryz.prog 53 [NetT za SA, NT .i64 (q + 1), NetT gZ G] (TupT [NetT zc C, IntT .i64 e]) ∧ Fun Tryz.prog 53 [NetT zb SB, NT .i64 (p + 1), NetT fZ F] (TupT [NetT zc C, IntT .i64 e]) := by
    by_cases h : emD SA G q = Qi.zero
    ·rw [if_pos h, if_pos h, if_pos h] at hC3
     rw [if_pos (hiff.1 h), if_pos (hiff.1 h), if_pos (hiff.1 h)] at hC4
     exact ⟨[], [], 6, (fun x hx => by cases hx), FitM.nil, ⟨rfl, (fun r hr => by cases hr)⟩, by decide, hC3, hC4⟩
    ·have h2 : ¬ emD SB F p = Qi.zero := fun k => h (hiff.2 k)
     rw [if_neg h, if_neg h, if_neg h] at hC3
     rw [if_neg h2, if_neg h2, if_neg h2] at hC4
     have e1 : zb.set p (gv fZ 0) = za.set q (gv gZ 0) := by rw [hza, hzb, List.set_comm _ _ hne]
     have e2 : embM SB F p zb.length = embM SA G q za.length := by rw [hzal, hzbl, hSA, hSB]; exact (tw_eq hn1 hn3 hne hD1 hD2 (by rw [← hSA]; exact h)).symm
     rw [e1, e2] at hC4
     exact ⟨_, _, 0, (setL_fit fza ((hfG.get (by decide) 0).le (by decide))).le (by decide), embM_fit fSA (fG.le (by decide)) (by decide) h, by rw [List.length_set]; exact Shp.tab, by rw [List.length_set]; omega, hC3, hC4⟩
   obtain ⟨zc, C, e, fzc, fC, sC, lzc, hc3, hc4⟩ := hfin
   rw [← hfZ, ← hF, ← hgZ, ← hG]
   refine cU (ts (ro rfl (eJ A_30 Z_30 (Ht rfl) (i := 4) rfl rfl rfl) (rm rfl (ro rfl (eJ A_30 Z_30 (Ht rfl) (i := 8) rfl rfl rfl) (ro rfl (cZ K_53 hc1 ⟨(Ht rfl), (Ht rfl), (Ht rfl), trivial⟩) (rm rfl (ro rfl (dK (Ht rfl) rfl) (ro rfl (dK (Ht rfl) rfl) (rn rfl (eW (Ts := [Is (.slice none 0 0), Is (.slice none 0 0)]) O_30 rfl (fun V => aW ⟨rfl, trivial⟩ (aW ⟨rfl, trivial⟩ (aG)))) fun B22 => (gJ Z_30 (Ht rfl) (Ht rfl) rfl (i := 10) rfl (aK rfl) rfl rfl ?_))))))))))
   refine ra rfl (eX (cK (T_keep [0, 1, 2, 3, 4, 5, 6, 7, 8, 9, 10] rfl (by decide) (cY (ro rfl (eJ A_30 Z_30 (Ht rfl) (i := 4) rfl rfl rfl) (rm rfl (ro rfl (eJ A_30 Z_30 (Ht rfl) (i := 9) rfl rfl rfl) (ro rfl (cZ K_53 hc2 ⟨(Ht rfl), (Ht rfl), (Ht rfl), trivial⟩) (rm rfl (ro rfl (dK (Ht rfl) rfl) (ro rfl (dK (Ht rfl) rfl) (rn rfl (eW (Ts := [Is (.slice none 0 0), Is (.slice none 0 0)]) O_30 rfl (fun V => aW ⟨rfl, trivial⟩ (aW ⟨rfl, trivial⟩ (aG)))) fun B24 => ?_))))))))))))
   refine gJ Z_30 (Ht rfl) (Ht rfl) rfl (i := 11) rfl (aK rfl) rfl rfl (ra rfl (eX (cK (cK (T_keep [0, 1, 2, 3, 4, 5, 6, 7, 8, 9, 10, 11] rfl (by decide) (cY (rm rfl (ro rfl (op_neq (Ht rfl) cV) (rm rfl (fQ rfl rfl (eK rfl rfl (Ht rfl) (fun h => cX (Ht rfl))) (fQ rfl rfl (eK rfl rfl (Ht rfl) (fun h => op_neq (fV rfl h) cV)) (ro rfl (op_or (Ht rfl) (fun h => (fV rfl h))) (eX (T_condF (Ht rfl) (by rfl) ?_))))))))))))))
   refine cU (ts (ro rfl (eJ A_30 Z_30 (Ht rfl) (i := 10) rfl rfl rfl) (rm rfl (ro rfl (eJ A_30 Z_30 (Ht rfl) (i := 9) rfl rfl rfl) (ro rfl (cZ K_53 hc3 ⟨(Ht rfl), (Ht rfl), (Ht rfl), trivial⟩) (rm rfl (ro rfl (dK (Ht rfl) rfl) (ro rfl (dK (Ht rfl) rfl) (gJ Z_30 (Ht rfl) (Ht rfl) rfl (i := 10) rfl (aK rfl) rfl rfl (ra rfl (eX (cK (T_keep [0, 1, 2, 3, 4, 5, 6, 7, 8, 9, 10, 11] rfl (by decide) (cY (ro rfl (eJ A_30 Z_30 (Ht rfl) (i := 11) rfl rfl rfl) ?_)))))))))))))))
   refine rm rfl (ro rfl (eJ A_30 Z_30 (Ht rfl) (i := 8) rfl rfl rfl) (ro rfl (cZ K_53 hc4 ⟨(Ht rfl), (Ht rfl), (Ht rfl), trivial⟩) (rm rfl (ro rfl (dK (Ht rfl) rfl) (ro rfl (dK (Ht rfl) rfl) (gJ Z_30 (Ht rfl) (Ht rfl) rfl (i := 11) rfl (aK rfl) rfl rfl (ra rfl (eX (cK (T_keep [0, 1, 2, 3, 4, 5, 6, 7, 8, 9, 10, 11] rfl (by decide) (cY (rm rfl (ro rfl (op_neq (Ht rfl) cV) (rm rfl (fQ rfl rfl (eK rfl rfl (Ht rfl) (fun h => cX (Ht rfl))) (fQ rfl rfl (eK rfl rfl (Ht rfl) (fun h => op_neq (fV rfl h) cV)) ?_))))))))))))))))
   refine ro rfl (op_or (Ht rfl) (fun h => (fV rfl h))) (rm rfl (fQ rfl rfl (eK rfl rfl (Ht rfl) (fun h => eJ A_30 Z_30 (Ht rfl) (i := 10) rfl rfl rfl)) (fQ rfl rfl (eK rfl rfl (Ht rfl) (fun h => eJ A_30 Z_30 (Ht rfl) (i := 11) rfl rfl rfl)) (fQ rfl rfl (eK rfl rfl (Ht rfl) (fun h => cZ Tryz.call36 (c_netEqual (L := 1220) fzc fzc fC fC (by decide) (by decide) sC sC lzc lzc) ⟨(fV rfl h), (fV rfl h), trivial⟩)) (ro rfl (op_or (Ht rfl) (fun h => (fV rfl h))) (rm rfl (fQ rfl rfl (eK rfl rfl (Ht rfl) (fun h => cX (Ht rfl))) ?_)))))))
   refine fQ rfl rfl (eK rfl rfl (Ht rfl) (fun h => op_eql (fV rfl h) cV)) (fQ rfl rfl (eK rfl rfl (Ht rfl) (fun h => cX (Ht rfl))) (fQ rfl rfl (eK rfl rfl (Ht rfl) (fun h => op_eql (fV rfl h) cV)) (fQ rfl rfl (eK rfl rfl (Ht rfl) (fun h => op_beq U_4 (fV rfl h) (fV rfl h))) (ro rfl (op_and (Ht rfl) (fun h => (fV rfl h))) (rm rfl (fQ rfl rfl (eK rfl rfl (Ht rfl) (fun h => cZ Tryz.call15 c_awake4 trivial)) (ro rfl (op_and (Ht rfl) (fun h => (fV rfl h))) (ra rfl (eX (fK rfl (fX (eU rfl) ?_)))))))))))
   exact (bool_of (by simp [netEq_refl]))
end
section
open Go Go.ChangeShapes Go.WideShapes Go.ChangeAt Go.RowKit Go.Deep
section
variable {H : Type} {enc : TypeId × Value → H} {W : World} {base : Nat} {sp : Nat → Bool} {held : Bool}
theorem s125 : S3 Tryz.prog 24 5 22 22 := ⟨⟨_, _, _, Tryz.underlying24, rfl, rfl, rfl, rfl, rfl, rfl⟩, by kernel_rfl, by kernel_rfl, by kernel_rfl, by kernel_rfl⟩
theorem trod_partT {b0 : Nat} {v : Value} {d : DataW H} {p : List MemPlace} (ho : Value.okWide Tryz.prog W .any b0 24 v) (h : DataW.Trod enc Tryz.prog W base sp held 24 v d p) : ∃ (a : Nat) (zl sl : List Rt), (AggT [NT .u8 a, RatsT zl, RatsT sl]).p v (hv W) ∧ a < 256 := by
 obtain ⟨cs, rfl, _⟩ := okWide_struct Tryz.underlying24 ho
 obtain ⟨n, hn⟩ := h
 obtain ⟨x0, x1, x2, m, y0, y1, y2, hcs, h0, h1, h2⟩ := s125.open hn
 obtain ⟨i, e0, _, w⟩ := DataW.trod_int V_5 h0
 obtain ⟨v1, z, e1, k1⟩ := open_rats h1
 obtain ⟨v2, s, e2, k2⟩ := open_rats h2
 simp only [List.cons.injEq, and_true] at e0 e1 e2
 subst e0 e1 e2
 have hw := wf_u8 w
 have e : ((i.toNat : Nat) : Int) = i := by omega
 have hi : ∀ V, (NT .u8 i.toNat).p (.int .u8 i) V := fun V => by rw [show NT .u8 i.toNat = IntT .u8 i from congrArg (IntT .u8) e]; rfl
 have hcs2 : cs.toList = [.int .u8 i, x1, x2] := hcs
 exact ⟨i.toNat, z, s, ⟨cs.toList, rfl, by rw [hcs2]; exact aW ⟨hi _, trivial⟩ (aW ⟨k1, (sl_cells k1).2⟩ (aW ⟨k2, (sl_cells k2).2⟩ aG))⟩, by omega⟩
end
end
section
open Go Go.ChangeShapes Go.WideShapes Go.ChangeAt Go.RowKit Go.Deep
section
variable {H : Type} {enc : TypeId × Value → H} {W : World} {base : Nat} {sp : Nat → Bool} {held : Bool}
theorem okWide_arr {P : Program} {w : World} {r : Reach} {base : Nat} {t : TypeId} {v : Value} {n : Nat} {e : TypeId} (ht : P.underlying t = some (.array n e)) (h : Value.okWide P w r base t v) : ∃ cs, v = .agg cs ∧ cs.size = P.cellsOf t := by
 simp only [Value.okWide, ht] at h
 obtain ⟨cs, h1, h2, _⟩ := h
 exact ⟨cs, h1, h2⟩
theorem u8_of {i : Int} (w : 0 ≤ i ∧ i < 256) : ∀ V, (NT .u8 i.toNat).p (.int .u8 i) V := fun V => by
 have e : ((i.toNat : Nat) : Int) = i := by omega
 rw [show NT .u8 i.toNat = IntT .u8 i from congrArg (IntT .u8) e]; rfl
theorem trod_a4T {b0 : Nat} {v : Value} {d : DataW H} {p : List MemPlace} (ho : Value.okWide Tryz.prog W .any b0 63 v) (h : DataW.Trod enc Tryz.prog W base sp held 63 v d p) :
  ∃ a b c e : Nat, (AggT [NT .u8 a, NT .u8 b, NT .u8 c, NT .u8 e]).p v (hv W) ∧ a < 256 ∧ b < 256 ∧ c < 256 ∧ e < 256 := by
 obtain ⟨cs, rfl, _⟩ := okWide_arr Tryz.underlying63 ho
 obtain ⟨n, hn⟩ := h
 obtain ⟨xs, m, _, _, hl, hx, he⟩ := DataW.trod_array Tryz.underlying63 hn
 have hc : Tryz.prog.cellsOf 63 = 4 := by kernel_rfl
 have hi : Tryz.prog.cellsOf 5 = 1 := by kernel_rfl
 rw [hc] at hl
 obtain ⟨cl, hcl⟩ : ∃ cl, cl = cs.toList := ⟨_, rfl⟩
 have e9 : (Value.agg cs).cells.toList = cl := hcl.symm
 rw [e9] at hl he
 match cl, hl with
 | [c0, c1, c2, c3], _ =>
  match xs, hx with
  | [y0, y1, y2, y3], _ =>
   have e0 := he 0 (by omega)
   have e1 := he 1 (by omega)
   have e2 := he 2 (by omega)
   have e3 := he 3 (by omega)
   rw [hi] at e0 e1 e2 e3
   obtain ⟨i0, q0, _, w0⟩ := DataW.trod_int V_5 (show DataW.trod enc Tryz.prog W base sp held m 5 [c0] = some y0 from e0)
   obtain ⟨i1, q1, _, w1⟩ := DataW.trod_int V_5 (show DataW.trod enc Tryz.prog W base sp held m 5 [c1] = some y1 from e1)
   obtain ⟨i2, q2, _, w2⟩ := DataW.trod_int V_5 (show DataW.trod enc Tryz.prog W base sp held m 5 [c2] = some y2 from e2)
   obtain ⟨i3, q3, _, w3⟩ := DataW.trod_int V_5 (show DataW.trod enc Tryz.prog W base sp held m 5 [c3] = some y3 from e3)
   simp only [List.cons.injEq, and_true] at q0 q1 q2 q3
   subst q0 q1 q2 q3
   have b0 := wf_u8 w0
   have b1 := wf_u8 w1
   have b2 := wf_u8 w2
   have b3 := wf_u8 w3
   exact ⟨i0.toNat, i1.toNat, i2.toNat, i3.toNat, ⟨cs.toList, rfl, by rw [← hcl]; exact aW ⟨u8_of ⟨by omega, by omega⟩ _, trivial⟩ (aW ⟨u8_of ⟨by omega, by omega⟩ _, trivial⟩ (aW ⟨u8_of ⟨by omega, by omega⟩ _, trivial⟩ (aW ⟨u8_of ⟨by omega, by omega⟩ _, trivial⟩ aG)))⟩, by omega, by omega, by omega, by omega⟩
end
end
end Go.Proofs.YteimkhgiekndjaaGreat
