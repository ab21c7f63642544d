/- What functions of the program compute, proved by walks over their code, and the plain mathematics of it; a part of the proof in the last text. -/
import Derived.Test.YteimkhgiekndjaaGreatP04
set_option linter.unusedVariables false
set_option linter.unusedSimpArgs false
set_option maxRecDepth 100000
set_option maxHeartbeats 4000000
namespace Go.Proofs.YteimkhgiekndjaaGreat
section
open Go Go.RowKit
theorem sumN_sub (m : Nat) (f : Qi) (a b : Nat → Qi) : sumN m (fun k => a k - f * b k) = sumN m a - f * sumN m b := by
 induction m with
 | zero => simp only [sumN, q0]; grind
 | succ m ih => simp only [sumN, ih]; grind
def Ker (M : List (List Qi)) (n m : Nat) (x : Nat → Qi) : Prop := ∀ i, i < n → sumN m (fun k => gm M i k * x k) = 0
def redJR (rr rc : List Qi) (c k : Nat) : List Qi := tab rr.length fun j => if c ≤ j ∧ j < k then gv rr j - gv rr c / gv rc c * gv rc j else gv rr j
def redJ (M : List (List Qi)) (c r : Nat) : List (List Qi) := tab M.length fun i => if i ≠ c ∧ i < r then redJR (rw' M i) (rw' M c) c (rw' M i).length else rw' M i
theorem redJ_len (M : List (List Qi)) (c r : Nat) : (redJ M c r).length = M.length := tab_len _ _
theorem redJR_len (rr rc : List Qi) (c k : Nat) : (redJR rr rc c k).length = rr.length := tab_len _ _
theorem redJ_row {M : List (List Qi)} {c r i : Nat} (hi : i < M.length) : rw' (redJ M c r) i = if i ≠ c ∧ i < r then redJR (rw' M i) (rw' M c) c (rw' M i).length else rw' M i := by
 simp only [rw', redJ, List.getD]; rw [tab_get hi]; rfl
theorem redJ_shp {M : List (List Qi)} {n m c r : Nat} (h : Shp M n m) : Shp (redJ M c r) n m := by
 refine ⟨(redJ_len _ _ _).trans h.1, fun x hx => ?_⟩
 obtain ⟨i, hi, rfl⟩ := tab_mem.1 hx
 have hr := h.row (i := i) (by rw [← h.1]; exact hi)
 show (if i ≠ c ∧ i < r then redJR (rw' M i) (rw' M c) c (rw' M i).length else rw' M i).length = m
 split
 ·rw [redJR_len]; exact hr
 ·exact hr
theorem redJ_gm {M : List (List Qi)} {n m c i j : Nat} (h : Shp M n m) (hi : i < n) (hj : j < m) : gm (redJ M c n) i j = if i ≠ c ∧ c ≤ j then gm M i j - gm M i c / gm M c c * gm M c j else gm M i j := by
 have hr : (rw' M i).length = m := h.row hi
 show gv (rw' (redJ M c n) i) j = _
 rw [redJ_row (by rw [h.1]; exact hi)]
 by_cases e : i = c
 ·rw [if_neg (fun k => k.1 e), if_neg (fun k => k.1 e)]
 ·rw [if_pos ⟨e, hi⟩, redJR, gv_tab (by omega)]
  by_cases e2 : c ≤ j
  ·rw [if_pos ⟨e2, by omega⟩, if_pos ⟨e, e2⟩]
  ·rw [if_neg (fun k => e2 k.1), if_neg (fun k => e2 k.2)]
theorem swp_rw {M : List (List Qi)} {p c i : Nat} (hp : p < M.length) (hc : c < M.length) : rw' (swp [] M p c) i = rw' M (if i = c then p else if i = p then c else i) := by
 simp only [rw', swp, List.getD]
 by_cases e : i = c
 ·subst e; rw [List.getElem?_set_self (by simpa using hc), if_pos rfl]; rfl
 ·rw [List.getElem?_set_ne (Ne.symm e), if_neg e]
  by_cases e2 : i = p
  ·subst e2; rw [List.getElem?_set_self hp, if_pos rfl]; rfl
  ·rw [List.getElem?_set_ne (Ne.symm e2), if_neg e2]
theorem ker_swp {M : List (List Qi)} {n m p c : Nat} {x : Nat → Qi} (hl : M.length = n) (hp : p < n) (hc : c < n) : Ker (swp [] M p c) n m x ↔ Ker M n m x := by
 have key : ∀ i, gm (swp [] M p c) i = gm M (if i = c then p else if i = p then c else i) := fun i => by
  funext j; exact congrArg (fun r => gv r j) (swp_rw (by omega) (by omega))
 constructor
 ·intro h i hi
  have h1 := h (if i = c then p else if i = p then c else i) (by split <;> (try split) <;> omega)
  rw [key] at h1
  have e : (if (if i = c then p else if i = p then c else i) = c then p else if (if i = c then p else if i = p then c else i) = p then c else (if i = c then p else if i = p then c else i)) = i := by
   by_cases e1 : i = c
   ·subst e1; rw [if_pos rfl]
    by_cases e2 : p = i
    ·rw [if_pos e2]; exact e2
    ·rw [if_neg e2, if_pos rfl]
   ·rw [if_neg e1]
    by_cases e2 : i = p
    ·subst e2; rw [if_pos rfl, if_pos rfl]
    ·rw [if_neg e2, if_neg e1, if_neg e2]
  rw [e] at h1; exact h1
 ·intro h i hi
  rw [key]; exact h _ (by split <;> (try split) <;> omega)
theorem ker_red {M : List (List Qi)} {n m c : Nat} {x : Nat → Qi} (hs : Shp M n m) (hc : c < n) (hz : ∀ j, j < c → gm M c j = 0) : Ker (redJ M c n) n m x ↔ Ker M n m x := by
 have key : ∀ i, i < n → i ≠ c → sumN m (fun k => gm (redJ M c n) i k * x k) = sumN m (fun k => gm M i k * x k) - gm M i c / gm M c c * sumN m (fun k => gm M c k * x k) := fun i hi e => by
  rw [← sumN_sub]
  refine sumN_congr fun k hk => ?_
  rw [redJ_gm hs hi hk]
  by_cases e2 : c ≤ k
  ·rw [if_pos ⟨e, e2⟩]; grind
  ·rw [if_neg (fun h => e2 h.2), hz k (by omega)]; grind
 have keyc : sumN m (fun k => gm (redJ M c n) c k * x k) = sumN m (fun k => gm M c k * x k) := sumN_congr fun k hk => by rw [redJ_gm hs hc hk, if_neg (fun h => h.1 rfl)]
 constructor
 ·intro h i hi
  have h0 := h c hc
  rw [keyc] at h0
  by_cases e : i = c
  ·rw [e]; exact h0
  ·have h1 := h i hi
   rw [key i hi e, h0] at h1
   grind
 ·intro h i hi
  have h0 := h c hc
  by_cases e : i = c
  ·rw [e, keyc]; exact h0
  ·rw [key i hi e, h0, h i hi]; grind
structure GJ (M A : List (List Qi)) (n m c : Nat) : Prop where
 sh : Shp A n m
 ker : ∀ x, Ker A n m x ↔ Ker M n m x
 off : ∀ j, j < c → ∀ i, i < n → i ≠ j → gm A i j = 0
 dg : ∀ j, j < c → gm A j j ≠ 0
theorem GJ.next {M A : List (List Qi)} {n m c p : Nat} (h : GJ M A n m c) (hc : c < n) (hnm : n ≤ m) (hcp : c ≤ p) (hp : p < n) (hz : gm A p c ≠ 0) : GJ M (redJ (swp [] A p c) c n) n m (c + 1) := by
 have hs : Shp (swp [] A p c) n m := swp_shp h.sh hp hc
 have hl := h.sh.1
 have key : ∀ i, gm (swp [] A p c) i = gm A (if i = c then p else if i = p then c else i) := fun i => by
  funext j; exact congrArg (fun r => gv r j) (swp_rw (by omega) (by omega))
 have hcc : gm (swp [] A p c) c c ≠ 0 := by rw [key, if_pos rfl]; exact hz
 have hoff : ∀ j, j < c → ∀ i, i < n → i ≠ j → gm (swp [] A p c) i j = 0 := fun j hj i hi hij => by
  rw [key]
  by_cases e1 : i = c
  ·rw [if_pos e1]; exact h.off j hj p hp (by omega)
  ·rw [if_neg e1]
   by_cases e2 : i = p
   ·rw [if_pos e2]; exact h.off j hj c hc (by omega)
   ·rw [if_neg e2]; exact h.off j hj i hi hij
 refine ⟨redJ_shp hs, fun x => (ker_red hs hc (fun j hj => hoff j hj c hc (by omega))).trans ((ker_swp hl hp hc).trans (h.ker x)), fun j hj i hi hij => ?_, fun j hj => ?_⟩
 ·rw [redJ_gm hs hi (by omega)]
  by_cases e : j = c
  ·subst e
   rw [if_pos ⟨hij, Nat.le_refl _⟩]
   have := div_eq (x := gm (swp [] A p j) i j) hcc
   grind
  ·rw [if_neg (fun k => by omega)]; exact hoff j (by omega) i hi hij
 ·rw [redJ_gm hs (by omega) (by omega)]
  by_cases e : j = c
  ·subst e; rw [if_neg (fun k => k.1 rfl)]; exact hcc
  ·rw [if_neg (fun k => by omega), key, if_neg (by omega), if_neg (by omega)]; exact h.dg j (by omega)
end
section
open Go Go.RowKit
def sidR (a b : List (List Qi)) (x y i : Nat) : List Qi := tab (x + y) fun j => if i < x then (if j < x then gm a i j else Qi.zero) else (if x ≤ j then gm b (i - x) (j - x) else Qi.zero)
def sidM (a b : List (List Qi)) (x y : Nat) : List (List Qi) := tab (x + y) (sidR a b x y)
theorem sidM_shp (a b : List (List Qi)) (x y : Nat) : Shp (sidM a b x y) (x + y) (x + y) := ⟨tab_len _ _, fun r hr => by obtain ⟨i, _, rfl⟩ := tab_mem.1 hr; exact tab_len _ _⟩
theorem sidM_fit {a b : List (List Qi)} {x y L : Nat} (ha : FitM a L) (hb : FitM b L) (hL : 1 ≤ L) : FitM (sidM a b x y) L := fun r hr => by
 obtain ⟨i, _, rfl⟩ := tab_mem.1 hr
 refine FitL.tab fun j _ => ?_
 split
 ·split
  ·exact ha.get hL _ _
  ·exact FitC.zero hL
 ·split
  ·exact hb.get hL _ _
  ·exact FitC.zero hL
theorem sidM_gm {a b : List (List Qi)} {x y i j : Nat} (hi : i < x + y) (hj : j < x + y) : gm (sidM a b x y) i j = if i < x then (if j < x then gm a i j else Qi.zero) else (if x ≤ j then gm b (i - x) (j - x) else Qi.zero) := by
 have e : (sidM a b x y).getD i [] = sidR a b x y i := by rw [sidM, List.getD, tab_get hi]; rfl
 show gv ((sidM a b x y).getD i []) j = _
 rw [e, sidR, gv_tab hj]
end
section
open Go Go.RowKit
abbrev pA (ps : List (Nat × Nat)) (k : Nat) : Nat := (ps.getD k (0, 0)).1
abbrev pB (ps : List (Nat × Nat)) (k : Nat) : Nat := (ps.getD k (0, 0)).2
end
section
open Go Go.RowKit
def clr (A : List (List Qi)) (c i j : Nat) : Qi := if j < c ∧ j < i then 0 else gm A i j
def KerF (F : Nat → Nat → Qi) (n m : Nat) (x : Nat → Qi) : Prop := ∀ i, i < n → sumN m (fun k => F i k * x k) = 0
theorem kerF_congr {F G : Nat → Nat → Qi} {n m : Nat} {x : Nat → Qi} (h : ∀ i, i < n → ∀ j, j < m → F i j = G i j) : KerF F n m x ↔ KerF G n m x := by
 have e : ∀ i, i < n → sumN m (fun k => F i k * x k) = sumN m (fun k => G i k * x k) := fun i hi => sumN_congr fun k hk => by rw [h i hi k hk]
 exact ⟨fun k i hi => by rw [← e i hi]; exact k i hi, fun k i hi => by rw [e i hi]; exact k i hi⟩
def tau (p c i : Nat) : Nat := if i = c then p else if i = p then c else i
theorem tau_lt {p c i n : Nat} (hp : p < n) (hc : c < n) (hi : i < n) : tau p c i < n := by unfold tau; split <;> (try split) <;> omega
theorem tau_tau (p c i : Nat) : tau p c (tau p c i) = i := by
 unfold tau
 by_cases e1 : i = c
 ·subst e1
  rw [if_pos rfl]
  by_cases e2 : p = i
  ·rw [if_pos e2]; exact e2
  ·rw [if_neg e2, if_pos rfl]
 ·rw [if_neg e1]
  by_cases e2 : i = p
  ·subst e2; rw [if_pos rfl, if_pos rfl]
  ·rw [if_neg e2, if_neg e1, if_neg e2]
theorem kerF_tau {F : Nat → Nat → Qi} {n m p c : Nat} {x : Nat → Qi} (hp : p < n) (hc : c < n) : KerF (fun i => F (tau p c i)) n m x ↔ KerF F n m x :=
 ⟨fun h i hi => by have := h _ (tau_lt hp hc hi); simp only [tau_tau] at this; exact this, fun h i hi => h _ (tau_lt hp hc hi)⟩
theorem kerF_red {F G : Nat → Nat → Qi} {n m c : Nat} {x f : Nat → Qi} (hc : c < n) (hG : ∀ i, i < n → ∀ j, j < m → G i j = if c < i then F i j - f i * F c j else F i j) : KerF G n m x ↔ KerF F n m x := by
 have key : ∀ i, i < n → sumN m (fun k => G i k * x k) = if c < i then sumN m (fun k => F i k * x k) - f i * sumN m (fun k => F c k * x k) else sumN m (fun k => F i k * x k) := fun i hi => by
  by_cases e : c < i
  ·rw [if_pos e, ← sumN_sub]
   exact sumN_congr fun k hk => by rw [hG i hi k hk, if_pos e]; grind
  ·rw [if_neg e]
   exact sumN_congr fun k hk => by rw [hG i hi k hk, if_neg e]
 have kc := key c hc
 rw [if_neg (by omega)] at kc
 constructor
 ·intro h i hi
  have h0 := h c hc
  rw [kc] at h0
  have h1 := h i hi
  rw [key i hi] at h1
  by_cases e : c < i
  ·rw [if_pos e, h0] at h1; grind
  ·rw [if_neg e] at h1; exact h1
 ·intro h i hi
  rw [key i hi]
  by_cases e : c < i
  ·rw [if_pos e, h i hi, h c hc]; grind
  ·rw [if_neg e]; exact h i hi
theorem redM_gm {M : List (List Qi)} {n m c i j : Nat} (h : Shp M n m) (hi : i < n) (hj : j < m) : gm (redM M c n) i j = if c < i ∧ c < j then gm M i j - gm M i c / gm M c c * gm M c j else gm M i j := by
 have hr : (rw' M i).length = m := h.row hi
 have e0 : rw' (redM M c n) i = if c < i ∧ i < n then redR (rw' M i) (rw' M c) c (rw' M i).length else rw' M i := by
  simp only [rw', redM, List.getD]; rw [tab_get (by rw [h.1]; exact hi)]; rfl
 show gv (rw' (redM M c n) i) j = _
 rw [e0]
 by_cases e : c < i
 ·rw [if_pos ⟨e, hi⟩, redR, gv_tab (by omega)]
  by_cases e2 : c < j
  ·rw [if_pos ⟨e2, by omega⟩, if_pos ⟨e, e2⟩]
  ·rw [if_neg (fun k => e2 k.1), if_neg (fun k => e2 k.2)]
 ·rw [if_neg (fun k => e k.1), if_neg (fun k => e k.1)]
theorem clr_swp {A : List (List Qi)} {p c i j : Nat} (hc : c < A.length) (hp : p < A.length) (hcp : c ≤ p) : clr (swp [] A p c) c i j = clr A c (tau p c i) j := by
 have key : gm (swp [] A p c) i j = gm A (tau p c i) j := congrArg (fun r => gv r j) (swp_rw (by omega) (by omega))
 unfold clr
 rw [key]
 have e : (j < c ∧ j < i) ↔ (j < c ∧ j < tau p c i) := by unfold tau; split <;> (try split) <;> omega
 by_cases h : j < c ∧ j < i
 ·rw [if_pos h, if_pos (e.1 h)]
 ·rw [if_neg h, if_neg (fun k => h (e.2 k))]
structure EL (M A : List (List Qi)) (n m c : Nat) : Prop where
 sh : Shp A n m
 ker : ∀ x, KerF (clr A c) n m x ↔ KerF (gm M) n m x
theorem EL.next {M A : List (List Qi)} {n m c p : Nat} (h : EL M A n m c) (hc : c < n) (hcm : c < m) (hcp : c ≤ p) (hp : p < n) (hz : gm A p c ≠ 0) : EL M (redM (if p = c then A else swp [] A p c) c n) n m (c + 1) := by
 have hl := h.sh.1
 obtain ⟨B, hB⟩ : ∃ B, B = if p = c then A else swp [] A p c := ⟨_, rfl⟩
 have hs : Shp B n m := by
  rw [hB]; split
  ·exact h.sh
  ·exact swp_shp h.sh hp hc
 have hBk : ∀ x, KerF (clr B c) n m x ↔ KerF (gm M) n m x := fun x => by
  rw [hB]; split
  ·exact h.ker x
  ·exact (kerF_congr (G := fun i => clr A c (tau p c i)) fun i hi j hj => clr_swp (by omega) (by omega) hcp).trans ((kerF_tau hp hc).trans (h.ker x))
 have hBz : gm B c c ≠ 0 := by
  rw [hB]; split
  ·rename_i e; rw [← e] at hz ⊢; exact hz
  ·show gv (rw' (swp [] A p c) c) c ≠ 0
   rw [swp_at (by omega)]; exact hz
 rw [← hB]
 refine ⟨redM_shp hs, fun x => (kerF_red (f := fun i => gm B i c / gm B c c) hc fun i hi j hj => ?_).trans (hBk x)⟩
 have hd := div_eq (x := gm B i c) hBz
 unfold clr
 rw [redM_gm hs hi hj]
 by_cases e : c < i
 ·rw [if_pos e]
  by_cases e1 : j < c
  ·rw [if_pos (by omega), if_pos (by omega), if_pos (by omega)]; grind
  ·by_cases e2 : j = c
   ·subst e2
    rw [if_pos (by omega), if_neg (by omega), if_neg (by omega)]; grind
   ·rw [if_neg (by omega), if_pos (by omega), if_neg (by omega), if_neg (by omega)]
 ·rw [if_neg e, if_neg (show ¬ (c < i ∧ c < j) from fun k => e k.1)]
  by_cases e1 : j < i
  ·rw [if_pos (show j < c + 1 ∧ j < i by omega), if_pos (show j < c ∧ j < i by omega)]
  ·rw [if_neg (show ¬ (j < c + 1 ∧ j < i) by omega), if_neg (show ¬ (j < c ∧ j < i) by omega)]
end
section
open Go Go.RowKit
def gq (ps : List (Nat × Nat)) (x : Nat) : Nat := if x % 2 = 0 then pA ps (x / 2) else pB ps (x / 2)
structure Jn (ps : List (Nat × Nat)) (n K : Nat) : Prop where
 lt : ∀ x, x < 2 * K → gq ps x < n
 inj : ∀ x y, x < 2 * K → y < 2 * K → gq ps x = gq ps y → x = y
theorem Jn.le {ps : List (Nat × Nat)} {n K k : Nat} (h : Jn ps n K) (hk : k ≤ K) : Jn ps n k := ⟨fun x hx => h.lt x (by omega), fun x y hx hy => h.inj x y (by omega) (by omega)⟩
end
section
open Go Go.RowKit
def stkE (x y : Nat) : Int := if 8 < x + y then 4 else 0
def stkZ (z zb : List Qi) : List Qi := okL (stkE z.length zb.length) (z ++ zb)
def stkS (z zb : List Qi) (a b : List (List Qi)) : List (List Qi) := okL (stkE z.length zb.length) (sidM a b z.length zb.length)
theorem stk_bad {x y : Nat} (h : 8 < x + y) : stkE x y = 4 := if_pos h
theorem stk_ok {x y : Nat} (h : ¬ 8 < x + y) : stkE x y = 0 := if_neg h
theorem stk_shp (z zb : List Qi) (a b : List (List Qi)) : Shp (stkS z zb a b) (stkZ z zb).length (stkZ z zb).length ∧ (stkZ z zb).length ≤ z.length + zb.length := by
 by_cases h : stkE z.length zb.length = 0
 ·rw [stkS, stkZ, okL, okL, h, if_pos rfl, if_pos rfl, List.length_append]; exact ⟨sidM_shp _ _ _ _, Nat.le_refl _⟩
 ·rw [stkS, stkZ, okL, okL, if_neg h, if_neg h]; exact ⟨⟨rfl, fun r hr => by cases hr⟩, Nat.zero_le _⟩
theorem stk_fitS {z zb : List Qi} {a b : List (List Qi)} {L : Nat} (ha : FitM a L) (hb : FitM b L) (hL : 1 ≤ L) : FitM (stkS z zb a b) L := okL_fitM (sidM_fit ha hb hL)
theorem fitL_app {z zb : List Qi} {L : Nat} (hz : FitL z L) (hb : FitL zb L) : FitL (z ++ zb) L := fun x hx => (List.mem_append.1 hx).elim (hz x) (hb x)
theorem stk_fitZ {z zb : List Qi} {L : Nat} (hz : FitL z L) (hb : FitL zb L) : FitL (stkZ z zb) L := okL_fit (fitL_app hz hb)
def freshE (n : Nat) (p : Int) (o : List Int) : Int := if ¬ (1 ≤ p ∧ p ≤ n) then 1 else if (o.any fun x => decide (p = x)) = true then 8 else 0
def prtE (n : Nat) (l : List Int) : Int := firstE (fun i => freshE n (l.getD i 0) (l.take i)) l.length
def posL (l : List Int) : List Nat := l.map fun p => (p - 1).toNat
theorem posL_len (l : List Int) : (posL l).length = l.length := by rw [posL, List.length_map]
theorem fresh_ok {n : Nat} {p : Int} {o : List Int} (h : freshE n p o = 0) : 1 ≤ p ∧ p ≤ n := by
 unfold freshE at h
 split at h
 ·omega
 ·rename_i c; exact Decidable.not_not.1 c
theorem prt_in {n : Nat} {l : List Int} (h : prtE n l = 0) : ∀ x, x ∈ l → 1 ≤ x ∧ x ≤ n := fun x hx => by
 obtain ⟨i, hi, e⟩ := List.getElem_of_mem hx
 have := fresh_ok (firstE_zero h i hi)
 rw [show l.getD i 0 = x by rw [List.getD, List.getElem?_eq_getElem hi, e]; rfl] at this
 exact this
theorem pos_lt {n : Nat} {l : List Int} (h : prtE n l = 0) : ∀ x, x ∈ posL l → x < n := fun x hx => by
 obtain ⟨p, hp, rfl⟩ := List.mem_map.1 hx
 have := prt_in h p hp; omega
theorem pos_ints {n : Nat} {l : List Int} (h : prtE n l = 0) : l.map (IntT .i64) = ((posL l).map Nat.succ).map (NT .i64) := by
 rw [posL, List.map_map, List.map_map]
 refine List.map_congr_left fun p hp => ?_
 have := prt_in h p hp
 show IntT .i64 p = IntT .i64 (((p - 1).toNat + 1 : Nat) : Int)
 congr 1; omega
def rnmE (n : Nat) (l : List Int) : Int := if l.length ≠ n then 4 else prtE n l
def rnmZ (z : List Qi) (l : List Int) : List Qi := okL (rnmE z.length l) (subZ z (posL l))
def rnmS (z : List Qi) (s : List (List Qi)) (l : List Int) : List (List Qi) := okL (rnmE z.length l) (subM s (posL l))
theorem rnm_size {n : Nat} {l : List Int} (h : l.length ≠ n) : rnmE n l = 4 := if_pos h
theorem rnm_ok {n : Nat} {l : List Int} (h : l.length = n) : rnmE n l = prtE n l := if_neg (fun k => k h)
theorem subZ_len (z : List Qi) (Q : List Nat) : (subZ z Q).length = Q.length := tab_len _ _
theorem subM_shp (s : List (List Qi)) (Q : List Nat) : Shp (subM s Q) Q.length Q.length := Shp.tab
end
section
open Go Go.RowKit
theorem mat_ext {a b : List (List Qi)} {n m : Nat} (ha : Shp a n m) (hb : Shp b n m) (h : ∀ i, i < n → ∀ j, j < m → gm a i j = gm b i j) : a = b := by
 rw [mat_tab ha, mat_tab hb]
 exact tab_congr fun i hi => tab_congr fun j hj => h i hi j hj
end
section
open Go Go.RowKit
theorem pig : ∀ {n m : Nat} {f : Nat → Nat}, (∀ x, x < m → f x < n) → (∀ x y, x < m → y < m → f x = f y → x = y) → m ≤ n
 | 0, m, f, h, _ => by
  cases m with
  | zero => exact Nat.le_refl 0
  | succ m => exact absurd (h 0 (by omega)) (by omega)
 | n + 1, 0, _, _, _ => by omega
 | n + 1, k + 1, f, h, i => by
  have := pig (n := n) (m := k) (f := fun x => if f x = n then f k else f x) (fun x hx => by
   have h1 := h x (by omega)
   have h2 := h k (by omega)
   by_cases c : f x = n
   ·simp only [if_pos c]
    have : f k ≠ n := fun e => by have := i x k (by omega) (by omega) (by rw [c, e]); omega
    omega
   ·simp only [if_neg c]; omega) (fun x y hx hy e => by
   by_cases c : f x = n <;> by_cases d : f y = n
   ·exact i x y (by omega) (by omega) (by rw [c, d])
   ·simp only [if_pos c, if_neg d] at e
    have := i k y (by omega) (by omega) e; omega
   ·simp only [if_neg c, if_pos d] at e
    have := i x k (by omega) (by omega) e; omega
   ·simp only [if_neg c, if_neg d] at e
    exact i x y (by omega) (by omega) e)
  omega
end
section
open Go Go.RowKit
theorem sid_assoc {a b c : List (List Qi)} {x y w : Nat} : sidM (sidM a b x y) c (x + y) w = sidM a (sidM b c y w) x (y + w) := by
 refine mat_ext (n := x + y + w) (m := x + y + w) (sidM_shp _ _ _ _) (by rw [Nat.add_assoc]; exact sidM_shp _ _ _ _) fun i hi j hj => ?_
 rw [sidM_gm hi hj, sidM_gm (x := x) (y := y + w) (by omega) (by omega)]
 by_cases i1 : i < x
 ·rw [if_pos (by omega), if_pos i1]
  by_cases j1 : j < x
  ·rw [if_pos (by omega), if_pos j1, sidM_gm (by omega) (by omega), if_pos i1, if_pos j1]
  ·rw [if_neg j1]
   by_cases j2 : j < x + y
   ·rw [if_pos j2, sidM_gm (by omega) j2, if_pos i1, if_neg j1]
   ·rw [if_neg j2]
 ·rw [if_neg i1]
  by_cases i2 : i < x + y
  ·rw [if_pos i2]
   by_cases j2 : j < x + y
   ·rw [if_pos j2, sidM_gm i2 j2, if_neg i1]
    by_cases j1 : x ≤ j
    ·rw [if_pos j1, if_pos j1, sidM_gm (by omega) (by omega), if_pos (by omega), if_pos (by omega)]
    ·rw [if_neg j1, if_neg j1]
   ·rw [if_neg j2, if_pos (by omega), sidM_gm (by omega) (by omega), if_pos (by omega), if_neg (by omega)]
  ·rw [if_neg i2]
   by_cases j2 : x + y ≤ j
   ·rw [if_pos j2, if_pos (by omega), sidM_gm (by omega) (by omega), if_neg (by omega), if_pos (by omega), show i - x - y = i - (x + y) by omega, show j - x - y = j - (x + y) by omega]
   ·rw [if_neg j2]
    by_cases j1 : x ≤ j
    ·rw [if_pos j1, sidM_gm (by omega) (by omega), if_neg (by omega), if_neg (by omega)]
    ·rw [if_neg j1]
def fRest (n : Nat) (l : Nat → Nat) : Nat → List Nat
 | 0 => tab n fun i => i + 1
 | i + 1 => (fRest n l i).take (l i % (fRest n l i).length) ++ (fRest n l i).drop (l i % (fRest n l i).length + 1)
abbrev fIdx (n : Nat) (l : Nat → Nat) (i : Nat) : Nat := l i % (fRest n l i).length
def fOut (n : Nat) (l : Nat → Nat) (i : Nat) : Nat := (fRest n l i).getD (fIdx n l i) 0
theorem fRest_er (n : Nat) (l : Nat → Nat) (i : Nat) : fRest n l (i + 1) = (fRest n l i).eraseIdx (fIdx n l i) := by
 rw [fRest, List.eraseIdx_eq_take_drop_succ]
theorem fRest_len {n : Nat} {l : Nat → Nat} : ∀ i, i ≤ n → (fRest n l i).length = n - i
 | 0, _ => tab_len _ _
 | i + 1, h => by
  have ih := fRest_len (n := n) (l := l) i (by omega)
  have hk := Nat.mod_lt (l i) (show 0 < (fRest n l i).length by omega)
  rw [fRest_er, List.length_eraseIdx_of_lt hk, ih]; omega
theorem fIdx_lt {n : Nat} {l : Nat → Nat} {i : Nat} (h : i < n) : fIdx n l i < (fRest n l i).length := Nat.mod_lt _ (by rw [fRest_len i (by omega)]; omega)
theorem nd_of {L : List Nat} (h : ∀ i j, i < j → j < L.length → L.getD i 0 ≠ L.getD j 0) : L.Nodup := List.pairwise_iff_getElem.2 fun i j hi hj hij e => h i j hij hj (by
 rw [show L.getD i 0 = L[i] by simp [List.getD, hi], show L.getD j 0 = L[j] by simp [List.getD, hj]]; exact e)
theorem fRest_nd {n : Nat} {l : Nat → Nat} : ∀ i, (fRest n l i).Nodup
 | 0 => by
  refine nd_of fun i j hij hj => ?_
  have hj2 : j < n := by rw [fRest, tab_len] at hj; exact hj
  rw [fRest, tab_getD (by omega), tab_getD hj2]; omega
 | i + 1 => by rw [fRest_er]; exact (fRest_nd i).eraseIdx _
theorem fOut_get {n : Nat} {l : Nat → Nat} {i : Nat} (h : i < n) : (fRest n l i)[fIdx n l i]? = some (fOut n l i) := by
 simp [fOut, List.getD, fIdx_lt h]
theorem fOut_mem {n : Nat} {l : Nat → Nat} {i : Nat} (h : i < n) : fOut n l i ∈ fRest n l i := List.mem_of_getElem? (fOut_get h)
theorem fRest_mem {n : Nat} {l : Nat → Nat} {i x : Nat} (h : i < n) (hx : x ∈ fRest n l (i + 1)) : x ∈ fRest n l i ∧ x ≠ fOut n l i := by
 rw [fRest_er, List.mem_eraseIdx_iff_getElem?] at hx
 obtain ⟨j, hj, e⟩ := hx
 refine ⟨List.mem_of_getElem? e, fun k => hj ?_⟩
 rw [k] at e
 have hl := fIdx_lt (l := l) h
 have hjl := (List.getElem?_eq_some_iff.1 e).1
 have h2 := fOut_get (l := l) h
 rw [List.getElem?_eq_getElem hjl] at e
 rw [List.getElem?_eq_getElem hl] at h2
 exact (List.getElem_inj (fRest_nd i)).1 ((Option.some.inj e).trans (Option.some.inj h2).symm)
theorem fRest_sub {n : Nat} {l : Nat → Nat} {i x : Nat} : ∀ {j : Nat}, i ≤ j → j ≤ n → x ∈ fRest n l j → x ∈ fRest n l i
 | 0, h, _, hx => by obtain rfl := Nat.le_zero.1 h; exact hx
 | j + 1, h, hn, hx => by
  by_cases e : i = j + 1
  ·rw [e]; exact hx
  ·exact fRest_sub (j := j) (by omega) (by omega) (fRest_mem (by omega) hx).1
theorem fOut_in {n : Nat} {l : Nat → Nat} {i : Nat} (h : i < n) : 1 ≤ fOut n l i ∧ fOut n l i ≤ n := by
 have := fRest_sub (Nat.zero_le i) (by omega) (fOut_mem (l := l) h)
 obtain ⟨j, hj, e⟩ := tab_mem.1 (show fOut n l i ∈ tab n fun i => i + 1 from this)
 omega
theorem fOut_ne {n : Nat} {l : Nat → Nat} {i j : Nat} (hij : i < j) (hj : j < n) : fOut n l j ≠ fOut n l i := fun e => by
 have := fRest_sub (show i + 1 ≤ j by omega) (by omega) (fOut_mem (l := l) hj)
 exact (fRest_mem (by omega) this).2 e
def fFour (n : Nat) (l : Nat → Nat) : List Nat := tab 4 (fOut n l)
def ordL (n : Nat) (l : Nat → Nat) : Nat → List Nat
 | 0 => fFour n l
 | m + 1 => ordL n l m ++ (if m + 1 ∈ fFour n l then [] else [m + 1])
theorem ord_mem {n : Nat} {l : Nat → Nat} {x : Nat} : ∀ m, x ∈ ordL n l m ↔ x ∈ fFour n l ∨ (1 ≤ x ∧ x ≤ m)
 | 0 => ⟨.inl, fun h => h.elim id fun k => absurd k (by omega)⟩
 | m + 1 => by
  rw [ordL, List.mem_append, ord_mem m]
  by_cases c : m + 1 ∈ fFour n l
  ·rw [if_pos c]
   constructor
   ·rintro (h | h)
    ·exact h.imp id fun k => ⟨k.1, by omega⟩
    ·cases h
   ·rintro (h | h)
    ·exact .inl (.inl h)
    ·by_cases e : x = m + 1
     ·rw [e]; exact .inl (.inl c)
     ·exact .inl (.inr ⟨h.1, by omega⟩)
  ·rw [if_neg c, List.mem_singleton]
   constructor
   ·rintro (h | h)
    ·exact h.imp id fun k => ⟨k.1, by omega⟩
    ·exact .inr ⟨by omega, by omega⟩
   ·rintro (h | h)
    ·exact .inl (.inl h)
    ·by_cases e : x = m + 1
     ·exact .inr e
     ·exact .inl (.inr ⟨h.1, by omega⟩)
theorem four_nd {n : Nat} {l : Nat → Nat} (hn : 4 ≤ n) : (fFour n l).Nodup := by
 refine nd_of fun i j hij hj => ?_
 have hj2 : j < 4 := by rw [fFour, tab_len] at hj; exact hj
 rw [fFour, tab_getD (by omega), tab_getD hj2]
 exact (fOut_ne hij (by omega)).symm
theorem ord_nd {n : Nat} {l : Nat → Nat} (hn : 4 ≤ n) : ∀ m, (ordL n l m).Nodup
 | 0 => four_nd hn
 | m + 1 => by
  rw [ordL, List.nodup_append]
  refine ⟨ord_nd hn m, by split <;> simp, fun a ha b hb => ?_⟩
  split at hb
  ·cases hb
  ·rename_i c
   rw [List.mem_singleton.1 hb]
   intro e
   rw [e, ord_mem m] at ha
   rcases ha with h | h
   ·exact c h
   ·omega
theorem four_in {n : Nat} {l : Nat → Nat} (hn : 4 ≤ n) {x : Nat} (h : x ∈ fFour n l) : 1 ≤ x ∧ x ≤ n := by
 obtain ⟨i, hi, rfl⟩ := tab_mem.1 h; exact fOut_in (by omega)
theorem ord_all {n : Nat} {l : Nat → Nat} (hn : 4 ≤ n) {x : Nat} : x ∈ ordL n l n ↔ 1 ≤ x ∧ x ≤ n := by
 rw [ord_mem]
 exact ⟨fun h => h.elim (four_in hn) id, .inr⟩
structure Perm1 (O : List Nat) (n : Nat) : Prop where
 nd : O.Nodup
 all : ∀ x, x ∈ O ↔ 1 ≤ x ∧ x ≤ n
theorem Perm1.len {O : List Nat} {n : Nat} (h : Perm1 O n) : O.length = n := by
 refine Nat.le_antisymm ?_ ?_
 ·refine pig (n := n) (f := fun i => O.getD i 0 - 1) (fun x hx => ?_) (fun x y hx hy e => ?_)
  ·have := (h.all (O.getD x 0)).1 (by rw [show O.getD x 0 = O[x] by simp [List.getD, hx]]; exact List.getElem_mem hx)
   show O.getD x 0 - 1 < n; omega
  ·have a := (h.all (O.getD x 0)).1 (by rw [show O.getD x 0 = O[x] by simp [List.getD, hx]]; exact List.getElem_mem hx)
   have b := (h.all (O.getD y 0)).1 (by rw [show O.getD y 0 = O[y] by simp [List.getD, hy]]; exact List.getElem_mem hy)
   have e2 : O.getD x 0 = O.getD y 0 := by have : O.getD x 0 - 1 = O.getD y 0 - 1 := e; omega
   rw [show O.getD x 0 = O[x] by simp [List.getD, hx], show O.getD y 0 = O[y] by simp [List.getD, hy]] at e2
   exact (List.getElem_inj h.nd).1 e2
 ·have key : ∀ j, j < n → ∃ i, i < O.length ∧ O.getD i 0 = j + 1 := fun j hj => by
   obtain ⟨i, hi, e⟩ := List.getElem_of_mem ((h.all (j + 1)).2 ⟨by omega, by omega⟩)
   exact ⟨i, hi, by simp [List.getD, hi, e]⟩
  refine pig (n := O.length) (f := fun j => if hj : j < n then Classical.choose (key j hj) else 0) (fun x hx => by simp only [dif_pos hx]; exact (Classical.choose_spec (key x hx)).1) (fun x y hx hy e => ?_)
  simp only [dif_pos hx, dif_pos hy] at e
  have a := (Classical.choose_spec (key x hx)).2
  have b := (Classical.choose_spec (key y hy)).2
  rw [e] at a; omega
theorem ord_perm {n : Nat} {l : Nat → Nat} (hn : 4 ≤ n) : Perm1 (ordL n l n) n := ⟨ord_nd hn n, fun _ => ord_all hn⟩
section
variable {O : List Nat} {n : Nat}
theorem Perm1.at (h : Perm1 O n) {i : Nat} (hi : i < n) : 1 ≤ O.getD i 0 ∧ O.getD i 0 ≤ n := by
 have hl := h.len
 exact (h.all _).1 (by rw [show O.getD i 0 = O[i] by simp [List.getD, show i < O.length by omega]]; exact List.getElem_mem _)
theorem Perm1.inj (h : Perm1 O n) {i j : Nat} (hi : i < n) (hj : j < n) (e : O.getD i 0 = O.getD j 0) : i = j := by
 have hl := h.len
 rw [show O.getD i 0 = O[i] by simp [List.getD, show i < O.length by omega], show O.getD j 0 = O[j] by simp [List.getD, show j < O.length by omega]] at e
 exact (List.getElem_inj h.nd).1 e
theorem Perm1.find (h : Perm1 O n) {j : Nat} (hj : j < n) : ∃ i, i < n ∧ O.getD i 0 = j + 1 := by
 have hl := h.len
 obtain ⟨i, hi, e⟩ := List.getElem_of_mem ((h.all (j + 1)).2 ⟨by omega, by omega⟩)
 exact ⟨i, by omega, by simp [List.getD, hi, e]⟩
theorem perm_prt (h : Perm1 O n) : prtE n (O.map fun (q : Nat) => (q : Int)) = 0 := firstE_none fun i hi => by
 have hl := h.len
 rw [List.length_map] at hi
 have e : (O.map fun (q : Nat) => (q : Int)).getD i 0 = ((O.getD i 0 : Nat) : Int) := by simp [List.getD, hi]
 have hr := h.at (i := i) (by omega)
 show freshE n _ _ = 0
 rw [e, freshE, if_neg (fun k => k (by omega)), if_neg]
 intro k
 obtain ⟨x, hx, e2⟩ := List.any_eq_true.1 k
 rw [← List.map_take] at hx
 obtain ⟨y, hy, rfl⟩ := List.mem_map.1 hx
 obtain ⟨j, hj, e3⟩ := List.mem_take_iff_getElem.1 hy
 have e4 : O.getD i 0 = y := by have := of_decide_eq_true e2; omega
 have := h.inj (i := i) (j := j) (by omega) (by omega) (by rw [e4, ← e3]; simp [List.getD, show j < O.length by omega])
 omega
theorem perm_pos (h : Perm1 O n) {i : Nat} (hi : i < n) : qat (posL (O.map fun (q : Nat) => (q : Int))) i = O.getD i 0 - 1 := by
 have hl := h.len
 have hr := h.at hi
 simp only [qat, posL, List.map_map, List.getD, List.getElem?_map, List.getElem?_eq_getElem (show i < O.length by omega), Option.map_some, Option.getD_some, Function.comp] at hr ⊢
 omega
def bkL (O : List Nat) (n : Nat) : Nat → List Nat
 | 0 => tab n fun _ => 0
 | k + 1 => (bkL O n k).set (O.getD k 0 - 1) (k + 1)
theorem bkL_len (O : List Nat) (n : Nat) : ∀ k, (bkL O n k).length = n
 | 0 => tab_len _ _
 | k + 1 => by rw [bkL, List.length_set, bkL_len O n k]
theorem bkL_at (h : Perm1 O n) {i : Nat} : ∀ k, k ≤ n → i < k → (bkL O n k).getD (O.getD i 0 - 1) 0 = i + 1
 | k + 1, hk, hi => by
  have hl := bkL_len O n k
  have ha := h.at (i := k) (by omega)
  have hb := h.at (i := i) (by omega)
  rw [bkL]
  by_cases e : i = k
  ·subst e
   rw [List.getD_eq_getElem?_getD, List.getElem?_set_self (by omega)]; rfl
  ·have hne : O.getD k 0 - 1 ≠ O.getD i 0 - 1 := fun c => e (h.inj (by omega) (by omega) (by omega))
   have ih := bkL_at h (i := i) k (by omega) (by omega)
   rw [List.getD_eq_getElem?_getD, List.getElem?_set_ne hne, ← List.getD_eq_getElem?_getD]; exact ih
theorem back_perm (h : Perm1 O n) : Perm1 (bkL O n n) n := by
 have hl := bkL_len O n n
 have key : ∀ j, j < n → ∃ i, i < n ∧ O.getD i 0 = j + 1 ∧ (bkL O n n).getD j 0 = i + 1 := fun j hj => by
  obtain ⟨i, hi, e⟩ := h.find hj
  have := bkL_at h (i := i) n (Nat.le_refl n) hi
  rw [e, show j + 1 - 1 = j by omega] at this
  exact ⟨i, hi, e, this⟩
 refine ⟨?_, fun x => ⟨fun hx => ?_, fun hx => ?_⟩⟩
 ·refine nd_of fun i j hij hj e => ?_
  obtain ⟨a, ha, e1, e2⟩ := key i (by omega)
  obtain ⟨b, hb, e3, e4⟩ := key j (by omega)
  have hab : a = b := by omega
  rw [hab] at e1; omega
 ·obtain ⟨j, hj, e⟩ := List.getElem_of_mem hx
  obtain ⟨a, ha, _, e2⟩ := key j (by omega)
  rw [show (bkL O n n).getD j 0 = x by simp [List.getD, hj, e]] at e2
  omega
 ·have ha := h.at (i := x - 1) (by omega)
  have := bkL_at h (i := x - 1) n (Nat.le_refl n) (by omega)
  have hj : O.getD (x - 1) 0 - 1 < (bkL O n n).length := by omega
  rw [show (bkL O n n).getD (O.getD (x - 1) 0 - 1) 0 = (bkL O n n)[O.getD (x - 1) 0 - 1] by rw [List.getD_eq_getElem?_getD, List.getElem?_eq_getElem hj]; rfl] at this
  rw [show x = x - 1 + 1 by omega, ← this]; exact List.getElem_mem hj
theorem back_at (h : Perm1 O n) {j : Nat} (hj : j < n) : qat (posL (O.map fun (q : Nat) => (q : Int))) (qat (posL ((bkL O n n).map fun (q : Nat) => (q : Int))) j) = j := by
 have hb := back_perm h
 obtain ⟨i, hi, e⟩ := h.find hj
 have := bkL_at h (i := i) n (Nat.le_refl n) hi
 rw [e, show j + 1 - 1 = j by omega] at this
 rw [perm_pos hb hj, this, show i + 1 - 1 = i by omega, perm_pos h hi, e]; omega
theorem back_z (h : Perm1 O n) {z : List Qi} (hz : z.length = n) : subZ (subZ z (posL (O.map fun (q : Nat) => (q : Int)))) (posL ((bkL O n n).map fun (q : Nat) => (q : Int))) = z := by
 have hl := h.len; have hb := back_perm h; have hbl := hb.len
 have l1 : (posL (O.map fun (q : Nat) => (q : Int))).length = n := by rw [posL_len, List.length_map, hl]
 have l2 : (posL ((bkL O n n).map fun (q : Nat) => (q : Int))).length = n := by rw [posL_len, List.length_map, hbl]
 rw [subZ, l2]
 apply List.ext_getElem?
 intro j
 by_cases hj : j < n
 ·have hq := hb.at hj
  rw [tab_get hj, subZ, l1, gv_tab (by rw [perm_pos hb hj]; omega), back_at h hj]
  simp [gv, List.getD, show j < z.length by omega]
 ·rw [List.getElem?_eq_none (by rw [tab_len]; omega), List.getElem?_eq_none (by omega)]
theorem back_s (h : Perm1 O n) {s : List (List Qi)} (hs : Shp s n n) : subM (subM s (posL (O.map fun (q : Nat) => (q : Int)))) (posL ((bkL O n n).map fun (q : Nat) => (q : Int))) = s := by
 have hl := h.len; have hb := back_perm h; have hbl := hb.len
 have l1 : (posL (O.map fun (q : Nat) => (q : Int))).length = n := by rw [posL_len, List.length_map, hl]
 have l2 : (posL ((bkL O n n).map fun (q : Nat) => (q : Int))).length = n := by rw [posL_len, List.length_map, hbl]
 refine mat_ext (by have := subM_shp (subM s (posL (O.map fun (q : Nat) => (q : Int)))) (posL ((bkL O n n).map fun (q : Nat) => (q : Int))); rwa [l2] at this) hs fun i hi j hj => ?_
 have hq := hb.at hi; have hq2 := hb.at hj
 rw [subM, l2, gm_tab hi hj, subM, l1, gm_tab (by rw [perm_pos hb hi]; omega) (by rw [perm_pos hb hj]; omega), back_at h hi, back_at h hj]
end
end
section
open Go Go.RowKit
section
variable {P : Program} {n : Nat} {E : Env} {H : Hp}
variable {d : Option Tmp} {t : TypeId} {pos : String} {af : Array Edge} {g : Option (Nat × Bool)}
theorem P_stB {x y : Operand} {i B o' : Nat} {BT : TypeId} {Ts Ws : List Ty} {T : Ty} [hsh : Shape T 1 false] (hS : ∀ w, (sizeOf t).run P w = .ok 1 w) (hx : Has E x (PtrB B o')) (hy : Has E y T)
  (hH : H[i]? = some (box B BT Ts)) (hlt : o' < Ts.length) (hW : Ts.set o' T = Ws) {t' : TypeId} {H' : Hp} (hH' : H.set i (box B BT Ws) = H') :
  W.PutTy P n E H H' ⟨none, .store t x y, t', pos, af, none⟩ := by subst hW; subst hH'; exact P_st hS hx hy hH hlt
theorem new_growZ {x y : Operand} {m e s : Nat} {tn : TypeId} {i : TypeInfo} {z : Value} {kd kn : IntKind} (ht : P.underlying t = some (.slice e)) (htn : P.underlying tn = some (.int kn)) (hi : P.info? e = some i) (hz : i.zero = some z) (hs : i.size = s) (hzs : z.cells.size = s) (hs0 : 0 < s)
  (hx : Has E x (Is (.slice none 0 0))) (hy : Has E y (IntT kd (m : Int))) (h0 : 0 < m) (hb : m * i.bytes ≤ 281474976710656) (hm : m ≤ 9223372036854775807) {t' : TypeId} :
  NewTy P n E H ⟨d, .call ⟨.builtin .append, #[x, y], #[t, tn]⟩, t', pos, af, g⟩ (Nat × Nat) (fun q => Is (.slice (some ⟨q.1, 0, none⟩) m q.2)) (fun q => rowO e s (.slice (some ⟨q.1, 0, none⟩) 0 q.2) []) := NewTy.of fun cx X a w V hi' hsl => by
 have ex : a.eval x = .slice none 0 0 := hx n V a hsl
 have ey : a.eval y = .int kd (m : Int) := hy n V a hsl
 have hr := Lib.run_append_nil_zeros (P := P) w t tn t' e i z kd kn ht htn hi hz m h0 (by omega) (by omega) hb
 have hge := grownCap_ge w m 0 e
 have hcm : grownCap w m 0 e ≤ maxLen := grownCap_le_maxLen w m 0 e (by simp only [maxLen]; omega)
 subst hs
 refine ⟨(w.heap.size, grownCap w m 0 e), _, _, ?_, rfl, (hi'.drew).alloc (ob := .cells (Builtin.zeroCells z.cells m ++ Builtin.zeroCells z.cells (grownCap w m 0 e - m)) e) (fun mm hm' => ⟨[], ⟨trivial, by simp, by simp [flat]⟩, .inr ⟨w.heap.size, grownCap w m 0 e, _, rfl, rfl, hm', Nat.zero_le _, hcm, ?_, by simp [flat]⟩⟩)⟩
 ·simp [execOp, resolve, invoke, builtin, ex, ey, hr, Sem.run_bind, Result.andThen]
 ·simp only [Array.size_append, size_zeroCells, hzs, ← Nat.add_mul]
  congr 1; omega
theorem op_capI {x : Operand} {ad : Option Addr} {l cap : Nat} {e : TypeId} {ta : TypeId} (hU : ∀ w, (underlying ta).run P w = .ok (.slice e) w) (hx : Has E x (Is (.slice ad l cap))) :
  OpTy P n E H ⟨d, .call ⟨.builtin .cap, #[x], #[ta]⟩, t, pos, af, g⟩ (IntT .i64 cap) :=
 op_pure fun a V w hs => by
  have e1 : a.eval x = .slice ad l cap := hx n V a hs
  exact ⟨.int .i64 cap, by simp [execOp, resolve, e1, invoke, builtin, Builtin.cap_, Sem.run_bind, hU, Result.andThen, goInt], rfl⟩
theorem op_sliceI {x hiO : Operand} {ad : Option Addr} {l cap m s : Nat} {kd : IntKind} {e : TypeId} (hU : ∀ w, (underlying t).run P w = .ok (.slice e) w) (hS : ∀ w, (sizeOf e).run P w = .ok s w) (hx : Has E x (Is (.slice ad l cap))) (hh : Has E hiO (IntT kd (m : Int))) (h1 : m ≤ cap) {t' : TypeId} :
  OpTy P n E H ⟨d, .slice t x none (some hiO) none, t', pos, af, g⟩ (Is (.slice ad m cap)) :=
 op_pure fun a V w hs => by
  have e1 : a.eval x = .slice ad l cap := hx n V a hs
  have eh : a.eval hiO = .int kd (m : Int) := hh n V a hs
  have had : (ad.map fun x : Addr => x.add 0) = ad := by cases ad <;> simp [Addr.add]
  refine ⟨.slice ad m cap, ?_, rfl⟩
  simp [execOp, e1, eh, Instr.sliceAt, Instr.slice, Instr.sliceBounds, Instr.sliceBound, asIntOf, Sem.run_bind, hU, hS, Result.andThen, h1, had]
end
end
section
open Go Go.RowKit
section
variable {P : Program} {R : Post} {cx : Cx} {n : Nat} {k : List It} {E : Env} {H : Hp}
theorem HH.two {base : Nat} {w : World} {V : View} {Z : SA} {X : Hp} (h : HH base w V (Z :: X)) : HH base w V [Z, starSA (SA.emp :: X)] := by
 have h1 : HH base w V ((Z :: X).set 0 SA.emp ++ [Z]) := h.last rfl
 have h2 : HH base w V (starSA (SA.emp :: X) :: [Z]) := HH.repack h1
 exact h2.pick (is := [1, 0]) ⟨⟨_, rfl, fun _ _ _ h => h⟩, ⟨_, rfl, fun _ _ _ h => h⟩, trivial⟩ (by decide)
theorem FunO.pack {f : FuncId} {Ts : List Ty} {γ : Type} {U : γ → Ty} {X : γ → Hp} {Q : γ → Prop} (h : FunO P f Ts [] γ U X Q) : FunO P f Ts [] γ U (fun x => [starSA (SA.emp :: X x)]) Q :=
 fun cx Z vs V w h1 h2 => (h cx Z vs V w h1 h2).mono fun e w' ⟨v, V', x, a, b, c, d, e'⟩ => ⟨v, V', x, a, b, c.withHH c.hp.two, d, e'⟩
end
namespace W
variable {P : Program} {R : Post} {cx : Cx} {n : Nat} {k : List It} {E : Env} {H : Hp} {Hf : Bool → Hp} {p : Nat}
end W
end
section
open Go Go.RowKit
section
variable {P : Program} {n : Nat} {E : Env} {H : Hp}
variable {d : Option Tmp} {t : TypeId} {pos : String} {af : Array Edge} {g : Option (Nat × Bool)}
theorem op_idxAB {x i : Operand} {B o q r s : Nat} {kd : IntKind} {j : Int} {e : TypeId} {len : Nat} (hU : ∀ w, (underlying t).run P w = .ok (.array len e) w) (hS : ∀ w, (sizeOf e).run P w = .ok s w)
  (hx : Has E x (PtrB B o)) (hi : Has E i (IntT kd j)) (hj : j = (q : Int)) (hl : q < len) (hr : o + q * s = r) {t' : TypeId} : OpTy P n E H ⟨d, .indexAddr t x i, t', pos, af, g⟩ (PtrB B r) :=
 op_pure fun a V w hs => by
  have e1 : a.eval x = .pointer (some ⟨B, o, none⟩) := hx n V a hs
  have ei : a.eval i = .int kd j := hi n V a hs
  subst hj hr
  exact ⟨.pointer (some ⟨B, o + q * s, none⟩), by simp [execOp, e1, ei, Instr.indexAt, Instr.sureAddr, asIntOf, Sem.run_bind, hU, hS, Result.andThen, hl, add_plain], rfl⟩
theorem op_sliceA {x : Operand} {e : TypeId} {len : Nat} {Ts : List Ty} (hU : ∀ w, (underlying t).run P w = .ok (.array len e) w) (hS : ∀ w, (sizeOf e).run P w = .ok 1 w) (hx : Has E x (PT (AggT Ts))) (hl : Ts.length = len) {t' : TypeId} :
  OpTy P n E H ⟨d, .slice t x none none none, t', pos, af, g⟩ (SlT 1 Ts) :=
 op_pure fun a V w hs => by
  obtain ⟨b, o, v, e1, ⟨c, BT, fr, e2, e3⟩, vs, rfl, e4⟩ := hx n V a hs
  refine ⟨.slice (some ⟨b, o, none⟩) len len, ?_, some ⟨b, o, none⟩, len, by rw [hl], by omega, fun i T hT => ?_⟩
  ·simp [execOp, e1, Instr.sliceAt, Instr.sureAddr, Instr.sliceBounds, Sem.run_bind, hU, hS, Result.andThen, add_plain, pure, Sem.run]
  ·obtain ⟨u, e5, e6⟩ := e4.all.get hT
   have hp := e4.pl u (List.mem_of_getElem? e5)
   refine ⟨b, o, u, rfl, ⟨c, BT, fr, e2, fun j y hy => ?_⟩, by rw [hp.cells]; rfl, e6⟩
   rw [hp.cells] at hy
   cases j with
   | zero =>
    simp at hy; subst hy
    rw [Nat.mul_one, Nat.add_zero]
    exact e3 i u (by simpa [Value.cells] using e5)
   | succ j => simp at hy
theorem A_appendV {x y : Operand} {s e : Nat} {v : Value} {Ts Us : List Ty} {inf : TypeInfo} {z : Value} {dd : Nat} (ht : P.underlying t = some (.slice e)) (hi : P.info? e = some inf) (hz : inf.zero = some z) (hsize : inf.size = s) (hzs : z.cells.size = s)
  (hx : Has E x (Is v)) (hy : Has E y (SlT s Us)) (hEl : ∀ T, T ∈ Us → El s T) (hlen : (Ts.length + Us.length) * inf.bytes ≤ 140737488355328) (h63 : Ts.length + Us.length ≤ 9223372036854775807) {t' : TypeId} :
  AppTy P n E (rowO e s v Ts) ⟨some dd, .call ⟨.builtin .append, #[x, y], #[t, t]⟩, t', pos, af, none⟩ Value (fun v => Is v) (fun v => rowO e s v (Ts ++ Us)) := fun cx X a w V hinv hs => by
 obtain ⟨v', w', hrun, hi'⟩ := append_any (dd := dd) (pos := pos) (af := af) (t' := t') (H := [rowO e s v Ts] ++ X) (i := 0) ht hi hz hsize hzs hx hy rfl hEl hlen h63 hinv hs
 exact ⟨v', v', w', hrun, rfl, hi'⟩
end
end
section
open Go Go.RowKit
def l4 (a b c d : Nat) : Nat → Nat
 | 0 => a
 | 1 => b
 | 2 => c
 | _ => d
theorem l4_get {a b c d : Nat} : ∀ {i : Nat}, i < 4 → ([NT .u8 a, NT .u8 b, NT .u8 c, NT .u8 d] : List Ty)[0 + i * 1]? = some (NT .u8 (l4 a b c d i))
 | 0, _ => rfl
 | 1, _ => rfl
 | 2, _ => rfl
 | 3, _ => rfl
theorem l4_lt {a b c d : Nat} (ha : a < 256) (hb : b < 256) (hc : c < 256) (hd : d < 256) : ∀ i, l4 a b c d i < 256
 | 0 => ha
 | 1 => hb
 | 2 => hc
 | _ + 3 => hd
theorem c_four {n a b c d : Nat} (hn : 4 ≤ n) (hn2 : n ≤ 1000) (ha : a < 256) (hb : b < 256) (hc : c < 256) (hd : d < 256) : Fun Tryz.prog 38 [NT .i64 n, AggT [NT .u8 a, NT .u8 b, NT .u8 c, NT .u8 d]] (AggT (tab 4 fun i => NT .i64 (fOut n (l4 a b c d) i))) := by
 refine Fun.intro Tryz.func38 rfl Tryz.ntmps38 rfl (fun cx => (ts (rn rfl (fK (Ht rfl)) fun B3 => (rn rfl (eG (Ts := [Is (.int .i64 0), Is (.int .i64 0), Is (.int .i64 0), Is (.int .i64 0)]) Tryz.zeroValue67 rfl (fun V => aW ⟨rfl, trivial⟩ (aW ⟨rfl, trivial⟩ (aW ⟨rfl, trivial⟩ (aW ⟨rfl, trivial⟩ (aG)))))) fun B4 => (eX (ts (rm rfl (rn rfl (new_makeO (T := NT .i64 0) (i := Tryz.t3) und_69 info_3 rfl rfl (Ht rfl) rfl (fun V => rfl) El.one (by show 8 * _ ≤ _; omega) (by omega)) fun B11 => (ra rfl (eX (cK (ts (rm rfl (ro rfl (op_lenO U_69 (Ht rfl) (i := 2) rfl (show ((List.replicate n (NT .i64 0)).length : Int) = ((n : Nat) : Int) from by simp)) ?_))))))))))))))
 refine ro rfl (cX (cJ 0)) (eX (eK ?_))
 refine T_loop (fun (i : Nat) => i ≤ n) (fun (i : Nat) => n - i) (fun (i : Nat) => [(3, PtrB B3 0), (4, PtrB B4 0), (5, Is B11), (13, NT .i64 n), (14, NT .i64 i)]) (fun (i : Nat) => [box B3 63 [NT .u8 a, NT .u8 b, NT .u8 c, NT .u8 d], box B4 67 [NT .i64 0, NT .i64 0, NT .i64 0, NT .i64 0], rowO 3 1 B11 (mixT (fun i => NT .i64 (i + 1)) (NT .i64 0) n i)]) 0 (Nat.zero_le _)
  (aQ rfl (aQ rfl (aQ rfl (aQ rfl (aQ rfl aX))))) (aU (box_of rfl) (aU (box_of rfl) (aU (rowO_of (by rw [← mix_zero]; exact rep_tab _ _)) aY))) (fun i hi => ?_)
 refine ts (ro rfl (gJ (Ht rfl) (Ht rfl)) (eX (cK (dQ (Ht rfl) (fun hk => ?_) (fun hk => ?_)))))
 ·have hin : i < n := by simp only [decide_eq_true_eq] at hk; omega
  refine cU (cK (eK (ts (rm rfl (ra rfl (eX (cY (rm rfl (rm rfl (rm rfl (ro rfl (dV (Ht rfl) (cJ 1) (by show _ < 9223372036854775808; first | omega | (simp only [lim]; omega))) (ro rfl (op_idxO U_69 Z_3 (Ht rfl) (Ht rfl) rfl (i := 2) rfl (by rw [mix_len]; omega) rfl) ?_))))))))))))
  refine R_stO Z_3 (Ht rfl) (Ht rfl) El.one (i := 2) rfl rfl (by rw [mix_len]; omega) rfl ?_
  refine eX (T_blk (cY (ro rfl (dV (Ht rfl) (cJ 1) (by show _ < 9223372036854775808; first | omega | (simp only [lim]; omega))) (rm rfl (eX (gQ (i + 1) hin (by omega) (aQ rfl (aQ rfl (aQ rfl (aQ rfl (aQ rfl aX))))) (aU (box_of rfl) (aU (box_of rfl) (aU (rowO_of (mix_set (f := (fun i => NT .i64 (i + 1))))) aY)))))))))
 ·obtain rfl : i = n := by simp only [decide_eq_false_iff_not] at hk; omega
  rw [mix_fin]
  refine gG rfl (cK (gW (i := 2) (tt := 5) rfl rfl frz_row (cY (rn rfl (eG (Ts := [Is (.int .i64 0), Is (.int .i64 0), Is (.int .i64 0), Is (.int .i64 0)]) Tryz.zeroValue67 rfl (fun V => aW ⟨rfl, trivial⟩ (aW ⟨rfl, trivial⟩ (aW ⟨rfl, trivial⟩ (aW ⟨rfl, trivial⟩ (aG)))))) fun B7 => (eX (cK (ts (ro rfl (cX (cJ 0)) (eX (eK (T_keep [0, 1, 3] rfl (by decide) ?_)))))))))))
  refine T_loop (fun (j : Nat) => j ≤ 4) (fun (j : Nat) => 4 - j) (fun (j : Nat) => [(3, PtrB B3 0), (4, PtrB B4 0), (5, IntsT (fRest i (l4 a b c d) j)), (7, PtrB B7 0), (23, NT .i64 j)]) (fun (j : Nat) => [box B3 63 [NT .u8 a, NT .u8 b, NT .u8 c, NT .u8 d], box B4 67 [NT .i64 0, NT .i64 0, NT .i64 0, NT .i64 0], box B7 67 (mixT (fun k => NT .i64 (fOut i (l4 a b c d) k)) (NT .i64 0) 4 j)]) 0 (Nat.zero_le _)
   (aQ rfl (aQ rfl (aZ rfl (slT_of (by rw [fRest, tab_map])) (aQ rfl (aQ rfl aX))))) (aU (box_of rfl) (aU (box_of rfl) (aU (box_of rfl) aY))) (fun j hj => ?_)
  refine ts (ro rfl (gJ (Ht rfl) (cJ 4)) (eX (cK (dQ (Ht rfl) (fun hk2 => ?_) (fun hk2 => ?_)))))
  ·have hj4 : j < 4 := by simp only [decide_eq_true_eq] at hk2; omega
   have hlb := l4_lt ha hb hc hd j
   have hrl := fRest_len (n := i) (l := (l4 a b c d)) j (by omega)
   have hkl := fIdx_lt (n := i) (l := (l4 a b c d)) (i := j) (by omega)
   refine cU (cK (eK (ts (rm rfl (ra rfl (eX (ts (rm rfl (ro rfl (op_idxAB Tryz.runUnderlying63 Z_5 (Ht rfl) (Ht rfl) rfl (by omega) rfl) (ro rfl (fQ A_5 Z_5 (Ht rfl) (i := 0) rfl (l4_get hj4)) (ro rfl (gV U_5 U_3 (Ht rfl) (by show _ < 9223372036854775808; first | omega | (simp only [lim]; omega))) (rm rfl (ro rfl (dG U_69 (Ht rfl) len_map) (ro rfl (op_remN (Ht rfl) (Ht rfl) (by omega)) (ra rfl (eX (cK ?_)))))))))))))))))
   obtain ⟨kk, hkk⟩ : ∃ kk, kk = fIdx i (l4 a b c d) j := ⟨_, rfl⟩
   rw [← hkk] at hkl
   rw [show l4 a b c d j % (fRest i (l4 a b c d) j).length = kk from hkk.symm]
   have hfo : fOut i (l4 a b c d) j = (fRest i (l4 a b c d) j).getD kk 0 := by rw [hkk]; rfl
   have hnx : fRest i (l4 a b c d) (j + 1) = (fRest i (l4 a b c d) j).take kk ++ (fRest i (l4 a b c d) j).drop (kk + 1) := by rw [hkk]; rfl
   refine cY (rm rfl (rm rfl (rm rfl (ro rfl (dZ U_69 Z_3 (Ht rfl) (Ht rfl) rfl (dY (dU (d := 0) hkl))) (ro rfl (dJ A_3 Z_3 (Ht rfl)) (ro rfl (op_idxAB U_67 Z_3 (Ht rfl) (Ht rfl) rfl (by omega) rfl) (R_st Z_3 (Ht rfl) (Ht rfl) (i := 2) rfl (by rw [mix_len]; omega) rfl ?_)))))))
   refine eX (fJ (m := 9) (C.D_tmp (Ei := []) rfl rfl rfl bW (new_bslice0 U_69 Z_3 O_3) (dp 5 rfl (cX (Ht rfl)) (dp 9 rfl (cX (Ht rfl)) (dqq 40 1 41 2 rfl (op_slice0 U_69 Z_3 (Ht rfl) (Ht rfl) (fun m e => by cases e) (by omega) (by rw [List.length_map]; omega) (Us := ((fRest i (l4 a b c d) j).take kk).map (NT .i64)) (by rw [Int.toNat_natCast, List.map_take])) ?_)))))
   refine C.D_app (Ei := [(42, _)]) 0 true rfl rfl rfl rfl rfl rfl (bV (bG 3 rfl rfl) bW) (fun x43 => A_appendV (inf := Tryz.t3) und_69 info_3 rfl rfl rfl (Ht rfl) (Ht rfl)  (fun T hT => by obtain ⟨x, _, rfl⟩ := List.mem_map.1 hT; exact El.one) (by show _ * 8 ≤ _; simp only [List.length_map, List.length_append, List.length_take, List.length_drop, List.length_nil]; omega) (by simp only [List.length_map, List.length_append, List.length_take, List.length_drop, List.length_nil]; omega)) ?_
   refine dp 5 rfl (cX (Ht rfl)) (dp 9 rfl (cX (Ht rfl)) (dq 45 6 rfl (dV (Ht rfl) (cJ 1) (by show _ < 9223372036854775808; first | omega | (simp only [lim]; omega))) (dqq 44 5 46 7 rfl (OpTy.imp (op_sliceLo U_69 Z_3 (Ht rfl) (Ht rfl) rfl (by rw [List.length_map]; omega)) (slT_of (Us := ((fRest i (l4 a b c d) j).drop (kk + 1)).map (NT .i64)) (by rw [List.map_drop]))) ?_)))
   refine fW mixed rfl (by kernel_rfl) (C.F_tmp (fun B39 => aJ (aJ (aJ (C.F_new (fun v43 => aJ (aJ (aJ (aJ (aV (R_appendA (inf := Tryz.t3) und_69 info_3 rfl rfl rfl (Ht rfl) (Ht rfl) (i := 3) rfl (fun T hT => by obtain ⟨x, _, rfl⟩ := List.mem_map.1 hT; exact El.one) (by show _ * 8 ≤ _; simp only [List.length_map, List.length_append, List.length_take, List.length_drop, List.length_nil]; omega) (by simp only [List.length_map, List.length_append, List.length_take, List.length_drop, List.length_nil]; omega) rfl (fun v48 => ?_))))))))))))
   refine ra rfl (eX (T_blk (T_conv 3 rfl (rowO_of (e := 3) (s := 1) (by rw [hnx, List.map_append]; rfl : _ = (fRest i (l4 a b c d) (j + 1)).map (NT .i64))) ?_)))
   refine gW (i := 3) (tt := 5) rfl rfl frz_row (cY (ro rfl (dV (Ht rfl) (cJ 1) (by show _ < 9223372036854775808; first | omega | (simp only [lim]; omega))) (rm rfl (eX (T_keep [0, 1, 2] rfl (by decide) (gQ (j + 1) hj4 (by omega) (aQ rfl (aQ rfl (aQ rfl (aQ rfl (aQ rfl aX))))) (aU (box_of rfl) (aU (box_of rfl) (aU (box_of (by rw [← hfo, show 0 + j * 1 = j by omega]; exact mix_set (f := (fun k => NT .i64 (fOut i (l4 a b c d) k))))) aY)))))))))
  ·obtain rfl : j = 4 := by simp only [decide_eq_false_iff_not] at hk2; omega
   rw [mix_fin]
   refine gG rfl (ts (ro rfl (eW Tryz.isAgg67 Tryz.sizeOf67 (Ht rfl) (i := 2) rfl rfl rfl) (gZ Tryz.sizeOf67 (Ht rfl) (Ht rfl) rfl (i := 1) rfl (aK rfl) rfl rfl (eX ?_))))
   exact fG rfl (fY Tryz.isAgg67 Tryz.sizeOf67 rfl (i := 1) rfl rfl)
theorem c_same {z z' : List Qi} {s s' : List (List Qi)} {e e' : Int} {L : Nat} (hz : FitL z L) (hz2 : FitL z' L) (hs : FitM s L) (hs2 : FitM s' L) (hL : 1 ≤ L) (hK : L ≤ 8796093022208) (hsh : Shp s z.length z.length) (hsh2 : Shp s' z'.length z'.length) (hl : z.length ≤ 1000) (hl2 : z'.length ≤ 1000) : Fun Tryz.prog 40 [NetT z s, IntT .i64 e, NetT z' s', IntT .i64 e'] (BoolT (decide (e = 0) && decide (e' = 0) && netEq z z' s s')) := by
 refine Fun.intro Tryz.func40 rfl Tryz.ntmps40 rfl (fun cx => (ts (rn rfl (fK (Ht rfl)) fun B4 => (rn rfl (fK (Ht rfl)) fun B6 => (ro rfl (cQ cV) (eX (ts (rm rfl (ro rfl (op_eql (Ht rfl) cV) (rm rfl (fX rfl rfl (eU rfl rfl (Ht rfl) (fun h => cX (Ht rfl))) (fX rfl rfl (eU rfl rfl (Ht rfl) (fun h => op_eql (fV rfl h) cV)) (ro rfl (op_and (Ht rfl) (fun h => (fV rfl h))) (rm rfl (fX rfl rfl (eU rfl rfl (Ht rfl) (fun h => eW A_30 Z_30 (Ht rfl) (i := 0) rfl rfl rfl)) (fX rfl rfl (eU rfl rfl (Ht rfl) (fun h => eW A_30 Z_30 (Ht rfl) (i := 1) rfl rfl rfl)) ?_))))))))))))))))
 refine fX rfl rfl (eU rfl rfl (Ht rfl) (fun h => cZ Tryz.call36 (c_netEqual (L := L) hz hz2 hs hs2 hL hK hsh hsh2 hl hl2) ⟨(fV rfl h), (fV rfl h), trivial⟩)) (ro rfl (op_and (Ht rfl) (fun h => (fV rfl h))) (ra rfl (eX ?_)))
 exact fG rfl (eY rfl)
end
section
open Go Go.RowKit
theorem und_3 : Tryz.prog.underlying 3 = some (.int .i64) := by kernel_rfl
end
section
open Go Go.RowKit
theorem c_GrowO {m : Nat} (hm : m ≤ 1000) : FunO Tryz.prog 218 [Is (.slice none 0 0), NT .i64 m] [] (Value) (fun v => Is v) (fun v => [rowO 45 5 v []]) (fun _ => True) := by
 refine FunO.intro Tryz.func218 rfl Tryz.ntmps218 rfl (fun cx Z => (ts (ro rfl (cQ cV) (eX (cK (ts (rm rfl (ro rfl (gJ (Ht rfl) (cJ 0)) (eX (T_condF (Ht rfl) (by simp) ?_))))))))))
 refine cU (cK (ts (rm rfl (rm rfl (ro rfl (op_capI U_27 (Ht rfl)) (rm rfl (ro rfl (op_lenI U_27 (Ht rfl)) (ro rfl (dW (Ht rfl) (Ht rfl) (by omega) (by show _ < 9223372036854775808; first | omega | (simp only [lim]; omega))) (ro rfl (dW (Ht rfl) (Ht rfl) (by omega) (by show _ < 9223372036854775808; first | omega | (simp only [lim]; omega))) (ra rfl (eX (ts (rm rfl (ro rfl (op_gtrN (Ht rfl) (cJ 0)) (eX (dQ (Ht rfl) (fun hb => ?_) (fun hb => ?_)))))))))))))))))
 ·have h0 : 0 < m := by simp only [decide_eq_true_eq] at hb; omega
  refine cY (rm rfl (rm rfl (ro rfl (op_capI U_27 (Ht rfl)) (ro rfl (op_sliceI U_27 Z_45 (Ht rfl) (Ht rfl) (Nat.le_refl _)) (rm rfl (rn rfl (new_growZ (i := Tryz.t45) und_27 und_3 info_45 rfl rfl rfl (by decide) (Ht rfl) (Ht rfl) (by omega) (by show _ * 88 ≤ _; omega) (by omega)) fun q22 => (rm rfl (ro rfl (op_lenI U_27 (Ht rfl)) (ro rfl (op_sliceI U_27 Z_45 (Ht rfl) (Ht rfl) (Nat.zero_le _)) (ra rfl (eX (ts (rm rfl (ra rfl (eX ?_)))))))))))))))
  exact T_retO _ trivial [0, 1] ⟨⟨_, rfl, fun _ _ _ h => h⟩, ⟨_, rfl, fun _ _ _ h => h⟩, trivial⟩ (by decide) (rvs1 rfl (eY rfl))
 ·obtain rfl : m = 0 := by simp only [decide_eq_false_iff_not] at hb; omega
  refine T_row 45 5 (cU (ts (rm rfl (ra rfl (eX ?_)))))
  exact T_retO _ trivial [0, 1] ⟨⟨_, rfl, fun _ _ _ h => h⟩, ⟨_, rfl, fun _ _ _ h => h⟩, trivial⟩ (by decide) (rvs1 rfl (eY rfl))
abbrev cat (ls : List (List Qi)) (i : Nat) : List Qi := (ls.take i).flatten
theorem cat_next {ls : List (List Qi)} {i : Nat} (h : i < ls.length) : cat ls (i + 1) = cat ls i ++ ls.getD i [] := by
 simp only [cat]
 rw [List.take_succ_eq_append_getElem h, List.flatten_append]
 simp [List.getD, h]
theorem cat_fin (ls : List (List Qi)) : cat ls ls.length = ls.flatten := by rw [cat, List.take_length]
theorem cat_le {ls : List (List Qi)} {i : Nat} (h : i ≤ ls.length) : (cat ls i).length ≤ ls.flatten.length := by
 have e : ls.flatten = (ls.take i).flatten ++ (ls.drop i).flatten := by rw [← List.flatten_append, List.take_append_drop]
 show (ls.take i).flatten.length ≤ _
 rw [e, List.length_append]; omega
theorem c_Concat {ls : List (List Qi)} (hl : ls.length ≤ 1000) (hf : ls.flatten.length ≤ 1000) : Fun Tryz.prog 122 [SlT 1 (ls.map NumsT)] (NumsT ls.flatten) := by
 refine Fun.intro Tryz.func122 rfl Tryz.ntmps122 rfl (fun cx => (ts (ro rfl (cQ cV) (eX (ts (ro rfl (cQ (cJ 0)) (eX (cK (ts (rm rfl (ro rfl (dG U_28 (Ht rfl) len_map) (ro rfl (cX (cJ 0)) (eX (eK ?_))))))))))))))
 refine T_loop (fun (i : Nat) => i ≤ ls.length) (fun (i : Nat) => ls.length - i) (fun (i : Nat) => [(0, SlT 1 (ls.map NumsT)), (3, NT .i64 (cat ls i).length), (9, SlT 1 (ls.map NumsT)), (10, NT .i64 ls.length), (11, NT .i64 i)]) (fun (i : Nat) => []) 0 (Nat.zero_le _)
  (aQ rfl (aQ rfl (aQ rfl (aQ rfl (aQ rfl aX))))) aY (fun i hi => ?_)
 refine ts (ro rfl (gJ (Ht rfl) (Ht rfl)) (eX (cK (dQ (Ht rfl) (fun hd => ?_) (fun hd => ?_)))))
 ·have hin : i < ls.length := by simp only [decide_eq_true_eq] at hd; omega
  have hcn := cat_next hin
  have hcl := cat_le (ls := ls) (i := i + 1) hin
  rw [hcn, List.length_append] at hcl
  refine cU (cK (eK (ts (ro rfl (dZ U_28 Z_27 (Ht rfl) (Ht rfl) rfl (dY (dU (d := []) (by omega)))) (ro rfl (dJ A_27 Z_27 (Ht rfl)) (ra rfl (eX (ts (rm rfl (rm rfl (ro rfl (dG U_27 (Ht rfl) len_map) (ro rfl (dV (Ht rfl) (Ht rfl) (by show _ < 9223372036854775808; omega)) (ra rfl (eX (ts (rm rfl (ro rfl (gJ (Ht rfl) (cJ 0)) (eX (T_condF (Ht rfl) (by simp) ?_)))))))))))))))))))
  refine cU (T_blk (cY (ro rfl (dV (Ht rfl) (cJ 1) (by show _ < 9223372036854775808; first | omega | (simp only [lim]; omega))) (rm rfl (eX (gQ (i + 1) hin (by omega) (aQ rfl (aZ rfl (nt_of (by rw [hcn, List.length_append])) (aQ rfl (aQ rfl (aQ rfl aX))))) aY))))))
 ·have hin : i = ls.length := by simp only [decide_eq_false_iff_not] at hd; omega
  rw [hin, cat_fin]
  refine gG rfl (ts (rm rfl (R_call0 Tryz.call218 (c_GrowO (m := ls.flatten.length) hf) ⟨cV, (Ht rfl), trivial⟩ rfl (fun v24 _ => (ra rfl (eX (cK (ts (rm rfl (ro rfl (dG U_28 (Ht rfl) len_map) (ro rfl (cX (cJ 0)) (eX (eK ?_)))))))))))))
  refine T_loop2 (fun (j : Nat) (v : Value) => j ≤ ls.length) (fun (j : Nat) (v : Value) => ls.length - j) (fun (j : Nat) (v : Value) => [(0, SlT 1 (ls.map NumsT)), (6, Is v), (25, SlT 1 (ls.map NumsT)), (26, NT .i64 ls.length), (27, NT .i64 j)]) (fun (j : Nat) (v : Value) => [rowO 45 5 v ((cat ls j).map NumT)]) 0 _ (Nat.zero_le _)
   (aQ rfl (aQ rfl (aQ rfl (aQ rfl (aQ rfl aX))))) (aU (rowO_of rfl) aY) (fun j v hj => ?_)
  refine ts (ro rfl (gJ (Ht rfl) (Ht rfl)) (eX (cK (dQ (Ht rfl) (fun he => ?_) (fun he => ?_)))))
  ·have hjn : j < ls.length := by simp only [decide_eq_true_eq] at he; omega
   have hcn := cat_next hjn
   have hcl := cat_le (ls := ls) (i := j + 1) hjn
   rw [hcn, List.length_append] at hcl
   refine cU (cK (eK (ts (ro rfl (dZ U_28 Z_27 (Ht rfl) (Ht rfl) rfl (dY (dU (d := []) (by omega)))) (ro rfl (dJ A_27 Z_27 (Ht rfl)) (ra rfl (eX (cY (rm rfl (rm rfl (R_appendA (inf := Tryz.t45) und_27 info_45 rfl rfl rfl (Ht rfl) (Ht rfl) (i := 0) rfl (fun T hT => by obtain ⟨x, _, rfl⟩ := List.mem_map.1 hT; exact El.ag rfl) (by show _ * 88 ≤ _; simp only [List.length_map]; omega) (by simp only [List.length_map]; omega) rfl (fun v2 => ?_))))))))))))
   refine ra rfl (eX (T_blk (cY (ro rfl (dV (Ht rfl) (cJ 1) (by show _ < 9223372036854775808; first | omega | (simp only [lim]; omega))) (rm rfl (eX (gQ (j + 1, v2) hjn (by dsimp only; omega) (aQ rfl (aQ rfl (aQ rfl (aQ rfl (aQ rfl aX))))) (aU (rowO_of (by rw [hcn, List.map_append])) aY))))))))
  ·have hjn : j = ls.length := by simp only [decide_eq_false_iff_not] at he; omega
   rw [hjn, cat_fin]
   refine gG rfl (gW (i := 0) (tt := 6) rfl rfl frz_row (ts (rm rfl (ra rfl (eX ?_)))))
   exact fG rfl (eY rfl)
theorem c_Stack1 {z zb : List Qi} {a b : List (List Qi)} {x y i j : Nat} (ha : Shp a x x) (hb : Shp b y y) (hx : x ≤ 100) (hy : y ≤ 100) (hi : i < x + y) (hj : j < x + y) : Fun Tryz.prog 120 [NT .i64 i, NT .i64 j, PT (NT .i64 x), PT (NetT z a), PT (NetT zb b)] (NumT (gm (sidM a b x y) i j)) := by
 have hal := ha.1
 have hbl := hb.1
 rw [sidM_gm hi hj]
 refine Fun.intro Tryz.func120 rfl Tryz.ntmps120 rfl (fun cx => (ts (rn rfl (eG (Ts := [Is (.bool false), Is (.slice none 0 0), Is (.bool false), Is (.slice none 0 0), Is (.slice none 0 0)]) O_45 rfl (fun V => aW ⟨rfl, trivial⟩ (aW ⟨rfl, trivial⟩ (aW ⟨rfl, trivial⟩ (aW ⟨rfl, trivial⟩ (aW ⟨rfl, trivial⟩ (aG))))))) fun B7 => (eX (cK (eK (ts (rm rfl (ro rfl (dJ A_3 Z_3 (Ht rfl)) (ro rfl (gJ (Ht rfl) (Ht rfl)) (rm rfl (fX rfl rfl (eU rfl rfl (Ht rfl) (fun h => cX (Ht rfl))) ?_))))))))))))
 refine fX rfl rfl (eU rfl rfl (Ht rfl) (fun h => dJ A_3 Z_3 (Ht rfl))) (fX rfl rfl (eU rfl rfl (Ht rfl) (fun h => gJ (fV rfl h) (fV rfl h))) (ro rfl (op_and (Ht rfl) (fun h => (fV rfl h))) (ra rfl (eX (dQ (Ht rfl) (fun h1 => ?_) (fun h1 => ?_))))))
 ·have h2 : i < x ∧ j < x := by simpa using h1
  have har := ha.row h2.1
  refine ts (ro rfl (op_fld1 fa_30_1 (Ht rfl) rfl) (ro rfl (dJ A_28 Z_28 (Ht rfl)) (rm rfl (ro rfl (dZ U_28 Z_27 (Ht rfl) (Ht rfl) rfl (dY (dU (d := []) (by omega)))) (ro rfl (dJ A_27 Z_27 (Ht rfl)) (rm rfl (ro rfl (dZ U_27 Z_45 (Ht rfl) (Ht rfl) rfl (dY (dU (d := Qi.zero) (by omega)))) (ro rfl (dJ A_45 Z_45 (Ht rfl)) (gZ Z_45 (Ht rfl) (Ht rfl) rfl (i := 0) rfl (aK rfl) rfl rfl (eX (fG rfl (fZ (fY A_45 Z_45 rfl (i := 0) rfl rfl) ?_))))))))))))
  exact (num_of (by rw [if_pos h2.1, if_pos h2.2]))
 ·have h2 : ¬ (i < x ∧ j < x) := by simpa using h1
  refine ts (rm rfl (ro rfl (dJ A_3 Z_3 (Ht rfl)) (ro rfl (op_geqN (Ht rfl) (Ht rfl)) (rm rfl (fX rfl rfl (eU rfl rfl (Ht rfl) (fun h => cX (Ht rfl))) (fX rfl rfl (eU rfl rfl (Ht rfl) (fun h => dJ A_3 Z_3 (Ht rfl))) (fX rfl rfl (eU rfl rfl (Ht rfl) (fun h => op_geqN (fV rfl h) (fV rfl h))) (ro rfl (op_and (Ht rfl) (fun h => (fV rfl h))) (ra rfl (eX (dQ (Ht rfl) (fun h3 => ?_) (fun h3 => ?_))))))))))))
  ·have h4 : x ≤ i ∧ x ≤ j := by simpa using h3
   have hbr := hb.row (i := i - x) (by omega)
   refine cK (fJ (m := 10) (dp 4 rfl (op_fld1 fa_30_1 (Ht rfl) rfl) (dq 34 0 rfl (dJ A_28 Z_28 (Ht rfl)) (dp 0 rfl (cX (Ht rfl)) (dp 2 rfl (dJ A_3 Z_3 (Ht rfl)) (dqq 36 2 37 3 rfl (dW (Ht rfl) (Ht rfl) (by omega) (by show _ < 9223372036854775808; first | omega | (simp only [lim]; omega))) (dqq 35 1 38 4 rfl (dZ U_28 Z_27 (Ht rfl) (Ht rfl) rfl (dY (dU (d := []) (by omega)))) (dq 39 5 rfl (dJ A_27 Z_27 (Ht rfl)) (dp 1 rfl (cX (Ht rfl)) (dp 2 rfl (dJ A_3 Z_3 (Ht rfl)) ?_))))))))))
   refine dqq 41 7 42 8 rfl (dW (Ht rfl) (Ht rfl) (by omega) (by show _ < 9223372036854775808; first | omega | (simp only [lim]; omega))) (fW mixed rfl (by kernel_rfl) (aJ (aJ (aJ (aJ (aJ (aJ (aJ (aJ (aJ (aJ (aV (ro rfl (dZ U_27 Z_45 (Ht rfl) (Ht rfl) rfl (dY (dU (d := Qi.zero) (by omega)))) (ro rfl (dJ A_45 Z_45 (Ht rfl)) (gZ Z_45 (Ht rfl) (Ht rfl) rfl (i := 0) rfl (aK rfl) rfl rfl (eX (fG rfl (fZ (fY A_45 Z_45 rfl (i := 0) rfl rfl) ?_))))))))))))))))))
   exact (num_of (by rw [if_neg (by omega), if_pos h4.2]))
  ·have h4 : ¬ (x ≤ i ∧ x ≤ j) := by simpa using h3
   have h5 : Qi.ofInt (0 : Nat) = (if i < x then if j < x then gm a i j else Qi.zero else if x ≤ j then gm b (i - x) (j - x) else Qi.zero) := by
    by_cases e : i < x
    ·rw [if_pos e, if_neg (by omega)]; rfl
    ·rw [if_neg e, if_neg (by omega)]; rfl
   refine cU (T_blk (ts (ro rfl (cZ Tryz.call121 (c_whole (n := 0) (by decide) (by decide)) ⟨(cJ 0), trivial⟩) (gZ Z_45 (Ht rfl) (Ht rfl) rfl (i := 0) rfl (aK rfl) rfl rfl (eX (fG rfl (fZ (fY A_45 Z_45 rfl (i := 0) rfl rfl) ?_)))))))
   exact (num_of h5)
theorem c_Stack {z zb : List Qi} {a b : List (List Qi)} (ha : Shp a z.length z.length) (hb : Shp b zb.length zb.length) (hx : z.length ≤ 100) (hy : zb.length ≤ 100) : Fun Tryz.prog 35 [NetT z a, NetT zb b] (TupT [NetT (stkZ z zb) (stkS z zb a b), IntT .i64 (stkE z.length zb.length)]) := by
 refine Fun.intro Tryz.func35 rfl Tryz.ntmps35 rfl (fun cx => (ts (rn rfl (fK (Ht rfl)) fun B2 => (rn rfl (fK (Ht rfl)) fun B3 => (rn rfl (eG (Ts := [Is (.slice none 0 0), Is (.slice none 0 0)]) O_30 rfl (fun V => aW ⟨rfl, trivial⟩ (aW ⟨rfl, trivial⟩ (aG)))) fun B4 => (ro rfl (cQ (cJ 0)) (eX (cK (Y.D_start (m := 12) [] (bY (Ei := [(2, _)]) rfl rfl (bQ (bJ rfl rfl) bX) rfl rfl (dX rfl (eJ fa_30_0 (Ht rfl) rfl)) (bY (Ei := [(9, _)]) rfl rfl (bQ (bZ 0 rfl rfl) bX) rfl rfl (dX rfl (fQ A_27 Z_27 (Ht rfl) (i := 0) rfl rfl)) ?_)))))))))))
 refine bY (Ei := [(10, _)]) rfl rfl (bQ (bZ 1 rfl rfl) bX) rfl rfl (dX rfl (dG U_27 (Ht rfl) len_map)) (bY (Ei := [(2, _)]) rfl rfl (bQ (bJ rfl rfl) bX) rfl rfl (dX rfl (eJ fa_30_0 (Ht rfl) rfl)) (bY (Ei := [(12, _)]) rfl rfl (bQ (bZ 3 rfl rfl) bX) rfl rfl (dX rfl (fQ A_27 Z_27 (Ht rfl) (i := 0) rfl rfl)) (bY (Ei := [(13, _)]) rfl rfl (bQ (bZ 4 rfl rfl) bX) rfl rfl (dX rfl (dG U_27 (Ht rfl) len_map)) ?_)))
 refine bY (Ei := [(3, _)]) rfl rfl (bQ (bJ rfl rfl) bX) rfl rfl (dX rfl (eJ fa_30_0 (Ht rfl) rfl)) (bY (Ei := [(15, _)]) rfl rfl (bQ (bZ 6 rfl rfl) bX) rfl rfl (dX rfl (fQ A_27 Z_27 (Ht rfl) (i := 1) rfl rfl)) (bY (Ei := [(16, _)]) rfl rfl (bQ (bZ 7 rfl rfl) bX) rfl rfl (dX rfl (dG U_27 (Ht rfl) len_map)) (bY (Ei := [(14, _), (17, _)]) rfl rfl (bQ (bZ 5 rfl rfl) (bQ (bZ 8 rfl rfl) bX)) rfl rfl (dX rfl (dV (Ht rfl) (Ht rfl) (by show _ < 9223372036854775808; first | omega | (simp only [lim]; omega)))) ?_)))
 refine Y.D_newp (Ei := []) (fun bb => box bb 3 [NT .i64 z.length]) 11 rfl rfl rfl bX rfl rfl (by kernel_rfl) (eG (Ts := [Is (.int .i64 0)]) O_3 rfl (fun V => aW ⟨rfl, trivial⟩ (aG))) (Y.D_putN (Ei := [(11, _)]) 10 rfl rfl rfl rfl rfl rfl (bQ (bZ 2 rfl rfl) bX) (fun bb => P_stB Z_3 (Ht rfl) (Ht rfl) (i := 0) rfl (aK rfl) rfl rfl) (Y.D_done mixed rfl (by kernel_rfl) rfl (by simp [Y.okP]) rfl rfl (bU (bU (bU (bU (bU (bU (bU (bU (bU (bU (Y.F_newp (fun B6 => Y.F_putN (Y.F_nil ?_)))))))))))))))
 refine ra rfl (eX (cK (ts (rm rfl (ro rfl (op_gtrN (Ht rfl) (cJ 8)) (eX (dQ (Ht rfl) (fun hb1 => ?_) (fun hb1 => ?_))))))))
 ·have h2 : 8 < z.length + zb.length := by simpa using hb1
  have he := stk_bad h2
  refine ts (ro rfl (OpTy.imp (bld_30_ ) net_nil) (gZ Z_30 (Ht rfl) (Ht rfl) rfl (i := 2) rfl (aK rfl) rfl rfl (ro rfl (cQ (cJ 4)) (eX (T_ret2 rfl (fZ (fY A_30 Z_30 rfl (i := 2) rfl rfl) ?_) (fZ (eY rfl) ?_))))))
  ·exact (fun v V h => by rw [stkZ, stkS, okL, okL, he]; exact h)
  ·exact (int_of he.symm)
 ·have h2 : ¬ 8 < z.length + zb.length := by simpa using hb1
  have he := stk_ok h2
  refine cU (cK (gW (i := 0) (tt := 2) rfl rfl frz_ptr (gW (i := 1) (tt := 3) rfl rfl frz_ptr (gW (i := 3) (tt := 6) rfl rfl frz_ptr1 (cY (rm rfl (ro rfl (op_clos (γ := Fin (z.length + zb.length) × Fin (z.length + zb.length)) (Ts := fun x => [NT .i64 x.1.1, NT .i64 x.2.1]) (U := fun x => NumT (gm (sidM a b z.length zb.length) x.1.1 x.2.1)) Tryz.call120 (fun x => c_Stack1 ha hb hx hy x.1.2 x.2.2) ⟨(Ht rfl), (Ht rfl), (Ht rfl), trivial⟩) (ro rfl (cZ Tryz.call119 (eQ (c_fill (n := z.length + zb.length) (f := fun i j => gm (sidM a b z.length zb.length) i j) (by omega)) (slT_of (congrArg _ (mat_tab (sidM_shp a b z.length zb.length)).symm))) ⟨(Ht rfl), (Ht rfl), trivial⟩) ?_))))))))
  refine ra rfl (eX (ts (ro rfl (op_fld1 fa_30_0 (Ht rfl) rfl) (ro rfl (dJ A_27 Z_27 (Ht rfl)) (ro rfl (op_fld1 fa_30_0 (Ht rfl) rfl) (ro rfl (dJ A_27 Z_27 (Ht rfl)) (ro rfl (op_bslice (xs := [.tmp 26, .tmp 28]) U_28 Z_27 Tryz.zeroValue27 (cW (Ht rfl) (cW (Ht rfl) cG)) rfl rfl rfl) (ro rfl (cZ Tryz.call122 (eQ (c_Concat (ls := [z, zb]) (by simp) (by simp; omega)) (slT_of (Us := (z ++ zb).map NumT) (by simp))) ⟨(Ht rfl), trivial⟩) ?_))))))))
  refine rm rfl (ro rfl (bld_30_0_1 (Ht rfl) (Ht rfl)) (gZ Z_30 (Ht rfl) (Ht rfl) rfl (i := 2) rfl (aK rfl) rfl rfl (ro rfl (cQ (cJ 0)) (eX (T_ret2 rfl (fZ (fY A_30 Z_30 rfl (i := 2) rfl rfl) ?_) (fZ (eY rfl) ?_))))))
  ·exact (fun v V h => by rw [stkZ, stkS, okL, okL, he]; exact h)
  ·exact (int_of he.symm)
theorem c_fresh {z : List Qi} {s : List (List Qi)} {q : Int} {o : List Int} (hl : z.length ≤ 1000) (ho : o.length ≤ 1000) : Fun Tryz.prog 127 [NetT z s, IntT .i64 q, SlT 1 (o.map (IntT .i64))] (IntT .i64 (freshE z.length q o)) := by
 refine Fun.intro Tryz.func127 rfl Tryz.ntmps127 rfl (fun cx => (ts (rn rfl (fK (Ht rfl)) fun B3 => (ro rfl (cQ (cJ 0)) (eX (cK (eK (ts (ro rfl (eW A_30 Z_30 (Ht rfl) (i := 0) rfl rfl rfl) (rm rfl (ro rfl (cZ Tryz.call171 c_has ⟨(Ht rfl), (Ht rfl), trivial⟩) (ro rfl (op_not (Ht rfl)) (ra rfl (eX (dQ (Ht rfl) (fun hb1 => ?_) (fun hb1 => ?_))))))))))))))))
 ·have h2 : ¬ (1 ≤ q ∧ q ≤ (z.length : Int)) := by simpa only [Bool.not_eq_true', decide_eq_false_iff_not] using hb1
  refine ts (ro rfl (cQ (cJ 1)) (eX (fG rfl (fZ (eY rfl) ?_))))
  exact (int_of (if_pos h2).symm)
 ·have h2 : 1 ≤ q ∧ q ≤ (z.length : Int) := by simpa using hb1
  refine ts (rm rfl (rm rfl (ro rfl (cZ Tryz.call178 (c_ContainsInt (l := o) (v := q) (by omega)) ⟨(Ht rfl), (Ht rfl), trivial⟩) (ra rfl (eX (dQ (Ht rfl) (fun hb2 => ?_) (fun hb2 => ?_)))))))
  ·refine ts (ro rfl (cQ (cJ 8)) (eX (fG rfl (fZ (eY rfl) ?_))))
   exact (int_of (by rw [freshE, if_neg (fun k => k h2), if_pos hb2]; rfl))
  ·refine cU (T_blk (ts (ro rfl (cQ (cJ 0)) (eX (fG rfl (fZ (eY rfl) ?_))))))
   exact (int_of (by rw [freshE, if_neg (fun k => k h2), if_neg (by rw [hb2]; decide)]; rfl))
theorem c_Renum {z : List Qi} {s : List (List Qi)} {l : List Int} (hs : Shp s z.length z.length) (hl : z.length ≤ 1000) (hll : l.length ≤ 1000) : Fun Tryz.prog 39 [NetT z s, SlT 1 (l.map (IntT .i64))] (TupT [NetT (rnmZ z l) (rnmS z s l), IntT .i64 (rnmE z.length l)]) := by
 refine Fun.intro Tryz.func39 rfl Tryz.ntmps39 rfl (fun cx => (ts (rn rfl (fK (Ht rfl)) fun B2 => (rn rfl (eG (Ts := [Is (.slice none 0 0), Is (.slice none 0 0)]) O_30 rfl (fun V => aW ⟨rfl, trivial⟩ (aW ⟨rfl, trivial⟩ (aG)))) fun B4 => (ro rfl (cQ (cJ 0)) (eX (cK (ts (rm rfl (ro rfl (dG U_69 (Ht rfl) len_map) (ro rfl (eJ fa_30_0 (Ht rfl) rfl) (ro rfl (fQ A_27 Z_27 (Ht rfl) (i := 0) rfl rfl) (ro rfl (dG U_27 (Ht rfl) len_map) (ro rfl (op_neqN (Ht rfl) (Ht rfl)) ?_))))))))))))))
 refine eX (dQ (Ht rfl) (fun hb1 => ?_) (fun hb1 => ?_))
 ·have h2 : l.length ≠ z.length := by simpa using hb1
  have he := rnm_size h2
  refine ts (ro rfl (OpTy.imp (bld_30_ ) net_nil) (gZ Z_30 (Ht rfl) (Ht rfl) rfl (i := 1) rfl (aK rfl) rfl rfl (ro rfl (cQ (cJ 4)) (eX (T_ret2 rfl (fZ (fY A_30 Z_30 rfl (i := 1) rfl rfl) ?_) (fZ (eY rfl) ?_))))))
  ·exact (fun v V h => by rw [rnmZ, rnmS, okL, okL, he]; exact h)
  ·exact (int_of he.symm)
 ·have h2 : l.length = z.length := by simpa using hb1
  have hok := rnm_ok h2
  refine cU (cK (ts (rm rfl (ro rfl (dG U_69 (Ht rfl) len_map) (ro rfl (cX (cJ 0)) (eX (eK ?_)))))))
  refine T_loop (fun (i : Nat) => i ≤ l.length ∧ ∀ j, j < i → (fun i => freshE z.length (l.getD i 0) (l.take i)) j = 0) (fun (i : Nat) => l.length - i) (fun (i : Nat) => [(1, SlT 1 (l.map (IntT .i64))), (2, PtrB B2 0), (4, PtrB B4 0), (16, SlT 1 (l.map (IntT .i64))), (17, NT .i64 l.length), (18, NT .i64 i)]) (fun (i : Nat) => [box B2 30 [NumsT z, NumM s], box B4 30 [Is (.slice none 0 0), Is (.slice none 0 0)]]) 0 ⟨Nat.zero_le _, fun j h => by omega⟩
   (aQ rfl (aQ rfl (aQ rfl (aQ rfl (aQ rfl (aQ rfl aX)))))) (aU (box_of rfl) (aU (box_of rfl) aY)) (fun i ⟨hi, h0⟩ => ?_)
  refine ts (ro rfl (gJ (Ht rfl) (Ht rfl)) (eX (cK (dQ (Ht rfl) (fun hd => ?_) (fun hd => ?_)))))
  ·have hin : i < l.length := by simp only [decide_eq_true_eq] at hd; omega
   refine cU (cK (eK (ts (rm rfl (ro rfl (dZ U_69 Z_3 (Ht rfl) (Ht rfl) rfl (dY (dU (d := 0) (by omega)))) (ro rfl (dJ A_3 Z_3 (Ht rfl)) (ra rfl (ra rfl (eX (cK (fJ (m := 5) (dp 2 rfl (eW A_30 Z_30 (Ht rfl) (i := 0) rfl rfl rfl) (dp 7 rfl (cX (Ht rfl)) (dp 1 rfl (cX (Ht rfl)) (dp 6 rfl (cX (Ht rfl)) (dqq 25 2 26 3 rfl (op_slice0 U_69 Z_3 (Ht rfl) (Ht rfl) (fun m e => by cases e) (by omega) (by rw [List.length_map]; omega) (Us := (l.take i).map (IntT .i64)) (by rw [Int.toNat_natCast, List.map_take])) ?_))))))))))))))))
   refine fW mixed rfl (by kernel_rfl) (aJ (aJ (aJ (aJ (aJ (aV (ro rfl (cZ Tryz.call127 (c_fresh (q := l.getD i 0) (o := l.take i) hl (by rw [List.length_take]; omega)) ⟨(Ht rfl), (Ht rfl), (Ht rfl), trivial⟩) ?_)))))))
   refine ra rfl (eX (ts (rm rfl (ro rfl (op_neq (Ht rfl) cV) (eX (dQ (Ht rfl) (fun he => ?_) (fun he => ?_)))))))
   ·have h3 : (fun i => freshE z.length (l.getD i 0) (l.take i)) i ≠ 0 := by simpa using he
    have he2 : rnmE z.length l = freshE z.length (l.getD i 0) (l.take i) := hok.trans (firstE_at h0 h3 hin)
    refine ts (ro rfl (OpTy.imp (bld_30_ ) net_nil) (rm rfl (gZ Z_30 (Ht rfl) (Ht rfl) rfl (i := 1) rfl (aK rfl) rfl rfl (ra rfl (eX (T_ret2 rfl (fZ (fY A_30 Z_30 rfl (i := 1) rfl rfl) ?_) (fZ (eY rfl) ?_)))))))
    ·exact (fun v V h => by rw [rnmZ, rnmS, okL, okL, he2, if_neg h3, if_neg h3]; exact h)
    ·exact (int_of he2.symm)
   ·have h3 : (fun i => freshE z.length (l.getD i 0) (l.take i)) i = 0 := by simpa using he
    refine cU (T_blk (cY (ro rfl (dV (Ht rfl) (cJ 1) (by show _ < 9223372036854775808; first | omega | (simp only [lim]; omega))) (rm rfl (eX (T_keep [0, 1] rfl (by decide) ?_))))))
    refine gQ (i + 1) ⟨hin, fun j h => by
      by_cases e : j = i
      ·rw [e]; exact h3
      ·exact h0 j (by omega)⟩ (by omega) (aQ rfl (aQ rfl (aQ rfl (aQ rfl (aQ rfl (aQ rfl aX)))))) (aU (box_of rfl) (aU (box_of rfl) aY))
  ·have hin : i = l.length := by simp only [decide_eq_false_iff_not] at hd; omega
   have h3 : prtE z.length l = 0 := firstE_none (by rw [hin] at h0; exact h0)
   have he : rnmE z.length l = 0 := hok.trans h3
   refine gG rfl (ts (ro rfl (eW A_30 Z_30 (Ht rfl) (i := 0) rfl rfl rfl) (ro rfl (cX (Has.to (Ht rfl) (slT_of (pos_ints h3)))) (R_call0 Tryz.call111 (c_partG (Q := posL l) (m := l.length) hs (pos_lt h3) (posL_len l) hll hl) ⟨(Ht rfl), (Ht rfl), trivial⟩ rfl (fun B36 _ => (gZ Z_30 (Ht rfl) (Ht rfl) rfl (i := 1) rfl (aK rfl) rfl rfl (ro rfl (cQ (cJ 0)) (eX (T_frzcellG 1 2 1 rfl rfl rfl (by decide) (frzM (q := fun _ => True) (M := subM s (posL l)) (by rw [(subM_shp s (posL l)).1, posL_len])) ?_)))))))))
   refine T_ret2 rfl (fZ (fY A_30 Z_30 rfl (i := 1) rfl rfl) ?_) (fZ (eY rfl) ?_)
   ·exact (fun v V h => by rw [rnmZ, rnmS, okL, okL, he]; exact h)
   ·exact (int_of he.symm)
end
section
open Go Go.RowKit
theorem ints_int (O : List Nat) : ((O.map fun (q : Nat) => (q : Int)).map (IntT .i64)) = O.map (NT .i64) := by rw [List.map_map]; rfl
theorem c_RenP {z : List Qi} {s : List (List Qi)} {O : List Nat} (hs : Shp s z.length z.length) (hl : z.length ≤ 1000) (h : Perm1 O z.length) : Fun Tryz.prog 39 [NetT z s, IntsT O] (TupT [NetT (subZ z (posL (O.map fun (q : Nat) => (q : Int)))) (subM s (posL (O.map fun (q : Nat) => (q : Int)))), IntT .i64 0]) := by
 have hO := h.len
 have hr := c_Renum (z := z) (s := s) (l := O.map fun (q : Nat) => (q : Int)) hs hl (by rw [List.length_map, hO]; exact hl)
 have he : rnmE z.length (O.map fun (q : Nat) => (q : Int)) = 0 := (rnm_ok (by rw [List.length_map, hO])).trans (perm_prt h)
 rw [rnmZ, rnmS, he, ints_int] at hr; exact hr
theorem c_NetworkStacks {a b d l0 l1 l2 l3 : Nat} {zl sl zm sm zt st : List Rt} (ha : a < 256) (hb : b < 256) (hd : d < 256) (hl0 : l0 < 256) (hl1 : l1 < 256) (hl2 : l2 < 256) (hl3 : l3 < 256) : Fun Tryz.prog 5 [PartT a zl sl, PartT b zm sm, PartT d zt st, AggT [NT .u8 l0, NT .u8 l1, NT .u8 l2, NT .u8 l3]] (BoolT true) := by
 refine Fun.intro Tryz.func5 rfl Tryz.ntmps5 rfl (fun cx => ?_)
 obtain ⟨h1, h8, hsh, hp⟩ := netErr_ok (pl_err a zl sl)
 obtain ⟨h1b, h8b, hshb, hpb⟩ := netErr_ok (pl_err b zm sm)
 have hn : plN a ≤ 4 := by unfold plN; omega
 have hn2 : plN b ≤ 4 := by unfold plN; omega
 have hzl : ((plZ a zl).map Rt.q).length ≤ 4 := by rw [List.length_map, plZ, tab_len]; exact hn
 have hzl2 : ((plZ b zm).map Rt.q).length ≤ 4 := by rw [List.length_map, plZ, tab_len]; exact hn2
 obtain ⟨z1, hz1⟩ : ∃ z1, z1 = ((plZ a zl).map Rt.q) := ⟨_, rfl⟩
 obtain ⟨z2, hz2⟩ : ∃ z2, z2 = ((plZ b zm).map Rt.q) := ⟨_, rfl⟩
 obtain ⟨s1, hs1⟩ : ∃ s1, s1 = (rq (plS a sl)) := ⟨_, rfl⟩
 obtain ⟨s2, hs2⟩ : ∃ s2, s2 = (rq (plS b sm)) := ⟨_, rfl⟩
 have f1 : FitL z1 2 := by rw [hz1]; exact FitL.rt
 have f2 : FitL z2 2 := by rw [hz2]; exact FitL.rt
 have f3 : FitM s1 2 := by rw [hs1]; exact FitM.rt
 have f4 : FitM s2 2 := by rw [hs2]; exact FitM.rt
 have hB1 := c_Build (a := a) (zl := zl) (sl := sl) ha
 have hB2 := c_Build (a := b) (zl := zm) (sl := sm) hb
 rw [← hz1] at h1 h8 hsh hzl hp
 rw [← hs1] at hsh
 rw [← hz2] at h1b h8b hshb hzl2 hpb
 rw [← hs2] at hshb
 rw [← hz1, ← hs1] at hB1
 rw [← hz2, ← hs2] at hB2
 obtain ⟨h1c, h8c, hshc, hpc⟩ := netErr_ok (pl_err d zt st)
 have hn3 : plN d ≤ 4 := by unfold plN; omega
 have hzl3 : ((plZ d zt).map Rt.q).length ≤ 4 := by rw [List.length_map, plZ, tab_len]; exact hn3
 obtain ⟨z3, hz3⟩ : ∃ z3, z3 = ((plZ d zt).map Rt.q) := ⟨_, rfl⟩
 obtain ⟨s3, hs3⟩ : ∃ s3, s3 = (rq (plS d st)) := ⟨_, rfl⟩
 have f5 : FitL z3 2 := by rw [hz3]; exact FitL.rt
 have f6 : FitM s3 2 := by rw [hs3]; exact FitM.rt
 have hB3 := c_Build (a := d) (zl := zt) (sl := st) hd
 rw [← hz3] at h1c h8c hshc hzl3
 rw [← hs3] at hshc
 rw [← hz3, ← hs3] at hB3
 have hk12 := stk_ok (x := z1.length) (y := z2.length) (by omega)
 have hk23 := stk_ok (x := z2.length) (y := z3.length) (by omega)
 have hc12 := c_Stack (z := z1) (zb := z2) hsh hshb (by omega) (by omega)
 have hc23 := c_Stack (z := z2) (zb := z3) hshb hshc (by omega) (by omega)
 rw [stkZ, stkS, hk12] at hc12
 rw [stkZ, stkS, hk23] at hc23
 obtain ⟨zx, hzx⟩ : ∃ zx, zx = z1 ++ z2 := ⟨_, rfl⟩
 obtain ⟨zy, hzy⟩ : ∃ zy, zy = z2 ++ z3 := ⟨_, rfl⟩
 obtain ⟨sx, hsx⟩ : ∃ sx, sx = sidM s1 s2 z1.length z2.length := ⟨_, rfl⟩
 obtain ⟨sy, hsy⟩ : ∃ sy, sy = sidM s2 s3 z2.length z3.length := ⟨_, rfl⟩
 have hxl : zx.length = z1.length + z2.length := by rw [hzx, List.length_append]
 have hyl : zy.length = z2.length + z3.length := by rw [hzy, List.length_append]
 have hxs : Shp sx zx.length zx.length := by rw [hxl, hsx]; exact sidM_shp _ _ _ _
 have hys : Shp sy zy.length zy.length := by rw [hyl, hsy]; exact sidM_shp _ _ _ _
 have fx : FitM sx 2 := by rw [hsx]; exact sidM_fit f3 f4 (by decide)
 have fxz : FitL zx 2 := by rw [hzx]; exact fitL_app f1 f2
 have hcx : Fun Tryz.prog 35 [NetT z1 s1, NetT z2 s2] (TupT [NetT zx sx, IntT .i64 0]) := by rw [hzx, hsx]; exact hc12
 have hcy : Fun Tryz.prog 35 [NetT z2 s2, NetT z3 s3] (TupT [NetT zy sy, IntT .i64 0]) := by rw [hzy, hsy]; exact hc23
 have hcu := c_Stack (z := zx) (zb := z3) hxs hshc (by omega) (by omega)
 have hcv := c_Stack (z := z1) (zb := zy) hsh hys (by omega) (by omega)
 have eE : stkE z1.length zy.length = stkE zx.length z3.length := by rw [hxl, hyl, stkE, stkE, Nat.add_assoc]
 have eZ : stkZ z1 zy = stkZ zx z3 := by rw [stkZ, stkZ, eE, hzx, hzy, List.append_assoc]
 have eS : stkS z1 zy s1 sy = stkS zx z3 sx s3 := by rw [stkS, stkS, eE, hxl, hyl, hsx, hsy, sid_assoc]
 rw [eE, eZ, eS] at hcv
 obtain ⟨tU, tUl⟩ := stk_shp zx z3 sx s3
 have fU := stk_fitZ fxz f5
 have fUs := stk_fitS (z := zx) (zb := z3) fx f6 (by decide)
 obtain ⟨ZU, hZU⟩ : ∃ ZU, ZU = stkZ zx z3 := ⟨_, rfl⟩
 obtain ⟨SU, hSU⟩ : ∃ SU, SU = stkS zx z3 sx s3 := ⟨_, rfl⟩
 obtain ⟨EU, hEU⟩ : ∃ EU, EU = stkE zx.length z3.length := ⟨_, rfl⟩
 rw [← hZU, ← hSU, ← hEU] at hcu hcv
 rw [← hZU, ← hSU] at tU
 rw [← hZU] at tUl fU
 rw [← hSU] at fUs
 refine ts (rn rfl (fK (Ht rfl)) fun B4 => (rn rfl (fK (Ht rfl)) fun B5 => (rn rfl (fK (Ht rfl)) fun B6 => (rn rfl (fK (Ht rfl)) fun B7 => (ro rfl (cQ cV) (eX (ts (ro rfl (eW Tryz.isAgg24 Tryz.sizeOf24 (Ht rfl) (i := 0) rfl rfl rfl) (ro rfl (cZ Tryz.call16 hB1 ⟨(Ht rfl), trivial⟩) (rm rfl (ro rfl (dK (Ht rfl) rfl) (ro rfl (dK (Ht rfl) rfl) (ro rfl (dK (Ht rfl) rfl) (rn rfl (eG (Ts := [Is (.slice none 0 0), Is (.slice none 0 0)]) O_30 rfl (fun V => aW ⟨rfl, trivial⟩ (aW ⟨rfl, trivial⟩ (aG)))) fun B9 => ?_))))))))))))))
 refine rn rfl (eG (Ts := [Is (.slice none 0 0), Is (.slice none 0 0)]) O_34 rfl (fun V => aW ⟨rfl, trivial⟩ (aW ⟨rfl, trivial⟩ (aG)))) fun B10 => gZ Z_30 (Ht rfl) (Ht rfl) rfl (i := 4) rfl (aK rfl) rfl rfl (gZ Z_34 (Ht rfl) (Ht rfl) rfl (i := 5) rfl (aK rfl) rfl rfl (ra rfl (eX (cK (T_keep [0, 1, 2, 3, 4, 5] rfl (by decide) (cY (ro rfl (eW Tryz.isAgg24 Tryz.sizeOf24 (Ht rfl) (i := 1) rfl rfl rfl) (ro rfl (cZ Tryz.call16 hB2 ⟨(Ht rfl), trivial⟩) (rm rfl (ro rfl (dK (Ht rfl) rfl) ?_))))))))))
 refine ro rfl (dK (Ht rfl) rfl) (ro rfl (dK (Ht rfl) rfl) (rn rfl (eG (Ts := [Is (.slice none 0 0), Is (.slice none 0 0)]) O_30 rfl (fun V => aW ⟨rfl, trivial⟩ (aW ⟨rfl, trivial⟩ (aG)))) fun B12 => (rn rfl (eG (Ts := [Is (.slice none 0 0), Is (.slice none 0 0)]) O_34 rfl (fun V => aW ⟨rfl, trivial⟩ (aW ⟨rfl, trivial⟩ (aG)))) fun B13 => (gZ Z_30 (Ht rfl) (Ht rfl) rfl (i := 6) rfl (aK rfl) rfl rfl (gZ Z_34 (Ht rfl) (Ht rfl) rfl (i := 7) rfl (aK rfl) rfl rfl ?_)))))
 refine ra rfl (eX (cK (T_keep [0, 1, 2, 3, 4, 5, 6, 7] rfl (by decide) (cY (ro rfl (eW Tryz.isAgg24 Tryz.sizeOf24 (Ht rfl) (i := 2) rfl rfl rfl) (ro rfl (cZ Tryz.call16 hB3 ⟨(Ht rfl), trivial⟩) (rm rfl (ro rfl (dK (Ht rfl) rfl) (ro rfl (dK (Ht rfl) rfl) (ro rfl (dK (Ht rfl) rfl) (rn rfl (eG (Ts := [Is (.slice none 0 0), Is (.slice none 0 0)]) O_30 rfl (fun V => aW ⟨rfl, trivial⟩ (aW ⟨rfl, trivial⟩ (aG)))) fun B15 => (rn rfl (eG (Ts := [Is (.slice none 0 0), Is (.slice none 0 0)]) O_34 rfl (fun V => aW ⟨rfl, trivial⟩ (aW ⟨rfl, trivial⟩ (aG)))) fun B16 => ?_))))))))))))
 refine gZ Z_30 (Ht rfl) (Ht rfl) rfl (i := 8) rfl (aK rfl) rfl rfl (gZ Z_34 (Ht rfl) (Ht rfl) rfl (i := 9) rfl (aK rfl) rfl rfl (ra rfl (eX (cK (cK (T_keep [0, 1, 2, 3, 4, 5, 6, 7, 8, 9] rfl (by decide) (cY (rm rfl (ro rfl (op_not (Ht rfl)) (rm rfl (fX rfl rfl (eU rfl rfl (Ht rfl) (fun h => cX (Ht rfl))) (fX rfl rfl (eU rfl rfl (Ht rfl) (fun h => op_not (fV rfl h))) (ro rfl (op_or (Ht rfl) (fun h => (fV rfl h))) (rm rfl (fX rfl rfl (eU rfl rfl (Ht rfl) (fun h => cX (Ht rfl))) ?_)))))))))))))))
 refine fX rfl rfl (eU rfl rfl (Ht rfl) (fun h => op_not (fV rfl h))) (ro rfl (op_or (Ht rfl) (fun h => (fV rfl h))) (eX (T_condF (Ht rfl) (by rfl) ?_)))
 refine cU (cK (T_keep [0, 1, 2, 3, 4, 5, 6, 7, 8, 9] rfl (by decide) (cY (ro rfl (eW A_30 Z_30 (Ht rfl) (i := 4) rfl rfl rfl) (ro rfl (eW A_30 Z_30 (Ht rfl) (i := 6) rfl rfl rfl) (ro rfl (cZ Tryz.call35 hcx ⟨(Ht rfl), (Ht rfl), trivial⟩) (rm rfl (ro rfl (dK (Ht rfl) rfl) (ro rfl (dK (Ht rfl) rfl) (rn rfl (eG (Ts := [Is (.slice none 0 0), Is (.slice none 0 0)]) O_30 rfl (fun V => aW ⟨rfl, trivial⟩ (aW ⟨rfl, trivial⟩ (aG)))) fun B18 => (gZ Z_30 (Ht rfl) (Ht rfl) rfl (i := 10) rfl (aK rfl) rfl rfl ?_)))))))))))
 refine ra rfl (eX (cK (T_keep [0, 1, 2, 3, 4, 5, 6, 7, 8, 9, 10] rfl (by decide) (cY (ro rfl (eW A_30 Z_30 (Ht rfl) (i := 6) rfl rfl rfl) (ro rfl (eW A_30 Z_30 (Ht rfl) (i := 8) rfl rfl rfl) (ro rfl (cZ Tryz.call35 hcy ⟨(Ht rfl), (Ht rfl), trivial⟩) (rm rfl (ro rfl (dK (Ht rfl) rfl) (ro rfl (dK (Ht rfl) rfl) (rn rfl (eG (Ts := [Is (.slice none 0 0), Is (.slice none 0 0)]) O_30 rfl (fun V => aW ⟨rfl, trivial⟩ (aW ⟨rfl, trivial⟩ (aG)))) fun B20 => (gZ Z_30 (Ht rfl) (Ht rfl) rfl (i := 11) rfl (aK rfl) rfl rfl ?_))))))))))))
 refine ra rfl (eX (cK (T_keep [0, 1, 2, 3, 4, 5, 6, 7, 8, 9, 10, 11] rfl (by decide) (cY (ro rfl (eW A_30 Z_30 (Ht rfl) (i := 10) rfl rfl rfl) (ro rfl (eW A_30 Z_30 (Ht rfl) (i := 8) rfl rfl rfl) (ro rfl (cZ Tryz.call35 hcu ⟨(Ht rfl), (Ht rfl), trivial⟩) (rm rfl (ro rfl (dK (Ht rfl) rfl) (ro rfl (dK (Ht rfl) rfl) (rn rfl (eG (Ts := [Is (.slice none 0 0), Is (.slice none 0 0)]) O_30 rfl (fun V => aW ⟨rfl, trivial⟩ (aW ⟨rfl, trivial⟩ (aG)))) fun B22 => (gZ Z_30 (Ht rfl) (Ht rfl) rfl (i := 12) rfl (aK rfl) rfl rfl ?_))))))))))))
 refine ra rfl (eX (cK (T_keep [0, 1, 2, 3, 4, 5, 6, 7, 8, 9, 10, 11, 12] rfl (by decide) (cY (ro rfl (eW A_30 Z_30 (Ht rfl) (i := 4) rfl rfl rfl) (ro rfl (eW A_30 Z_30 (Ht rfl) (i := 11) rfl rfl rfl) (ro rfl (cZ Tryz.call35 hcv ⟨(Ht rfl), (Ht rfl), trivial⟩) (rm rfl (ro rfl (dK (Ht rfl) rfl) (ro rfl (dK (Ht rfl) rfl) (rn rfl (eG (Ts := [Is (.slice none 0 0), Is (.slice none 0 0)]) O_30 rfl (fun V => aW ⟨rfl, trivial⟩ (aW ⟨rfl, trivial⟩ (aG)))) fun B24 => (gZ Z_30 (Ht rfl) (Ht rfl) rfl (i := 13) rfl (aK rfl) rfl rfl ?_))))))))))))
 refine ra rfl (eX (cK (cK (T_keep [0, 1, 2, 3, 4, 5, 6, 7, 8, 9, 10, 11, 12, 13] rfl (by decide) (cY (rm rfl (ro rfl (op_neq (Ht rfl) cV) (rm rfl (fX rfl rfl (eU rfl rfl (Ht rfl) (fun h => cX (Ht rfl))) (fX rfl rfl (eU rfl rfl (Ht rfl) (fun h => op_neq (fV rfl h) cV)) (ro rfl (op_or (Ht rfl) (fun h => (fV rfl h))) (rm rfl (fX rfl rfl (eU rfl rfl (Ht rfl) (fun h => cX (Ht rfl))) (fX rfl rfl (eU rfl rfl (Ht rfl) (fun h => cX (Ht rfl))) (fX rfl rfl (eU rfl rfl (Ht rfl) (fun h => op_neq (fV rfl h) (fV rfl h))) ?_)))))))))))))))
 refine ro rfl (op_or (Ht rfl) (fun h => (fV rfl h))) (rm rfl (fX rfl rfl (eU rfl rfl (Ht rfl) (fun h => eW A_30 Z_30 (Ht rfl) (i := 12) rfl rfl rfl)) (fX rfl rfl (eU rfl rfl (Ht rfl) (fun h => eW A_30 Z_30 (Ht rfl) (i := 13) rfl rfl rfl)) (fX rfl rfl (eU rfl rfl (Ht rfl) (fun h => cZ Tryz.call36 (c_netEqual (L := 2) fU fU fUs fUs (by decide) (by decide) tU tU (by omega) (by omega)) ⟨(fV rfl h), (fV rfl h), trivial⟩)) (fX rfl rfl (eU rfl rfl (Ht rfl) (fun h => op_not (fV rfl h))) (ro rfl (op_or (Ht rfl) (fun h => (fV rfl h))) ?_))))))
 refine eX (T_condF (Ht rfl) (by simp [netEq_refl]) ?_)
 refine cU (cK (cK (T_keep [0, 1, 2, 3, 4, 5, 6, 7, 8, 9, 10, 11, 12, 13] rfl (by decide) (cY (ro rfl (eW A_30 Z_30 (Ht rfl) (i := 10) rfl rfl rfl) (ro rfl (cZ K_37 c_Ports ⟨(Ht rfl), trivial⟩) (ro rfl (gJ (Ht rfl) (cJ 4)) (eX (dQ (Ht rfl) (fun hq => ?_) (fun hq => ?_))))))))))
 ·refine ts (ro rfl (cZ Tryz.call15 c_awake4 trivial) (ra rfl (eX ?_)))
  exact fG rfl (eY rfl)
 ·have hn4 : 4 ≤ zx.length := by simp only [decide_eq_false_iff_not] at hq; omega
  obtain ⟨l, hl⟩ : ∃ l, l = (l4 l0 l1 l2 l3) := ⟨_, rfl⟩
  have hF4 := c_four (n := zx.length) (a := l0) (b := l1) (c := l2) (d := l3) hn4 (by omega) hl0 hl1 hl2 hl3
  rw [← hl] at hF4
  have hO : Perm1 (ordL zx.length l zx.length) zx.length := ord_perm hn4
  have hff : (fFour zx.length l).map (NT .i64) = tab 4 fun i => NT .i64 (fOut zx.length l i) := by rw [fFour, tab_map]
  refine cU (cK (fJ (m := 5) (dp 18 rfl (eW A_30 Z_30 (Ht rfl) (i := 10) rfl rfl rfl) (dq 109 0 rfl (cZ K_37 c_Ports ⟨(Ht rfl), trivial⟩) (dp 7 rfl (eW Tryz.isAgg63 Tryz.sizeOf63 (Ht rfl) (i := 3) rfl rfl rfl) (dqq 110 1 111 2 rfl (cZ Tryz.call38 hF4 ⟨(Ht rfl), (Ht rfl), trivial⟩) (C.D_new (Ei := []) rfl rfl rfl bW (eG (Ts := [Is (.int .i64 0), Is (.int .i64 0), Is (.int .i64 0), Is (.int .i64 0)]) Tryz.zeroValue67 rfl (fun V => aW ⟨rfl, trivial⟩ (aW ⟨rfl, trivial⟩ (aW ⟨rfl, trivial⟩ (aW ⟨rfl, trivial⟩ (aG)))))) ?_)))))))
  refine fW mixed rfl (by kernel_rfl) (aJ (aJ (aJ (aJ (C.F_new (fun B26 => aV (gZ Tryz.sizeOf67 (Ht rfl) (Ht rfl) rfl (i := 14) rfl (aK rfl) rfl rfl (eX (cK (gW (i := 14) (tt := 26) rfl rfl frz_ptr (fJ (m := 5) (dp 26 rfl (op_sliceA U_67 Z_3 (Ht rfl) rfl) (dp 18 rfl (eW A_30 Z_30 (Ht rfl) (i := 10) rfl rfl rfl) (dq 114 1 rfl (cZ K_37 c_Ports ⟨(Ht rfl), trivial⟩) (C.D_new (Ei := [(115, _)]) rfl rfl rfl (bV (bG 2 rfl rfl) bW) (new_makeO (T := NT .i64 0) (i := Tryz.t3) und_69 info_3 rfl rfl (Ht rfl) rfl (fun V => rfl) El.one (by show 8 * _ ≤ _; omega) (by omega)) ?_)))))))))))))))
  refine dq 113 0 rfl (cQ (Ht rfl)) (fW mixed rfl (by kernel_rfl) (aJ (aJ (aJ (C.F_new (fun B116 => aJ (aV (ra rfl (eX (cK (ts (ro rfl (cQ (cJ 1)) (eX (eK (T_keep [10, 15] rfl (by decide) ?_)))))))))))))))
  refine T_loop (fun (m : Nat) => m ≤ zx.length) (fun (m : Nat) => zx.length - m) (fun (m : Nat) => [(18, PtrB B18 0), (26, PT (AggT (tab 4 fun i => NT .i64 (fOut zx.length l i)))), (27, IntsT (ordL zx.length l m)), (28, Is B116), (29, NT .i64 (m + 1))]) (fun (m : Nat) => [box B18 30 [NumsT zx, NumM sx], rowO 3 1 B116 ((bkL (ordL zx.length l zx.length) zx.length 0).map (NT .i64))]) 0 (Nat.zero_le _)
   (aQ rfl (aQ rfl (aZ rfl (slT_of hff.symm) (aQ rfl (aQ rfl aX))))) (aU (box_of rfl) (aU (rowO_of (by rw [bkL, tab_map]; exact rep_tab _ _)) aY)) (fun m hm => ?_)
  refine cK (ts (rm rfl (ro rfl (eW A_30 Z_30 (Ht rfl) (i := 0) rfl rfl rfl) (ro rfl (cZ K_37 c_Ports ⟨(Ht rfl), trivial⟩) (ro rfl (op_leqN (Ht rfl) (Ht rfl)) (eX (dQ (Ht rfl) (fun he => ?_) (fun he => ?_))))))))
  ·have hmn : m < zx.length := by simp only [decide_eq_true_eq] at he; omega
   have hol : (ordL zx.length l m).length ≤ 4 + m := by
    clear he hmn hm
    induction m with
    | zero => show (fFour zx.length l).length ≤ 4; rw [fFour, tab_len]; exact Nat.le_refl 4
    | succ m ih => rw [ordL, List.length_append]; split <;> simp <;> omega
   refine cU (cK (eK (ts (rm rfl (ro rfl (op_idxA U_67 Z_3 (Ht rfl) cV rfl (by decide) rfl) (ro rfl (dJ A_3 Z_3 (Ht rfl)) (ro rfl (op_neqN (Ht rfl) (Ht rfl)) (rm rfl (fX rfl rfl (eU rfl rfl (Ht rfl) (fun h => cX (Ht rfl))) (fX rfl rfl (eU rfl rfl (Ht rfl) (fun h => op_idxA U_67 Z_3 (Ht rfl) cV rfl (by decide) rfl)) (fX rfl rfl (eU rfl rfl (Ht rfl) (fun h => dJ A_3 Z_3 (fV rfl h))) (fX rfl rfl (eU rfl rfl (Ht rfl) (fun h => op_neqN (fV rfl h) (fV rfl h))) ?_))))))))))))
   refine ro rfl (op_and (Ht rfl) (fun h => (fV rfl h))) (rm rfl (fX rfl rfl (eU rfl rfl (Ht rfl) (fun h => cX (Ht rfl))) (fX rfl rfl (eU rfl rfl (Ht rfl) (fun h => op_idxA U_67 Z_3 (Ht rfl) cV rfl (by decide) rfl)) (fX rfl rfl (eU rfl rfl (Ht rfl) (fun h => dJ A_3 Z_3 (fV rfl h))) (fX rfl rfl (eU rfl rfl (Ht rfl) (fun h => op_neqN (fV rfl h) (fV rfl h))) (ro rfl (op_and (Ht rfl) (fun h => (fV rfl h))) (rm rfl (fX rfl rfl (eU rfl rfl (Ht rfl) (fun h => cX (Ht rfl))) (fX rfl rfl (eU rfl rfl (Ht rfl) (fun h => op_idxA U_67 Z_3 (Ht rfl) cV rfl (by decide) rfl)) ?_)))))))))
   refine fX rfl rfl (eU rfl rfl (Ht rfl) (fun h => dJ A_3 Z_3 (fV rfl h))) (fX rfl rfl (eU rfl rfl (Ht rfl) (fun h => op_neqN (fV rfl h) (fV rfl h))) (ro rfl (op_and (Ht rfl) (fun h => (fV rfl h))) (eX (dQ (Ht rfl) (fun hg => ?_) (fun hg => ?_)))))
   ·have hmm : m + 1 ∈ fFour zx.length l ↔ (m + 1 = fOut zx.length l 0 ∨ m + 1 = fOut zx.length l 1 ∨ m + 1 = fOut zx.length l 2 ∨ m + 1 = fOut zx.length l 3) := by show m + 1 ∈ [fOut zx.length l 0, fOut zx.length l 1, fOut zx.length l 2, fOut zx.length l 3] ↔ _; simp
    have hno : ¬ (m + 1 ∈ fFour zx.length l) := by rw [hmm]; simpa [and_assoc] using hg
    have hnx : ordL zx.length l (m + 1) = ordL zx.length l m ++ [m + 1] := by rw [ordL, if_neg hno]
    refine cY (rn rfl (new_bslice0 U_69 Z_3 O_3) fun B145 => (rm rfl (R_appendA (inf := Tryz.t3) und_69 info_3 rfl rfl rfl (Ht rfl) (Ht rfl) (i := 2) rfl (fun T hT => by obtain ⟨x, _, rfl⟩ := List.mem_map.1 hT; exact El.one) (by show _ * 8 ≤ _; simp only [List.length_map, List.length_append, List.length_cons, List.length_nil]; omega) (by simp only [List.length_map, List.length_append, List.length_cons, List.length_nil]; omega) rfl (fun v147 => ?_))))
    refine rm rfl (ro rfl (op_bslice (xs := [.tmp 148]) U_69 Z_3 O_3 (cW (Ht rfl) cG) rfl rfl rfl) (R_append (inf := Tryz.t3) und_69 info_3 rfl rfl rfl (Ht rfl) (Ht rfl) (i := 2) rfl (by simp) (fun T hT => by simp at hT; subst hT; exact El.one) (by show _ * 8 ≤ _; simp only [List.length_map, List.length_append, List.length_cons, List.length_nil]; omega) (by simp only [List.length_map, List.length_append, List.length_cons, List.length_nil]; omega) rfl (fun v150 => ?_)))
    refine ra rfl (eX (T_blk (T_conv 2 rfl (rowO_of (e := 3) (s := 1) (by rw [hnx, List.map_append]; rfl : _ = (ordL zx.length l (m + 1)).map (NT .i64))) ?_)))
    refine gW (i := 2) (tt := 27) rfl rfl frz_row (cY (rm rfl (ro rfl (dV (Ht rfl) (cJ 1) (by show _ < 9223372036854775808; first | omega | (simp only [lim]; omega))) (ra rfl (eX (T_keep [0, 1] rfl (by decide) (gQ (m + 1) hmn (by omega) (aQ rfl (aQ rfl (aQ rfl (aQ rfl (aQ rfl aX))))) (aU (box_of rfl) (aU (fun _ _ _ h => h) aY)))))))))
   ·have hmm : m + 1 ∈ fFour zx.length l ↔ (m + 1 = fOut zx.length l 0 ∨ m + 1 = fOut zx.length l 1 ∨ m + 1 = fOut zx.length l 2 ∨ m + 1 = fOut zx.length l 3) := by show m + 1 ∈ [fOut zx.length l 0, fOut zx.length l 1, fOut zx.length l 2, fOut zx.length l 3] ↔ _; simp
    have hyes : m + 1 ∈ fFour zx.length l := by
     rw [hmm]
     by_cases q0 : m + 1 = fOut zx.length l 0
     ·exact .inl q0
     ·by_cases q1 : m + 1 = fOut zx.length l 1
      ·exact .inr (.inl q1)
      ·by_cases q2 : m + 1 = fOut zx.length l 2
       ·exact .inr (.inr (.inl q2))
       ·by_cases q3 : m + 1 = fOut zx.length l 3
        ·exact .inr (.inr (.inr q3))
        ·simp [q0, q1, q2, q3] at hg
    have hnx : ordL zx.length l (m + 1) = ordL zx.length l m := by rw [ordL, if_pos hyes, List.append_nil]
    refine cU (T_blk (cY (rm rfl (ro rfl (dV (Ht rfl) (cJ 1) (by show _ < 9223372036854775808; first | omega | (simp only [lim]; omega))) (ra rfl (eX (gQ (m + 1) hmn (by omega) (aQ rfl (aQ rfl (aZ rfl (slT_of (by rw [hnx])) (aQ rfl (aQ rfl aX))))) (aU (box_of rfl) (aU (fun _ _ _ h => h) aY)))))))))
  ·obtain rfl : m = zx.length := by simp only [decide_eq_false_iff_not] at he; omega
   have hOl := hO.len
   have hB := back_perm hO
   have hq1 := c_RenP (z := zx) (s := sx) hxs (by omega) hO
   obtain ⟨zr, hzr⟩ : ∃ zr, zr = subZ zx (posL ((ordL zx.length l zx.length).map fun (q : Nat) => (q : Int))) := ⟨_, rfl⟩
   obtain ⟨sr, hsr⟩ : ∃ sr, sr = subM sx (posL ((ordL zx.length l zx.length).map fun (q : Nat) => (q : Int))) := ⟨_, rfl⟩
   have hzrl : zr.length = zx.length := by rw [hzr, subZ_len, posL_len, List.length_map, hOl]
   have hsrs : Shp sr zr.length zr.length := by
    have h := subM_shp sx (posL ((ordL zx.length l zx.length).map fun (q : Nat) => (q : Int)))
    rw [posL_len, List.length_map, hOl] at h
    rw [hzrl, hsr]; exact h
   have hq2 := c_RenP (z := zr) (s := sr) (O := bkL (ordL zx.length l zx.length) zx.length zx.length) hsrs (by omega) (by rw [hzrl]; exact hB)
   have e1 : subZ zr (posL ((bkL (ordL zx.length l zx.length) zx.length zx.length).map fun (q : Nat) => (q : Int))) = zx := by rw [hzr]; exact back_z hO rfl
   have e2 : subM sr (posL ((bkL (ordL zx.length l zx.length) zx.length zx.length).map fun (q : Nat) => (q : Int))) = sx := by rw [hsr]; exact back_s hO hxs
   rw [e1, e2] at hq2
   rw [← hzr, ← hsr] at hq1
   obtain ⟨O, hOe⟩ : ∃ O, O = ordL zx.length l zx.length := ⟨_, rfl⟩
   rw [← hOe] at hO hOl hB hq1 hq2 ⊢
   refine gG rfl (cK (ts (rm rfl (ro rfl (dG U_69 (Ht rfl) (by rw [List.length_map, hOl])) ?_))))
   refine ro rfl (cX (cJ 0)) (eX (eK ?_))
   refine T_loop (fun (i : Nat) => i ≤ zx.length) (fun (i : Nat) => zx.length - i) (fun (i : Nat) => [(18, PtrB B18 0), (27, IntsT O), (28, Is B116), (151, IntsT O), (152, NT .i64 zx.length), (153, NT .i64 i)]) (fun (i : Nat) => [box B18 30 [NumsT zx, NumM sx], rowO 3 1 B116 ((bkL O zx.length i).map (NT .i64))]) 0 (Nat.zero_le _)
    (aQ rfl (aQ rfl (aQ rfl (aQ rfl (aQ rfl (aQ rfl aX)))))) (aU (box_of rfl) (aU (fun _ _ _ h => h) aY)) (fun i hi => ?_)
   refine ts (ro rfl (gJ (Ht rfl) (Ht rfl)) (eX (cK (dQ (Ht rfl) (fun hf => ?_) (fun hf => ?_)))))
   ·have hin : i < zx.length := by simp only [decide_eq_true_eq] at hf; omega
    have hoi := hO.at hin
    have hbl := bkL_len O zx.length i
    refine cU (cK (eK (ts (rm rfl (ro rfl (dZ U_69 Z_3 (Ht rfl) (Ht rfl) rfl (dY (dU (d := 0) (by omega)))) (ro rfl (dJ A_3 Z_3 (Ht rfl)) (ra rfl (ra rfl (eX (cY (rm rfl (rm rfl (ro rfl (dW (Ht rfl) (cJ 1) (by omega) (by show _ < 9223372036854775808; first | omega | (simp only [lim]; omega))) (rm rfl (ro rfl (dV (Ht rfl) (cJ 1) (by show _ < 9223372036854775808; first | omega | (simp only [lim]; omega))) (ro rfl (op_idxO U_69 Z_3 (Ht rfl) (Ht rfl) rfl (i := 1) rfl (by rw [List.length_map, hbl]; omega) rfl) ?_))))))))))))))))
    refine R_stO Z_3 (Ht rfl) (Ht rfl) El.one (i := 1) rfl rfl (by rw [List.length_map, hbl]; omega) rfl ?_
    refine eX (T_blk (cY (ro rfl (dV (Ht rfl) (cJ 1) (by show _ < 9223372036854775808; first | omega | (simp only [lim]; omega))) (rm rfl (eX (gQ (i + 1) hin (by omega) (aQ rfl (aQ rfl (aQ rfl (aQ rfl (aQ rfl (aQ rfl aX)))))) (aU (box_of rfl) (aU (rowO_of (by rw [set_mapF]; rfl)) aY))))))))
   ·obtain rfl : i = zx.length := by simp only [decide_eq_false_iff_not] at hf; omega
    refine gG rfl (cK (gW (i := 1) (tt := 28) rfl rfl frz_row (T_keep [0] rfl (by decide) (cY (ro rfl (eW A_30 Z_30 (Ht rfl) (i := 0) rfl rfl rfl) (rm rfl (ro rfl (cZ Tryz.call39 hq1 ⟨(Ht rfl), (Ht rfl), trivial⟩) (rm rfl (ro rfl (dK (Ht rfl) rfl) (ro rfl (dK (Ht rfl) rfl) (rn rfl (eG (Ts := [Is (.slice none 0 0), Is (.slice none 0 0)]) O_30 rfl (fun V => aW ⟨rfl, trivial⟩ (aW ⟨rfl, trivial⟩ (aG)))) fun B32 => (gZ Z_30 (Ht rfl) (Ht rfl) rfl (i := 1) rfl (aK rfl) rfl rfl ?_))))))))))))
    refine ra rfl (eX (cK (T_keep [0, 1] rfl (by decide) (cY (ro rfl (eW A_30 Z_30 (Ht rfl) (i := 1) rfl rfl rfl) (rm rfl (ro rfl (cZ Tryz.call39 hq2 ⟨(Ht rfl), (Ht rfl), trivial⟩) (rm rfl (ro rfl (dK (Ht rfl) rfl) (ro rfl (dK (Ht rfl) rfl) (rn rfl (eG (Ts := [Is (.slice none 0 0), Is (.slice none 0 0)]) O_30 rfl (fun V => aW ⟨rfl, trivial⟩ (aW ⟨rfl, trivial⟩ (aG)))) fun B34 => (gZ Z_30 (Ht rfl) (Ht rfl) rfl (i := 2) rfl (aK rfl) rfl rfl (ra rfl (eX (cK ?_)))))))))))))))
    refine T_keep [0, 1, 2] rfl (by decide) (cY (rm rfl (ro rfl (op_eql (Ht rfl) cV) (rm rfl (fX rfl rfl (eU rfl rfl (Ht rfl) (fun h => eW A_30 Z_30 (Ht rfl) (i := 2) rfl rfl rfl)) (fX rfl rfl (eU rfl rfl (Ht rfl) (fun h => cX (Ht rfl))) (fX rfl rfl (eU rfl rfl (Ht rfl) (fun h => eW A_30 Z_30 (Ht rfl) (i := 0) rfl rfl rfl)) (fX rfl rfl (eU rfl rfl (Ht rfl) (fun h => cZ Tryz.call40 (c_same (L := 2) fxz fxz fx fx (by decide) (by decide) hxs hxs (by omega) (by omega)) ⟨(fV rfl h), (fV rfl h), (fV rfl h), (cJ 0), trivial⟩)) ?_))))))))
    refine ro rfl (op_and (Ht rfl) (fun h => (fV rfl h))) (rm rfl (fX rfl rfl (eU rfl rfl (Ht rfl) (fun h => cZ Tryz.call15 c_awake4 trivial)) (ro rfl (op_and (Ht rfl) (fun h => (fV rfl h))) (ra rfl (eX (fG rfl (fZ (eY rfl) ?_)))))))
    exact (bool_of (by simp [netEq_refl]))
end
section
open Go Go.ChangeShapes Go.WideShapes Go.ChangeAt Go.RowKit Go.Deep
section
variable {H : Type} {enc : TypeId × Value → H} {W : World} {base : Nat} {sp : Nat → Bool} {held : Bool}
theorem s125 : S3 Tryz.prog 24 5 22 22 := ⟨⟨_, _, _, Tryz.underlying24, rfl, rfl, rfl, rfl, rfl, rfl⟩, by kernel_rfl, by kernel_rfl, by kernel_rfl, by kernel_rfl⟩
theorem trod_partT {b0 : Nat} {v : Value} {d : DataW H} {p : List MemPlace} (ho : Value.okWide Tryz.prog W .any b0 24 v) (h : DataW.Trod enc Tryz.prog W base sp held 24 v d p) : ∃ (a : Nat) (zl sl : List Rt), (AggT [NT .u8 a, RatsT zl, RatsT sl]).p v (hv W) ∧ a < 256 := by
 obtain ⟨cs, rfl, _⟩ := okWide_struct Tryz.underlying24 ho
 obtain ⟨n, hn⟩ := h
 obtain ⟨x0, x1, x2, m, y0, y1, y2, hcs, h0, h1, h2⟩ := s125.open hn
 obtain ⟨i, e0, _, w⟩ := DataW.trod_int V_5 h0
 obtain ⟨v1, z, e1, k1⟩ := open_rats h1
 obtain ⟨v2, s, e2, k2⟩ := open_rats h2
 simp only [List.cons.injEq, and_true] at e0 e1 e2
 subst e0 e1 e2
 have hw := wf_u8 w
 have e : ((i.toNat : Nat) : Int) = i := by omega
 have hi : ∀ V, (NT .u8 i.toNat).p (.int .u8 i) V := fun V => by rw [show NT .u8 i.toNat = IntT .u8 i from congrArg (IntT .u8) e]; rfl
 have hcs2 : cs.toList = [.int .u8 i, x1, x2] := hcs
 exact ⟨i.toNat, z, s, ⟨cs.toList, rfl, by rw [hcs2]; exact aW ⟨hi _, trivial⟩ (aW ⟨k1, (sl_cells k1).2⟩ (aW ⟨k2, (sl_cells k2).2⟩ aG))⟩, by omega⟩
end
end
section
open Go Go.ChangeShapes Go.WideShapes Go.ChangeAt Go.RowKit Go.Deep
section
variable {H : Type} {enc : TypeId × Value → H} {W : World} {base : Nat} {sp : Nat → Bool} {held : Bool}
theorem okWide_arr {P : Program} {w : World} {r : Reach} {base : Nat} {t : TypeId} {v : Value} {n : Nat} {e : TypeId} (ht : P.underlying t = some (.array n e)) (h : Value.okWide P w r base t v) : ∃ cs, v = .agg cs ∧ cs.size = P.cellsOf t := by
 simp only [Value.okWide, ht] at h
 obtain ⟨cs, h1, h2, _⟩ := h
 exact ⟨cs, h1, h2⟩
theorem u8_of {i : Int} (w : 0 ≤ i ∧ i < 256) : ∀ V, (NT .u8 i.toNat).p (.int .u8 i) V := fun V => by
 have e : ((i.toNat : Nat) : Int) = i := by omega
 rw [show NT .u8 i.toNat = IntT .u8 i from congrArg (IntT .u8) e]; rfl
theorem trod_a4T {b0 : Nat} {v : Value} {d : DataW H} {p : List MemPlace} (ho : Value.okWide Tryz.prog W .any b0 63 v) (h : DataW.Trod enc Tryz.prog W base sp held 63 v d p) :
  ∃ a b c e : Nat, (AggT [NT .u8 a, NT .u8 b, NT .u8 c, NT .u8 e]).p v (hv W) ∧ a < 256 ∧ b < 256 ∧ c < 256 ∧ e < 256 := by
 obtain ⟨cs, rfl, _⟩ := okWide_arr Tryz.underlying63 ho
 obtain ⟨n, hn⟩ := h
 obtain ⟨xs, m, _, _, hl, hx, he⟩ := DataW.trod_array Tryz.underlying63 hn
 have hc : Tryz.prog.cellsOf 63 = 4 := by kernel_rfl
 have hi : Tryz.prog.cellsOf 5 = 1 := by kernel_rfl
 rw [hc] at hl
 obtain ⟨cl, hcl⟩ : ∃ cl, cl = cs.toList := ⟨_, rfl⟩
 have e9 : (Value.agg cs).cells.toList = cl := hcl.symm
 rw [e9] at hl he
 match cl, hl with
 | [c0, c1, c2, c3], _ =>
  match xs, hx with
  | [y0, y1, y2, y3], _ =>
   have e0 := he 0 (by omega)
   have e1 := he 1 (by omega)
   have e2 := he 2 (by omega)
   have e3 := he 3 (by omega)
   rw [hi] at e0 e1 e2 e3
   obtain ⟨i0, q0, _, w0⟩ := DataW.trod_int V_5 (show DataW.trod enc Tryz.prog W base sp held m 5 [c0] = some y0 from e0)
   obtain ⟨i1, q1, _, w1⟩ := DataW.trod_int V_5 (show DataW.trod enc Tryz.prog W base sp held m 5 [c1] = some y1 from e1)
   obtain ⟨i2, q2, _, w2⟩ := DataW.trod_int V_5 (show DataW.trod enc Tryz.prog W base sp held m 5 [c2] = some y2 from e2)
   obtain ⟨i3, q3, _, w3⟩ := DataW.trod_int V_5 (show DataW.trod enc Tryz.prog W base sp held m 5 [c3] = some y3 from e3)
   simp only [List.cons.injEq, and_true] at q0 q1 q2 q3
   subst q0 q1 q2 q3
   have b0 := wf_u8 w0
   have b1 := wf_u8 w1
   have b2 := wf_u8 w2
   have b3 := wf_u8 w3
   exact ⟨i0.toNat, i1.toNat, i2.toNat, i3.toNat, ⟨cs.toList, rfl, by rw [← hcl]; exact aW ⟨u8_of ⟨by omega, by omega⟩ _, trivial⟩ (aW ⟨u8_of ⟨by omega, by omega⟩ _, trivial⟩ (aW ⟨u8_of ⟨by omega, by omega⟩ _, trivial⟩ (aW ⟨u8_of ⟨by omega, by omega⟩ _, trivial⟩ aG)))⟩, by omega, by omega, by omega, by omega⟩
end
end
end Go.Proofs.YteimkhgiekndjaaGreat
