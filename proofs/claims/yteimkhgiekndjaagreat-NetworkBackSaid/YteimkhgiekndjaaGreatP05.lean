/- What functions of the program compute, proved by walks over their code, and the plain mathematics of it; a part of the proof in the last text. -/
import Derived.Test.YteimkhgiekndjaaGreatP04
set_option linter.unusedVariables false
set_option linter.unusedSimpArgs false
set_option maxRecDepth 100000
set_option maxHeartbeats 4000000
namespace Go.Proofs.YteimkhgiekndjaaGreat
section
open Go Go.RowKit
theorem sumN_sub (m : Nat) (f : Qi) (a b : Nat → Qi) : sumN m (fun k => a k - f * b k) = sumN m a - f * sumN m b := by
 induction m with
 | zero => simp only [sumN, q0]; grind
 | succ m ih => simp only [sumN, ih]; grind
theorem sumN_single {m i : Nat} (hi : i < m) {f : Nat → Qi} (h : ∀ k, k < m → k ≠ i → f k = 0) : sumN m f = f i := by
 induction m with
 | zero => omega
 | succ m ih =>
  by_cases e : i = m
  ·subst e
   have : sumN i f = 0 := by
    rw [← q0, ← sumN_zero i]
    exact sumN_congr fun k hk => h k (by omega) (by omega)
   simp only [sumN, this]; grind
  ·have h1 := ih (by omega) (fun k hk => h k (by omega))
   have h2 := h m (by omega) (by omega)
   simp only [sumN, h1, h2]; grind
theorem sumN_all0 {m : Nat} {f : Nat → Qi} (h : ∀ k, k < m → f k = 0) : sumN m f = 0 := by
 rw [← q0, ← sumN_zero m]; exact sumN_congr h
def Ker (M : List (List Qi)) (n m : Nat) (x : Nat → Qi) : Prop := ∀ i, i < n → sumN m (fun k => gm M i k * x k) = 0
def redJR (rr rc : List Qi) (c k : Nat) : List Qi := tab rr.length fun j => if c ≤ j ∧ j < k then gv rr j - gv rr c / gv rc c * gv rc j else gv rr j
def redJ (M : List (List Qi)) (c r : Nat) : List (List Qi) := tab M.length fun i => if i ≠ c ∧ i < r then redJR (rw' M i) (rw' M c) c (rw' M i).length else rw' M i
theorem redJ_len (M : List (List Qi)) (c r : Nat) : (redJ M c r).length = M.length := tab_len _ _
theorem redJR_len (rr rc : List Qi) (c k : Nat) : (redJR rr rc c k).length = rr.length := tab_len _ _
theorem redJ_row {M : List (List Qi)} {c r i : Nat} (hi : i < M.length) : rw' (redJ M c r) i = if i ≠ c ∧ i < r then redJR (rw' M i) (rw' M c) c (rw' M i).length else rw' M i := by
 simp only [rw', redJ, List.getD]; rw [tab_get hi]; rfl
theorem redJ_shp {M : List (List Qi)} {n m c r : Nat} (h : Shp M n m) : Shp (redJ M c r) n m := by
 refine ⟨(redJ_len _ _ _).trans h.1, fun x hx => ?_⟩
 obtain ⟨i, hi, rfl⟩ := tab_mem.1 hx
 have hr := h.row (i := i) (by rw [← h.1]; exact hi)
 show (if i ≠ c ∧ i < r then redJR (rw' M i) (rw' M c) c (rw' M i).length else rw' M i).length = m
 split
 ·rw [redJR_len]; exact hr
 ·exact hr
theorem redJ_gm {M : List (List Qi)} {n m c i j : Nat} (h : Shp M n m) (hi : i < n) (hj : j < m) : gm (redJ M c n) i j = if i ≠ c ∧ c ≤ j then gm M i j - gm M i c / gm M c c * gm M c j else gm M i j := by
 have hr : (rw' M i).length = m := h.row hi
 show gv (rw' (redJ M c n) i) j = _
 rw [redJ_row (by rw [h.1]; exact hi)]
 by_cases e : i = c
 ·rw [if_neg (fun k => k.1 e), if_neg (fun k => k.1 e)]
 ·rw [if_pos ⟨e, hi⟩, redJR, gv_tab (by omega)]
  by_cases e2 : c ≤ j
  ·rw [if_pos ⟨e2, by omega⟩, if_pos ⟨e, e2⟩]
  ·rw [if_neg (fun k => e2 k.1), if_neg (fun k => e2 k.2)]
theorem swp_rw {M : List (List Qi)} {p c i : Nat} (hp : p < M.length) (hc : c < M.length) : rw' (swp [] M p c) i = rw' M (if i = c then p else if i = p then c else i) := by
 simp only [rw', swp, List.getD]
 by_cases e : i = c
 ·subst e; rw [List.getElem?_set_self (by simpa using hc), if_pos rfl]; rfl
 ·rw [List.getElem?_set_ne (Ne.symm e), if_neg e]
  by_cases e2 : i = p
  ·subst e2; rw [List.getElem?_set_self hp, if_pos rfl]; rfl
  ·rw [List.getElem?_set_ne (Ne.symm e2), if_neg e2]
theorem ker_swp {M : List (List Qi)} {n m p c : Nat} {x : Nat → Qi} (hl : M.length = n) (hp : p < n) (hc : c < n) : Ker (swp [] M p c) n m x ↔ Ker M n m x := by
 have key : ∀ i, gm (swp [] M p c) i = gm M (if i = c then p else if i = p then c else i) := fun i => by
  funext j; exact congrArg (fun r => gv r j) (swp_rw (by omega) (by omega))
 constructor
 ·intro h i hi
  have h1 := h (if i = c then p else if i = p then c else i) (by split <;> (try split) <;> omega)
  rw [key] at h1
  have e : (if (if i = c then p else if i = p then c else i) = c then p else if (if i = c then p else if i = p then c else i) = p then c else (if i = c then p else if i = p then c else i)) = i := by
   by_cases e1 : i = c
   ·subst e1; rw [if_pos rfl]
    by_cases e2 : p = i
    ·rw [if_pos e2]; exact e2
    ·rw [if_neg e2, if_pos rfl]
   ·rw [if_neg e1]
    by_cases e2 : i = p
    ·subst e2; rw [if_pos rfl, if_pos rfl]
    ·rw [if_neg e2, if_neg e1, if_neg e2]
  rw [e] at h1; exact h1
 ·intro h i hi
  rw [key]; exact h _ (by split <;> (try split) <;> omega)
theorem ker_red {M : List (List Qi)} {n m c : Nat} {x : Nat → Qi} (hs : Shp M n m) (hc : c < n) (hz : ∀ j, j < c → gm M c j = 0) : Ker (redJ M c n) n m x ↔ Ker M n m x := by
 have key : ∀ i, i < n → i ≠ c → sumN m (fun k => gm (redJ M c n) i k * x k) = sumN m (fun k => gm M i k * x k) - gm M i c / gm M c c * sumN m (fun k => gm M c k * x k) := fun i hi e => by
  rw [← sumN_sub]
  refine sumN_congr fun k hk => ?_
  rw [redJ_gm hs hi hk]
  by_cases e2 : c ≤ k
  ·rw [if_pos ⟨e, e2⟩]; grind
  ·rw [if_neg (fun h => e2 h.2), hz k (by omega)]; grind
 have keyc : sumN m (fun k => gm (redJ M c n) c k * x k) = sumN m (fun k => gm M c k * x k) := sumN_congr fun k hk => by rw [redJ_gm hs hc hk, if_neg (fun h => h.1 rfl)]
 constructor
 ·intro h i hi
  have h0 := h c hc
  rw [keyc] at h0
  by_cases e : i = c
  ·rw [e]; exact h0
  ·have h1 := h i hi
   rw [key i hi e, h0] at h1
   grind
 ·intro h i hi
  have h0 := h c hc
  by_cases e : i = c
  ·rw [e, keyc]; exact h0
  ·rw [key i hi e, h0, h i hi]; grind
structure GJ (M A : List (List Qi)) (n m c : Nat) : Prop where
 sh : Shp A n m
 ker : ∀ x, Ker A n m x ↔ Ker M n m x
 off : ∀ j, j < c → ∀ i, i < n → i ≠ j → gm A i j = 0
 dg : ∀ j, j < c → gm A j j ≠ 0
theorem GJ.next {M A : List (List Qi)} {n m c p : Nat} (h : GJ M A n m c) (hc : c < n) (hnm : n ≤ m) (hcp : c ≤ p) (hp : p < n) (hz : gm A p c ≠ 0) : GJ M (redJ (swp [] A p c) c n) n m (c + 1) := by
 have hs : Shp (swp [] A p c) n m := swp_shp h.sh hp hc
 have hl := h.sh.1
 have key : ∀ i, gm (swp [] A p c) i = gm A (if i = c then p else if i = p then c else i) := fun i => by
  funext j; exact congrArg (fun r => gv r j) (swp_rw (by omega) (by omega))
 have hcc : gm (swp [] A p c) c c ≠ 0 := by rw [key, if_pos rfl]; exact hz
 have hoff : ∀ j, j < c → ∀ i, i < n → i ≠ j → gm (swp [] A p c) i j = 0 := fun j hj i hi hij => by
  rw [key]
  by_cases e1 : i = c
  ·rw [if_pos e1]; exact h.off j hj p hp (by omega)
  ·rw [if_neg e1]
   by_cases e2 : i = p
   ·rw [if_pos e2]; exact h.off j hj c hc (by omega)
   ·rw [if_neg e2]; exact h.off j hj i hi hij
 refine ⟨redJ_shp hs, fun x => (ker_red hs hc (fun j hj => hoff j hj c hc (by omega))).trans ((ker_swp hl hp hc).trans (h.ker x)), fun j hj i hi hij => ?_, fun j hj => ?_⟩
 ·rw [redJ_gm hs hi (by omega)]
  by_cases e : j = c
  ·subst e
   rw [if_pos ⟨hij, Nat.le_refl _⟩]
   have := div_eq (x := gm (swp [] A p j) i j) hcc
   grind
  ·rw [if_neg (fun k => by omega)]; exact hoff j (by omega) i hi hij
 ·rw [redJ_gm hs (by omega) (by omega)]
  by_cases e : j = c
  ·subst e; rw [if_neg (fun k => k.1 rfl)]; exact hcc
  ·rw [if_neg (fun k => by omega), key, if_neg (by omega), if_neg (by omega)]; exact h.dg j (by omega)
theorem gv_app {l : List Qi} {z : Qi} {k : Nat} (h : k < l.length) : gv (l ++ [z]) k = gv l k := by
 simp only [gv, List.getD]; rw [List.getElem?_append_left h]
theorem gv_end {l : List Qi} {z : Qi} : gv (l ++ [z]) l.length = z := by
 simp [gv, List.getD]
theorem cp_gm {M : List (List Qi)} {b : List Qi} {n i : Nat} (h : Shp M n n) (hi : i < n) : (∀ k, k < n → gm (copyM M [b] n) i k = gm M i k) ∧ gm (copyM M [b] n) i n = gv b i := by
 obtain ⟨r, hr⟩ : ∃ r, r = rw' M i := ⟨_, rfl⟩
 have hl : r.length = n := by rw [hr]; exact h.row hi
 have e : rw' (copyM M [b] n) i = r ++ [gv b i] := by
  rw [hr]; simp only [rw', copyM, List.getD]; rw [tab_get hi]; rfl
 refine ⟨fun k hk => ?_, ?_⟩
 ·show gv (rw' (copyM M [b] n) i) k = gv (rw' M i) k
  rw [e, ← hr, gv_app (by omega)]
 ·show gv (rw' (copyM M [b] n) i) n = gv b i
  rw [e, ← hl, gv_end]
theorem cp_sum {M : List (List Qi)} {b : List Qi} {n i : Nat} (h : Shp M n n) (hi : i < n) (x : Nat → Qi) : sumN (n + 1) (fun k => gm (copyM M [b] n) i k * x k) = sumN n (fun k => gm M i k * x k) + gv b i * x n := by
 obtain ⟨h1, h2⟩ := cp_gm (b := b) h hi
 simp only [sumN, h2]
 rw [sumN_congr (fun k hk => by rw [h1 k hk])]
end
section
open Go Go.RowKit
abbrev pA (ps : List (Nat × Nat)) (k : Nat) : Nat := (ps.getD k (0, 0)).1
abbrev pB (ps : List (Nat × Nat)) (k : Nat) : Nat := (ps.getD k (0, 0)).2
end
section
open Go Go.RowKit
theorem gv_set {l : List Qi} {t k : Nat} {v : Qi} (ht : t < l.length) : gv (l.set t v) k = if k = t then v else gv l k := by
 simp only [gv, List.getD]
 by_cases e : k = t
 ·subst e; rw [if_pos rfl, List.getElem?_set_self ht]; rfl
 ·rw [if_neg e, List.getElem?_set_ne (Ne.symm e)]
end
section
open Go Go.RowKit
def clr (A : List (List Qi)) (c i j : Nat) : Qi := if j < c ∧ j < i then 0 else gm A i j
def KerF (F : Nat → Nat → Qi) (n m : Nat) (x : Nat → Qi) : Prop := ∀ i, i < n → sumN m (fun k => F i k * x k) = 0
theorem kerF_congr {F G : Nat → Nat → Qi} {n m : Nat} {x : Nat → Qi} (h : ∀ i, i < n → ∀ j, j < m → F i j = G i j) : KerF F n m x ↔ KerF G n m x := by
 have e : ∀ i, i < n → sumN m (fun k => F i k * x k) = sumN m (fun k => G i k * x k) := fun i hi => sumN_congr fun k hk => by rw [h i hi k hk]
 exact ⟨fun k i hi => by rw [← e i hi]; exact k i hi, fun k i hi => by rw [e i hi]; exact k i hi⟩
def tau (p c i : Nat) : Nat := if i = c then p else if i = p then c else i
theorem tau_lt {p c i n : Nat} (hp : p < n) (hc : c < n) (hi : i < n) : tau p c i < n := by unfold tau; split <;> (try split) <;> omega
theorem tau_tau (p c i : Nat) : tau p c (tau p c i) = i := by
 unfold tau
 by_cases e1 : i = c
 ·subst e1
  rw [if_pos rfl]
  by_cases e2 : p = i
  ·rw [if_pos e2]; exact e2
  ·rw [if_neg e2, if_pos rfl]
 ·rw [if_neg e1]
  by_cases e2 : i = p
  ·subst e2; rw [if_pos rfl, if_pos rfl]
  ·rw [if_neg e2, if_neg e1, if_neg e2]
theorem kerF_tau {F : Nat → Nat → Qi} {n m p c : Nat} {x : Nat → Qi} (hp : p < n) (hc : c < n) : KerF (fun i => F (tau p c i)) n m x ↔ KerF F n m x :=
 ⟨fun h i hi => by have := h _ (tau_lt hp hc hi); simp only [tau_tau] at this; exact this, fun h i hi => h _ (tau_lt hp hc hi)⟩
theorem kerF_red {F G : Nat → Nat → Qi} {n m c : Nat} {x f : Nat → Qi} (hc : c < n) (hG : ∀ i, i < n → ∀ j, j < m → G i j = if c < i then F i j - f i * F c j else F i j) : KerF G n m x ↔ KerF F n m x := by
 have key : ∀ i, i < n → sumN m (fun k => G i k * x k) = if c < i then sumN m (fun k => F i k * x k) - f i * sumN m (fun k => F c k * x k) else sumN m (fun k => F i k * x k) := fun i hi => by
  by_cases e : c < i
  ·rw [if_pos e, ← sumN_sub]
   exact sumN_congr fun k hk => by rw [hG i hi k hk, if_pos e]; grind
  ·rw [if_neg e]
   exact sumN_congr fun k hk => by rw [hG i hi k hk, if_neg e]
 have kc := key c hc
 rw [if_neg (by omega)] at kc
 constructor
 ·intro h i hi
  have h0 := h c hc
  rw [kc] at h0
  have h1 := h i hi
  rw [key i hi] at h1
  by_cases e : c < i
  ·rw [if_pos e, h0] at h1; grind
  ·rw [if_neg e] at h1; exact h1
 ·intro h i hi
  rw [key i hi]
  by_cases e : c < i
  ·rw [if_pos e, h i hi, h c hc]; grind
  ·rw [if_neg e]; exact h i hi
theorem redM_gm {M : List (List Qi)} {n m c i j : Nat} (h : Shp M n m) (hi : i < n) (hj : j < m) : gm (redM M c n) i j = if c < i ∧ c < j then gm M i j - gm M i c / gm M c c * gm M c j else gm M i j := by
 have hr : (rw' M i).length = m := h.row hi
 have e0 : rw' (redM M c n) i = if c < i ∧ i < n then redR (rw' M i) (rw' M c) c (rw' M i).length else rw' M i := by
  simp only [rw', redM, List.getD]; rw [tab_get (by rw [h.1]; exact hi)]; rfl
 show gv (rw' (redM M c n) i) j = _
 rw [e0]
 by_cases e : c < i
 ·rw [if_pos ⟨e, hi⟩, redR, gv_tab (by omega)]
  by_cases e2 : c < j
  ·rw [if_pos ⟨e2, by omega⟩, if_pos ⟨e, e2⟩]
  ·rw [if_neg (fun k => e2 k.1), if_neg (fun k => e2 k.2)]
 ·rw [if_neg (fun k => e k.1), if_neg (fun k => e k.1)]
theorem clr_swp {A : List (List Qi)} {p c i j : Nat} (hc : c < A.length) (hp : p < A.length) (hcp : c ≤ p) : clr (swp [] A p c) c i j = clr A c (tau p c i) j := by
 have key : gm (swp [] A p c) i j = gm A (tau p c i) j := congrArg (fun r => gv r j) (swp_rw (by omega) (by omega))
 unfold clr
 rw [key]
 have e : (j < c ∧ j < i) ↔ (j < c ∧ j < tau p c i) := by unfold tau; split <;> (try split) <;> omega
 by_cases h : j < c ∧ j < i
 ·rw [if_pos h, if_pos (e.1 h)]
 ·rw [if_neg h, if_neg (fun k => h (e.2 k))]
structure EL (M A : List (List Qi)) (n m c : Nat) : Prop where
 sh : Shp A n m
 ker : ∀ x, KerF (clr A c) n m x ↔ KerF (gm M) n m x
theorem EL.next {M A : List (List Qi)} {n m c p : Nat} (h : EL M A n m c) (hc : c < n) (hcm : c < m) (hcp : c ≤ p) (hp : p < n) (hz : gm A p c ≠ 0) : EL M (redM (if p = c then A else swp [] A p c) c n) n m (c + 1) := by
 have hl := h.sh.1
 obtain ⟨B, hB⟩ : ∃ B, B = if p = c then A else swp [] A p c := ⟨_, rfl⟩
 have hs : Shp B n m := by
  rw [hB]; split
  ·exact h.sh
  ·exact swp_shp h.sh hp hc
 have hBk : ∀ x, KerF (clr B c) n m x ↔ KerF (gm M) n m x := fun x => by
  rw [hB]; split
  ·exact h.ker x
  ·exact (kerF_congr (G := fun i => clr A c (tau p c i)) fun i hi j hj => clr_swp (by omega) (by omega) hcp).trans ((kerF_tau hp hc).trans (h.ker x))
 have hBz : gm B c c ≠ 0 := by
  rw [hB]; split
  ·rename_i e; rw [← e] at hz ⊢; exact hz
  ·show gv (rw' (swp [] A p c) c) c ≠ 0
   rw [swp_at (by omega)]; exact hz
 rw [← hB]
 refine ⟨redM_shp hs, fun x => (kerF_red (f := fun i => gm B i c / gm B c c) hc fun i hi j hj => ?_).trans (hBk x)⟩
 have hd := div_eq (x := gm B i c) hBz
 unfold clr
 rw [redM_gm hs hi hj]
 by_cases e : c < i
 ·rw [if_pos e]
  by_cases e1 : j < c
  ·rw [if_pos (by omega), if_pos (by omega), if_pos (by omega)]; grind
  ·by_cases e2 : j = c
   ·subst e2
    rw [if_pos (by omega), if_neg (by omega), if_neg (by omega)]; grind
   ·rw [if_neg (by omega), if_pos (by omega), if_neg (by omega), if_neg (by omega)]
 ·rw [if_neg e, if_neg (show ¬ (c < i ∧ c < j) from fun k => e k.1)]
  by_cases e1 : j < i
  ·rw [if_pos (show j < c + 1 ∧ j < i by omega), if_pos (show j < c ∧ j < i by omega)]
  ·rw [if_neg (show ¬ (j < c + 1 ∧ j < i) by omega), if_neg (show ¬ (j < c ∧ j < i) by omega)]
theorem elim_el {M : List (List Qi)} {n m : Nat} (hs : Shp M n m) (hnm : n ≤ m) : ∀ {c : Nat}, c ≤ n → (elimTo M c).2.2 < 0 → EL M (elimTo M c).1 n m c
 | 0, _, _ => ⟨hs, fun x => kerF_congr fun i _ j _ => by unfold clr; rw [if_neg (by omega)]; rfl⟩
 | c + 1, hc, h => by
  obtain ⟨i1, i2, i3, i4⟩ := pv_spec (M := (elimTo M c).1) (c := c) (n := M.length) (by rw [hs.1]; omega)
  simp only [elimTo] at h ⊢
  by_cases e : 0 ≤ (elimTo M c).2.2
  ·rw [if_pos e] at h; omega
  ·rw [if_neg e] at h ⊢
   have ih := elim_el hs hnm (c := c) (by omega) (by omega)
   by_cases e2 : pv (elimTo M c).1 c M.length = M.length
   ·rw [if_pos e2] at h; simp only at h; omega
   ·rw [if_neg e2]
    rw [hs.1] at i3 i4 e2 ⊢
    exact ih.next (by omega) (by omega) (by rw [hs.1] at i2; exact i2) (by omega) (i4 (by omega))
theorem elim_halt {M : List (List Qi)} : ∀ {n : Nat}, 0 ≤ (elimTo M n).2.2 → ∃ c, c < n ∧ (elimTo M c).2.2 < 0 ∧ pv (elimTo M c).1 c M.length = M.length
 | 0, h => absurd h (by show ¬ (0 : Int) ≤ -1; omega)
 | c + 1, h => by
  by_cases e : 0 ≤ (elimTo M c).2.2
  ·obtain ⟨d, h1, h2⟩ := elim_halt e
   exact ⟨d, by omega, h2⟩
  ·simp only [elimTo] at h
   rw [if_neg e] at h
   by_cases e2 : pv (elimTo M c).1 c M.length = M.length
   ·exact ⟨c, by omega, by omega, e2⟩
   ·rw [if_neg e2] at h; simp only at h; omega
theorem subS_congr {U : List (List Qi)} {x y : List Qi} {n c : Nat} : ∀ {K : Nat}, (∀ k, k < K → gv x (c + 1 + k) = gv y (c + 1 + k)) → subS U x n c K = subS U y n c K
 | 0, _ => rfl
 | K + 1, h => by rw [subS, subS, subS_congr (fun k hk => h k (by omega)), h K (by omega)]
theorem subS_sum (U : List (List Qi)) (x : List Qi) (n c : Nat) : ∀ K, subS U x n c K = gm U c n - sumN K (fun k => gm U c (c + 1 + k) * gv x (c + 1 + k))
 | 0 => by simp only [subS, sumN, q0]; grind
 | K + 1 => by simp only [subS, sumN, subS_sum U x n c K]; grind
theorem bkS_at {U : List (List Qi)} {n : Nat} : ∀ {j : Nat}, j ≤ n → ∀ c, n - j ≤ c → c < n → gv (bkS U n j) c = subS U (bkS U n j) n c (n - 1 - c) / gm U c c
 | 0, _, c, h1, h2 => by omega
 | j + 1, hj, c, h1, h2 => by
  have hl := bkS_len U n j
  rw [bkS]
  by_cases e : c = n - (j + 1)
  ·subst e
   rw [gv_set (by omega), if_pos rfl, show n - 1 - (n - (j + 1)) = j by omega]
   rw [subS_congr (x := (bkS U n j).set _ _) (y := bkS U n j) fun k hk => by rw [gv_set (by omega), if_neg (by omega)]]
  ·rw [gv_set (by omega), if_neg e, bkS_at (j := j) (by omega) c (by omega) h2]
   rw [subS_congr (x := (bkS U n j).set _ _) (y := bkS U n j) fun k hk => by rw [gv_set (by omega), if_neg (by omega)]]
theorem sumN_app (a : Nat) (f : Nat → Qi) : ∀ b, sumN (a + b) f = sumN a f + sumN b fun k => f (a + k)
 | 0 => by simp only [sumN, q0, Nat.add_zero]; grind
 | b + 1 => by rw [← Nat.add_assoc]; simp only [sumN, sumN_app a f b]; grind
theorem tri_sum {U : List (List Qi)} {n i : Nat} (hi : i < n) (y : Nat → Qi) : sumN n (fun k => clr U n i k * y k) = gm U i i * y i + sumN (n - 1 - i) fun k => gm U i (i + 1 + k) * y (i + 1 + k) := by
 have e : n = i + 1 + (n - 1 - i) := by omega
 have h1 : sumN i (fun k => clr U n i k * y k) = 0 := sumN_all0 fun k hk => by unfold clr; rw [if_pos (by omega)]; grind
 have h2 : clr U n i i = gm U i i := by unfold clr; rw [if_neg (by omega)]
 have h3 : sumN (n - 1 - i) (fun k => clr U n i (i + 1 + k) * y (i + 1 + k)) = sumN (n - 1 - i) fun k => gm U i (i + 1 + k) * y (i + 1 + k) := sumN_congr fun k hk => by unfold clr; rw [if_neg (by omega)]
 have h4 := sumN_app (i + 1) (fun k => clr U n i k * y k) (n - 1 - i)
 rw [← e] at h4
 rw [h4, h3]
 simp only [sumN, h1, h2]; grind
theorem tri_sol {U : List (List Qi)} {n i : Nat} (hd : ∀ j, j < n → gm U j j ≠ 0) (hi : i < n) : sumN n (fun k => clr U n i k * gv (bkS U n n) k) = gm U i n := by
 rw [tri_sum hi, bkS_at (Nat.le_refl n) i (by omega) hi, subS_sum]
 have := div_eq (x := gm U i n - sumN (n - 1 - i) (fun k => gm U i (i + 1 + k) * gv (bkS U n n) (i + 1 + k))) (hd i hi)
 grind
theorem tri_zero {U : List (List Qi)} {n : Nat} (hd : ∀ j, j < n → gm U j j ≠ 0) {y : Nat → Qi} (h : ∀ i, i < n → sumN n (fun k => clr U n i k * y k) = 0) : ∀ t k, n - t ≤ k → k < n → y k = 0
 | 0, k, h1, h2 => by omega
 | t + 1, k, h1, h2 => by
  have h3 := h k h2
  rw [tri_sum h2, sumN_all0 (fun j hj => by rw [tri_zero hd h t (k + 1 + j) (by omega) (by omega)]; grind)] at h3
  rcases mul_zero_or (x := gm U k k) (y := y k) (by grind) with h4 | h4
  ·exact absurd h4 (hd k h2)
  ·exact h4
theorem slv_some {M : List (List Qi)} {b : List Qi} {n : Nat} (h : Shp M n n) (hE : slvE M b n = 0) : (∀ i, i < n → sumN n (fun k => gm M i k * gv (slvX M b n) k) = gv b i) ∧ ∀ y : Nat → Qi, (∀ i, i < n → sumN n (fun k => gm M i k * y k) = 0) → ∀ k, k < n → y k = 0 := by
 have hcs : Shp (copyM M [b] n) n (n + 1) := copyM_shp h
 have hst : (slvU M b n).2.2 < 0 := by
  unfold slvE at hE
  by_cases e : 0 ≤ (slvU M b n).2.2
  ·rw [if_pos e] at hE; omega
  ·omega
 have hg := elim_el hcs (Nat.le_succ n) (Nat.le_refl n) hst
 have hd := elim_diag hcs (Nat.le_refl n) hst
 obtain ⟨U, hU⟩ : ∃ U, U = (slvU M b n).1 := ⟨_, rfl⟩
 have hX : slvX M b n = bkS U n n := by rw [hU]; rfl
 have hU2 : (elimTo (copyM M [b] n) n).1 = U := hU.symm
 rw [hU2] at hg hd
 rw [hX]
 refine ⟨fun i hi => ?_, fun y hy k hk => ?_⟩
 ·have h1 := (hg.ker fun k => if k < n then gv (bkS U n n) k else -1).1 (fun i hi => by
   simp only [sumN]
   rw [sumN_congr (g := fun k => clr U n i k * gv (bkS U n n) k) (fun k hk => by rw [if_pos hk]), tri_sol hd hi, if_neg (by omega), show clr U n i n = gm U i n by unfold clr; rw [if_neg (by omega)]]
   grind) i hi
  rw [cp_sum h hi, sumN_congr (g := fun k => gm M i k * gv (bkS U n n) k) (fun k hk => by rw [if_pos hk]), if_neg (by omega)] at h1
  grind
 ·have h1 := (hg.ker fun k => if k < n then y k else 0).2 (fun i hi => by
   rw [cp_sum h hi, sumN_congr (g := fun k => gm M i k * y k) (fun k hk => by rw [if_pos hk]), if_neg (by omega), hy i hi]; grind)
  refine tri_zero (y := y) hd (fun i hi => ?_) n k (by omega) hk
  have h2 := h1 i hi
  simp only [sumN] at h2
  rw [sumN_congr (g := fun k => clr U n i k * y k) (fun k hk => by rw [if_pos hk]), if_neg (by omega)] at h2
  grind
theorem slv_none {M : List (List Qi)} {b : List Qi} {n : Nat} (h : Shp M n n) (hE : slvE M b n ≠ 0) : ∃ y : Nat → Qi, (∀ i, i < n → sumN n (fun k => gm M i k * y k) = 0) ∧ ∃ k, k < n ∧ y k ≠ 0 := by
 have hcs : Shp (copyM M [b] n) n (n + 1) := copyM_shp h
 have hst : 0 ≤ (slvU M b n).2.2 := by
  unfold slvE at hE
  by_cases e : 0 ≤ (slvU M b n).2.2
  ·exact e
  ·rw [if_neg e] at hE; exact absurd rfl hE
 obtain ⟨c, hc, hA, hp⟩ := elim_halt hst
 have hg := elim_el hcs (Nat.le_succ n) (by omega) hA
 have hd := elim_diag hcs (by omega) hA
 obtain ⟨U, hU⟩ : ∃ U, U = (elimTo (copyM M [b] n) c).1 := ⟨_, rfl⟩
 rw [← hU] at hg hd hp
 rw [hcs.1] at hp
 have hz := (pv_spec (M := U) (c := c) (n := n) (by omega)).1
 rw [hp] at hz
 have key := (hg.ker fun k => if k < c then gv (bkS U c c) k else if k = c then -1 else 0).1 (fun i hi => by
  have e : n + 1 = c + (1 + (n - c)) := by omega
  rw [e, sumN_app, sumN_app]
  have z3 : sumN (n - c) (fun k => clr U c i (c + (1 + k)) * (if c + (1 + k) < c then gv (bkS U c c) (c + (1 + k)) else if c + (1 + k) = c then -1 else 0)) = 0 := sumN_all0 fun k hk => by rw [if_neg (by omega), if_neg (by omega)]; grind
  have z2 : sumN 1 (fun k => clr U c i (c + k) * (if c + k < c then gv (bkS U c c) (c + k) else if c + k = c then -1 else 0)) = clr U c i c * -1 := by
   rw [sumN_one, if_neg (by omega), if_pos (by omega)]; rfl
  have z1 : sumN c (fun k => clr U c i k * (if k < c then gv (bkS U c c) k else if k = c then -1 else 0)) = sumN c (fun k => clr U c i k * gv (bkS U c c) k) := sumN_congr fun k hk => by rw [if_pos hk]
  rw [z1, z2, z3]
  have zc : clr U c i c = gm U i c := by unfold clr; rw [if_neg (by omega)]
  rw [zc]
  by_cases e2 : i < c
  ·rw [tri_sol hd e2]; grind
  ·rw [hz i (by omega) hi, sumN_all0 (fun k hk => by unfold clr; rw [if_pos (by omega)]; grind), q0]; grind)
 refine ⟨fun k => if k < c then gv (bkS U c c) k else if k = c then -1 else 0, fun i hi => ?_, c, hc, ?_⟩
 ·have h1 := key i hi
  rw [cp_sum h hi, if_neg (by omega), if_neg (by omega)] at h1
  grind
 ·show (if c < c then gv (bkS U c c) c else if c = c then (-1 : Qi) else 0) ≠ 0
  rw [if_neg (by omega), if_pos rfl]
  intro e
  exact absurd (congrArg Qi.re e) (by decide)
end
section
open Go Go.RowKit
theorem invX_shp (M : List (List Qi)) (n : Nat) : Shp (invX M n) n n := Shp.tab
theorem slvX_len (M : List (List Qi)) (b : List Qi) (n : Nat) : (slvX M b n).length = n := bkS_len _ _ _
theorem slv_fit {M : List (List Qi)} {b : List Qi} {n L : Nat} (h : Shp M n n) (hM : FitM M L) (hb : FitL b L) (hL : 1 ≤ L) (hE : slvE M b n = 0) : FitL (slvX M b n) (xgr (grow L n) n) := slvX_fit h hM hb hL (by
 unfold slvE at hE
 by_cases e : 0 ≤ (slvU M b n).2.2
 ·rw [if_pos e] at hE; omega
 ·omega)
theorem inv_zero {M : List (List Qi)} {n : Nat} (h : invE M n = 0) : ∀ k, k < n → slvE M (ek n k) n = 0 := firstE_zero h
theorem invX_fit {M : List (List Qi)} {n L : Nat} (h : Shp M n n) (hM : FitM M L) (hL : 1 ≤ L) (hE : invE M n = 0) : FitM (invX M n) (xgr (grow L n) n) := fun r hr => by
 obtain ⟨i, _, rfl⟩ := tab_mem.1 hr
 exact FitL.tab fun j hj => (slv_fit h hM (ek_fit hL) hL (inv_zero hE j hj)).get (Nat.le_trans hL (Nat.le_trans (grow_le L n) (xgr_ge (grow L n) n))) i
theorem xgr_monoL {G H : Nat} (h : G ≤ H) : ∀ j, xgr G j ≤ xgr H j
 | 0 => h
 | j + 1 => by
  have := xgr_monoL h j
  have h2 : j * (xgr G j + G + 2) ≤ j * (xgr H j + H + 2) := Nat.mul_le_mul_left _ (by omega)
  simp only [xgr]; omega
def ovE (M : List (List Qi)) (n : Nat) : Int := if invE M n = 0 then 0 else 5
def ovX (Y M : List (List Qi)) (n : Nat) : List (List Qi) := okL (ovE M n) (mulM Y (invX M n) n n n)
def unX (M Y : List (List Qi)) (n : Nat) : List (List Qi) := okL (ovE M n) (mulM (invX M n) Y n n n)
theorem ovE_zero {M : List (List Qi)} {n : Nat} (h : ovE M n = 0) : invE M n = 0 := by
 unfold ovE at h; split at h
 ·assumption
 ·omega
def plM (x y : Int) (m : List (List Qi)) (n : Nat) : List (List Qi) := tab n fun i => (tab n fun j => Qi.ofInt y * gm m i j).set i (Qi.ofInt y * gm m i i + Qi.ofInt x)
theorem plM_shp (x y : Int) (m : List (List Qi)) (n : Nat) : Shp (plM x y m n) n n := ⟨tab_len _ _, fun r hr => by obtain ⟨i, _, rfl⟩ := tab_mem.1 hr; rw [List.length_set, tab_len]⟩
theorem unit_gm {n i j : Nat} (hi : i < n) (hj : j < n) : gm (idM n) i j = if i = j then 1 else 0 := by
 show gv ((idM n).getD i []) j = _
 rw [idM, tab_getD hi, unitR, gv_set (by rw [tab_len]; exact hi)]
 by_cases e : j = i
 ·subst e; rw [if_pos rfl, if_pos rfl]; rfl
 ·rw [if_neg e, if_neg (Ne.symm e), gv_tab hj]; rfl
theorem plM_gm {x y : Int} {m : List (List Qi)} {n i j : Nat} (hi : i < n) (hj : j < n) : gm (plM x y m n) i j = Qi.ofInt y * gm m i j + (if i = j then Qi.ofInt x else 0) := by
 show gv ((plM x y m n).getD i []) j = _
 rw [plM, tab_getD hi, gv_set (by rw [tab_len]; exact hi)]
 by_cases e : j = i
 ·subst e; rw [if_pos rfl, if_pos rfl]
 ·rw [if_neg e, if_neg (Ne.symm e), gv_tab hj]; grind
theorem mat_ext {a b : List (List Qi)} {n m : Nat} (ha : Shp a n m) (hb : Shp b n m) (h : ∀ i, i < n → ∀ j, j < m → gm a i j = gm b i j) : a = b := by
 rw [mat_tab ha, mat_tab hb]
 exact tab_congr fun i hi => tab_congr fun j hj => h i hi j hj
theorem neg_one : Qi.ofInt (-1) = -1 := rfl
theorem pm_plus {s : List (List Qi)} {n : Nat} : pmM false (idM n) s n = plM 1 1 s n := mat_ext pmM_shp (plM_shp 1 1 s n) fun i hi j hj => by
 rw [plM_gm hi hj, pmM, gm_tab hi hj, unit_gm hi hj, q1]
 simp only [Bool.false_eq_true, if_false]; grind
theorem pm_minus {s : List (List Qi)} {n : Nat} : pmM true (idM n) s n = plM 1 (-1) s n := mat_ext pmM_shp (plM_shp 1 (-1) s n) fun i hi j hj => by
 rw [plM_gm hi hj, pmM, gm_tab hi hj, unit_gm hi hj, q1, neg_one]
 simp only [if_true]; grind
theorem pm_minus2 {s : List (List Qi)} {n : Nat} : pmM true s (idM n) n = plM (-1) 1 s n := mat_ext pmM_shp (plM_shp (-1) 1 s n) fun i hi j hj => by
 rw [plM_gm hi hj, pmM, gm_tab hi hj, unit_gm hi hj, q1, neg_one]
 simp only [if_true]
 by_cases e : i = j
 ·rw [if_pos e, if_pos e]; grind
 ·rw [if_neg e, if_neg e]; grind
theorem pm_plus2 {s : List (List Qi)} {n : Nat} : pmM false s (idM n) n = plM 1 1 s n := mat_ext pmM_shp (plM_shp 1 1 s n) fun i hi j hj => by
 rw [plM_gm hi hj, pmM, gm_tab hi hj, unit_gm hi hj, q1]
 simp only [Bool.false_eq_true, if_false]; grind
theorem plM_fit {x y : Int} {m : List (List Qi)} {n L : Nat} (hm : FitM m L) (hL : 1 ≤ L) (hx : FitC (Qi.ofInt x) 1) (hy : FitC (Qi.ofInt y) 1) : FitM (plM x y m n) (L + 4) := fun r hr => by
 obtain ⟨i, _, rfl⟩ := tab_mem.1 hr
 intro z hz
 have f1 : ∀ j, FitC (Qi.ofInt y * gm m i j) (1 + L + 1) := fun j => by haveI := hm.get hL i j; haveI := hy; exact fitMul
 rcases List.mem_or_eq_of_mem_set hz with h | h
 ·obtain ⟨j, _, rfl⟩ := tab_mem.1 h; exact (f1 j).le (by omega)
 ·rw [h]
  have : FitC (Qi.ofInt y * gm m i i + Qi.ofInt x) (1 + L + 1 + 1 + 1) := @fitAdd (Qi.ofInt y * gm m i i) (Qi.ofInt x) (1 + L + 1) 1 (f1 i) hx
  exact this.le (by omega)
end
section
open Go Go.RowKit
theorem fa_24_0 (a : Addr) (w : World) : (Instr.fieldAt 24 (.pointer (some a)) 0).run Tryz.prog w = .ok (.pointer (some (a.add 0))) w := by
 simp [Instr.fieldAt, Instr.sureAddr, fieldPlace, Sem.run_bind, Result.andThen, U_24, Z_5]
theorem fa_24_1 (a : Addr) (w : World) : (Instr.fieldAt 24 (.pointer (some a)) 1).run Tryz.prog w = .ok (.pointer (some (a.add 1))) w := by
 simp [Instr.fieldAt, Instr.sureAddr, fieldPlace, Sem.run_bind, Result.andThen, U_24, Z_22]
theorem fa_24_2 (a : Addr) (w : World) : (Instr.fieldAt 24 (.pointer (some a)) 2).run Tryz.prog w = .ok (.pointer (some (a.add 2))) w := by
 simp [Instr.fieldAt, Instr.sureAddr, fieldPlace, Sem.run_bind, Result.andThen, U_24, Z_22]
theorem info_22 : Tryz.prog.info? 22 = some Tryz.t22 := by kernel_rfl
theorem info_91 : Tryz.prog.info? 91 = some Tryz.t91 := by kernel_rfl
theorem und_22 : Tryz.prog.underlying 22 = some (.slice 91) := by kernel_rfl
end
section
open Go Go.RowKit
abbrev PartT (a : Nat) (zl sl : List Rt) : Ty := AggT [NT .u8 a, RatsT zl, RatsT sl]
theorem rat0_p : ∀ V, (RatT default).p (.agg #[.int .i64 0, .int .i64 0, .int .i64 0]) V := fun V => ⟨[.int .i64 0, .int .i64 0, .int .i64 0], rfl, aW ⟨rfl, trivial⟩ (aW ⟨rfl, trivial⟩ (aW ⟨rfl, trivial⟩ aG))⟩
theorem frzG {B e s l : Nat} {BT : TypeId} {Rs : List (List Ty)} {q : Value → Prop} (hl : l = Rs.length) : ∀ u S V, (Is (.slice (some ⟨B, 0, none⟩) l l)).p u V → (matP q B BT e s Rs).h S V V → (SlT 1 (Rs.map (SlT s))).p u V := fun u S V h1 h2 => frz_mat hl (Nat.le_refl _) u S V h1 h2
theorem plS_rows (a : Nat) (sl : List Rt) : (tab (plN a) fun i => tab (plN a) fun j => RatT (smR (pkR sl (plN a * i + j)))).map (SlT 3) = (plS a sl).map RatsT := by
 rw [plS, tab_map, tab_map]
 refine tab_congr fun i _ => ?_
 rw [RatsT, tab_map]
theorem c_PlainO {a : Nat} {zl sl : List Rt} (ha : a < 256) : FunO Tryz.prog 88 [PartT a zl sl] [] (Nat) (fun B => TupT [RatsT (plZ a zl), Is (.slice (some ⟨B, 0, none⟩) (plN a) (plN a))]) (fun B => [matO B 22 91 3 (tab (plN a) (fun i => tab (plN a) fun j => RatT (smR (pkR sl (plN a * i + j)))))]) (fun _ => True) := by
 have hn : plN a ≤ 4 := by unfold plN; omega
 have hn0 : a % 4 + 1 = plN a := rfl
 refine FunO.intro Tryz.func88 rfl Tryz.ntmps88 rfl (fun cx Z => (ts (rn rfl (fG (Ht rfl)) fun B1 => (ro rfl (cQ cV) (ro rfl (cQ cV) (eX (ts (ro rfl (eZ fa_24_0 (Ht rfl) rfl) (ro rfl (eY A_5 Z_5 (Ht rfl) (i := 1) rfl rfl) (ro rfl (op_remN (Ht rfl) (cJ 4) (by omega)) (ro rfl (gZ U_5 U_3 (Ht rfl) (by show _ < 9223372036854775808; first | omega | (simp only [lim]; omega))) (ro rfl (OpTy.nat (dV (Ht rfl) (cJ 1) (by show _ < 9223372036854775808; first | omega | (simp only [lim]; omega))) hn0) ?_))))))))))))
 refine ra rfl (eX (cK (fZ (m := 5) (dp 4 rfl (cX (Ht rfl)) (C.D_new (Ei := [(14, _)]) rfl rfl rfl (bV (bG 0 rfl rfl) bW) (new_makeO (T := RatT default) (i := Tryz.t91) und_22 info_91 rfl rfl (Ht rfl) rfl rat0_p (El.ag rfl) (by show 24 * _ ≤ _; omega) (by omega)) (dp 4 rfl (cX (Ht rfl)) (C.D_new (Ei := [(16, _)]) rfl rfl rfl (bV (bG 2 rfl rfl) bW) (new_make (T := Is (.slice none 0 0)) (i := Tryz.t22) Tryz.underlying25 info_22 rfl rfl (Ht rfl) rfl (fun _ => rfl) trivial (by show 24 * _ ≤ _; omega) (by omega)) (C.D_cpy 1 rfl rfl rfl rfl rfl C.cpy_assign ?_))))))))
 refine fV mixed rfl (by kernel_rfl) (aJ (C.F_new (fun B15 => aJ (C.F_new (fun B17 => C.F_cpy rfl (aV (ra rfl (eX (cK (ts (rm rfl (ro rfl (op_lenO U_22 (Ht rfl) (i := 2) rfl (show ((List.replicate (plN a) (RatT default)).length : Int) = ((plN a : Nat) : Int) from by simp)) (ro rfl (cX (cJ 0)) (eX (eG (T_conv 3 rfl (mat_nil (e := 91) (s := 3)) ?_))))))))))))))))
 refine T_loop (fun (i : Nat) => i ≤ plN a) (fun (i : Nat) => plN a - i) (fun (i : Nat) => [(1, PtrB B1 0), (4, NT .i64 (plN a)), (5, Is B15), (6, Is (.slice (some ⟨B17, 0, none⟩) (plN a) (plN a))), (19, NT .i64 (plN a)), (20, NT .i64 i)]) (fun (i : Nat) => [Z, box B1 24 [NT .u8 a, RatsT zl, RatsT sl], rowO 91 3 B15 (mixT (fun i => RatT (imR (pkR zl i))) (RatT default) (plN a) i), matO B17 22 91 3 (mixT (fun i => tab (plN a) fun j => RatT (smR (pkR sl (plN a * i + j)))) [] (plN a) i)]) 0 (Nat.zero_le _)
  (aQ rfl (aQ rfl (aQ rfl (aQ rfl (aZ rfl (nt_of (by simp)) (aQ rfl aX)))))) (aU (fun _ _ _ h => h) (aU (box_of rfl) (aU (rowO_of (by rw [← mix_zero]; exact rep_tab _ _)) (aU (matO_of (by rw [← mix_zero]; exact rep_tab _ _)) aY)))) (fun i hi => ?_)
 refine ts (ro rfl (gX (Ht rfl) (Ht rfl)) (eX (cK (dQ (Ht rfl) (fun hd => ?_) (fun hd => ?_)))))
 ·simp only [decide_eq_true_eq] at hd
  have hni : plN a * i ≤ 4 * 4 := Nat.mul_le_mul hn (by omega)
  refine T_focus 3 (i) rfl (mix_get hd) (fun v0 => (cU (cK (eG (ts (rm rfl (ra rfl (eX (ts (rm rfl (rm rfl (ro rfl (eZ fa_24_1 (Ht rfl) rfl) (ro rfl (eY A_22 Z_22 (Ht rfl) (i := 1) rfl rfl) (rm rfl (ro rfl (cZ Tryz.call75 c_pick ⟨(Ht rfl), (Ht rfl), trivial⟩) (ro rfl (cZ Tryz.call74 c_imped ⟨(Ht rfl), trivial⟩) (ro rfl (op_idxO U_22 Z_91 (Ht rfl) (Ht rfl) rfl (i := 2) rfl (by rw [mix_len]; omega) rfl) ?_)))))))))))))))))
  refine R_stO Z_91 (Ht rfl) (Ht rfl) (El.ag rfl) (i := 2) rfl rfl (by rw [mix_len]; omega) rfl ?_
  refine eX (ts (rm rfl (rm rfl (rm rfl (rn rfl (new_makeO (T := RatT default) (i := Tryz.t91) und_22 info_91 rfl rfl (Ht rfl) rfl rat0_p (El.ag rfl) (by show 24 * _ ≤ _; omega) (by omega)) fun B34 => (ro rfl (fY U_25 Z_22 (Ht rfl) (Ht rfl) rfl (by omega) (by rw [Nat.mul_one, Nat.zero_add])) ?_))))))
  refine R_stH Z_22 (Ht rfl) (Ht rfl) (by rw [mix_len]; omega) (j := 3) (l := 5) rfl rfl rfl ?_
  refine eX (cK (T_keep [0, 1, 2, 3, 5] rfl (by decide) (cY (rm rfl (rm rfl (ro rfl (fY U_25 Z_22 (Ht rfl) (Ht rfl) rfl (by omega) (by rw [Nat.mul_one, Nat.zero_add])) ?_))))))
  refine ro rfl (op_ldH A_22 Z_22 (Ht rfl) (j := 3) rfl) (ro rfl (op_lenO U_22 (Ht rfl) (i := 4) rfl (show ((List.replicate (plN a) (RatT default)).length : Int) = ((plN a : Nat) : Int) from by simp)) (ro rfl (cX (cJ 0)) (eX (eG ?_))))
  refine T_loop (fun (j : Nat) => j ≤ plN a) (fun (j : Nat) => plN a - j) (fun (j : Nat) => [(1, PtrB B1 0), (4, NT .i64 (plN a)), (5, Is B15), (6, Is (.slice (some ⟨B17, 0, none⟩) (plN a) (plN a))), (7, NT .i64 i), (19, NT .i64 (plN a)), (20, NT .i64 i), (40, NT .i64 (plN a)), (41, NT .i64 j)]) (fun (j : Nat) => [Z, box B1 24 [NT .u8 a, RatsT zl, RatsT sl], rowO 91 3 B15 (mixT (fun i => RatT (imR (pkR zl i))) (RatT default) (plN a) (i + 1)), matH B17 22 91 3 (mixT (fun i => tab (plN a) fun j => RatT (smR (pkR sl (plN a * i + j)))) [] (plN a) i) i B34, rowO 91 3 B34 (mixT (fun j => RatT (smR (pkR sl (plN a * i + j)))) (RatT default) (plN a) j)]) 0 (Nat.zero_le _)
   (aQ rfl (aQ rfl (aQ rfl (aQ rfl (aQ rfl (aQ rfl (aQ rfl (aQ rfl (aQ rfl aX))))))))) (aU (fun _ _ _ h => h) (aU (box_of rfl) (aU (rowO_of (mix_set (f := (fun i => RatT (imR (pkR zl i)))))) (aU (fun _ _ _ h => h) (aU (rowO_of (by rw [← mix_zero]; exact rep_tab _ _)) aY))))) (fun j hj => ?_)
  refine ts (ro rfl (gX (Ht rfl) (Ht rfl)) (eX (cK (dQ (Ht rfl) (fun he => ?_) (fun he => ?_)))))
  ·simp only [decide_eq_true_eq] at he
   refine cU (cK (eG (ts (rm rfl (ra rfl (eX (fZ (m := 14) (dp 6 rfl (cX (Ht rfl)) (dp 7 rfl (cX (Ht rfl)) (dqq 44 0 45 1 rfl (fY U_25 Z_22 (Ht rfl) (Ht rfl) rfl (by omega) (by rw [Nat.mul_one, Nat.zero_add])) ?_))))))))))
   refine dq 46 2 rfl (op_ldH A_22 Z_22 (Ht rfl) (j := 3) rfl) (dp 8 rfl (cX (Ht rfl)) (dp 1 rfl (eZ fa_24_2 (Ht rfl) rfl) (dq 49 5 rfl (eY A_22 Z_22 (Ht rfl) (i := 1) rfl rfl) (dp 4 rfl (cX (Ht rfl)) (dp 7 rfl (cX (Ht rfl)) (dqq 51 7 52 8 rfl (op_mulN (Ht rfl) (Ht rfl) (by show _ < 9223372036854775808; omega)) (dp 8 rfl (cX (Ht rfl)) (dqq 53 9 54 10 rfl (dV (Ht rfl) (Ht rfl) (by show _ < 9223372036854775808; omega)) (dqq 50 6 55 11 rfl (cZ Tryz.call75 c_pick ⟨(Ht rfl), (Ht rfl), trivial⟩) (dq 56 12 rfl (cZ Tryz.call161 c_small ⟨(Ht rfl), trivial⟩) ?_))))))))))
   refine fV mixed rfl (by kernel_rfl) (aJ (aJ (aJ (aJ (aJ (aJ (aJ (aJ (aJ (aJ (aJ (aJ (aJ (aJ (aV (ro rfl (op_idxO U_22 Z_91 (Ht rfl) (Ht rfl) rfl (i := 4) rfl (by rw [mix_len]; omega) rfl) ?_))))))))))))))))
   refine R_stO Z_91 (Ht rfl) (Ht rfl) (El.ag rfl) (i := 4) rfl rfl (by rw [mix_len]; omega) rfl ?_
   refine eX (T_blk (cY (ro rfl (dV (Ht rfl) (cJ 1) (by show _ < 9223372036854775808; first | omega | (simp only [lim]; omega))) (rm rfl (eX (fU (j + 1) he (by omega) (aQ rfl (aQ rfl (aQ rfl (aQ rfl (aQ rfl (aQ rfl (aQ rfl (aQ rfl (aQ rfl aX))))))))) (aU (fun _ _ _ h => h) (aU (box_of rfl) (aU (fun _ _ _ h => h) (aU (fun _ _ _ h => h) (aU (rowO_of (mix_set (f := fun j => RatT (smR (pkR sl (plN a * i + j)))))) aY)))))))))))
  ·simp only [decide_eq_false_iff_not] at he
   have hjn : j = plN a := Nat.le_antisymm hj (by omega)
   rw [hjn, mix_fin]
   refine gV rfl (T_blk (T_unfocus 3 4 rfl rfl (by decide) (by rw [mix_len]; omega) ?_))
   refine cY (ro rfl (dV (Ht rfl) (cJ 1) (by show _ < 9223372036854775808; first | omega | (simp only [lim]; omega))) (rm rfl (eX (T_keep [0, 1, 2, 3] rfl (by decide) (fU (i + 1) hd (by omega) (aQ rfl (aQ rfl (aQ rfl (aQ rfl (aQ rfl (aQ rfl aX)))))) (aU (fun _ _ _ h => h) (aU (box_of rfl) (aU (fun _ _ _ h => h) (aU (matO_of (mix_set (f := (fun i => tab (plN a) fun j => RatT (smR (pkR sl (plN a * i + j))))))) aY)))))))))
 ·simp only [decide_eq_false_iff_not] at hd
  have hin : i = plN a := Nat.le_antisymm hi (by omega)
  rw [hin, mix_fin, mix_fin]
  refine gV rfl (gJ (i := 2) (tt := 5) rfl rfl frz_row (ts (rm rfl (rm rfl (ra rfl (ra rfl (eX ?_)))))))
  exact T_retO B17 trivial [0, 3] ⟨⟨_, rfl, fun _ _ _ h => h⟩, ⟨_, rfl, fun _ _ _ h => h⟩, trivial⟩ (by decide) (rvs2 rfl (fX (eU rfl) (slT_of (by rw [plZ, tab_map]))) (eU rfl))
theorem tup2 {T U U' : Ty} {v : Value} {V : View} (h : (TupT [T, U]).p v V) (hU : ∀ u, U.p u V → U'.p u V) : (TupT [T, U']).p v V := by
 obtain ⟨vs, h1, h2⟩ := h
 match vs, h2 with
 | [x, y], ⟨a, b, c⟩ => exact ⟨[x, y], h1, a, hU y b, c⟩
theorem c_Plain {a : Nat} {zl sl : List Rt} (ha : a < 256) : Fun Tryz.prog 88 [PartT a zl sl] (TupT [RatsT (plZ a zl), RatM (plS a sl)]) := (c_PlainO ha).fun fun B _ v S V h1 h2 => tup2 h1 fun u hu => by
 exact slT_of (plS_rows a sl) u V (frzG (tab_len _ _).symm u S V hu h2)
theorem c_Build {a : Nat} {zl sl : List Rt} (ha : a < 256) : Fun Tryz.prog 16 [PartT a zl sl] (TupT [NetT ((plZ a zl).map Rt.q) (rq (plS a sl)), RNetT ((plZ a zl).map Rt.q) (rq (plS a sl)), BoolT true]) := by
 have hn : plN a ≤ 4 := by unfold plN; omega
 have herr := pl_err a zl sl
 have hzl : (plZ a zl).length = plN a := tab_len _ _
 have hsl : (plS a sl).length = plN a := tab_len _ _
 have hall : ∀ r, r ∈ plS a sl → r.length ≤ 1000 := fun r hr => by obtain ⟨i, _, rfl⟩ := tab_mem.1 hr; rw [tab_len]; omega
 have hsh := (netErr_ok herr).2.2.1
 have z1 : ((plZ a zl).map Rt.q).length ≤ 1000 := by rw [List.length_map, hzl]; omega
 have s1 : (rq (plS a sl)).length ≤ 1000 := by rw [List.length_map, hsl]; omega
 have hcv : ∀ v V, (TupT [NetT (okL (netErr ((plZ a zl).map Rt.q) (rq (plS a sl))) ((plZ a zl).map Rt.q)) (okL (netErr ((plZ a zl).map Rt.q) (rq (plS a sl))) (rq (plS a sl))), IntT .i64 (netErr ((plZ a zl).map Rt.q) (rq (plS a sl)))]).p v V → (TupT [NetT ((plZ a zl).map Rt.q) (rq (plS a sl)), IntT .i64 0]).p v V := by rw [herr]; exact fun _ _ h => h
 have hcv2 : ∀ v V, (TupT [RNetT (okL (netErr ((plZ a zl).map Rt.q) (rq (plS a sl))) ((plZ a zl).map Rt.q)) (okL (netErr ((plZ a zl).map Rt.q) (rq (plS a sl))) (rq (plS a sl))), IntT .i64 (netErr ((plZ a zl).map Rt.q) (rq (plS a sl)))]).p v V → (TupT [RNetT ((plZ a zl).map Rt.q) (rq (plS a sl)), IntT .i64 0]).p v V := by rw [herr]; exact fun _ _ h => h
 refine Fun.intro Tryz.func16 rfl Tryz.ntmps16 rfl (fun cx => (ts (rn rfl (fG (Ht rfl)) fun B1 => (rn rfl (eW (Ts := [Is (.slice none 0 0), Is (.slice none 0 0)]) O_30 rfl (fun V => aW ⟨rfl, trivial⟩ (aW ⟨rfl, trivial⟩ (aG)))) fun B2 => (rn rfl (eW (Ts := [Is (.slice none 0 0), Is (.slice none 0 0)]) O_34 rfl (fun V => aW ⟨rfl, trivial⟩ (aW ⟨rfl, trivial⟩ (aG)))) fun B3 => (ro rfl (cQ cV) (eX (ts (ro rfl (eJ Tryz.isAgg24 Tryz.sizeOf24 (Ht rfl) (i := 0) rfl rfl rfl) (ro rfl (cZ Tryz.call88 (c_Plain ha) ⟨(Ht rfl), trivial⟩) ?_))))))))))
 refine rm rfl (ro rfl (dK (Ht rfl) rfl) (ro rfl (dK (Ht rfl) rfl) (ra rfl (ra rfl (eX (ts (rm rfl (ro rfl (cZ Tryz.call23 (c_lawList (by omega)) ⟨(Ht rfl), trivial⟩) (rm rfl (ro rfl (cZ Tryz.call24 (c_lawRows (by omega) hall) ⟨(Ht rfl), trivial⟩) (ro rfl (cZ Tryz.call85 (eQ (c_netNew (z := ((plZ a zl).map Rt.q)) (s := (rq (plS a sl))) (L := 2) FitL.rt (by decide) z1 s1) hcv) ⟨(Ht rfl), (Ht rfl), trivial⟩) (rm rfl (ro rfl (dK (Ht rfl) rfl) (ro rfl (dK (Ht rfl) rfl) (rn rfl (eW (Ts := [Is (.slice none 0 0), Is (.slice none 0 0)]) O_30 rfl (fun V => aW ⟨rfl, trivial⟩ (aW ⟨rfl, trivial⟩ (aG)))) fun B7 => ?_)))))))))))))))
 refine gQ Z_30 (Ht rfl) (Ht rfl) rfl (i := 3) rfl (aK rfl) rfl rfl (ra rfl (eX (ts (rm rfl (ro rfl (cZ Tryz.call26 (c_refList4 (by omega)) ⟨(Ht rfl), trivial⟩) (rm rfl (ro rfl (cZ Tryz.call27 (c_refRows4 (by omega) hall) ⟨(Ht rfl), trivial⟩) (ro rfl (cZ Tryz.call89 (eQ (c_rnetNew (z := ((plZ a zl).map Rt.q)) (s := (rq (plS a sl))) (L := 2) FitL.rt (by decide) z1 s1) hcv2) ⟨(Ht rfl), (Ht rfl), trivial⟩) (rm rfl (ro rfl (dK (Ht rfl) rfl) (ro rfl (dK (Ht rfl) rfl) (rn rfl (eW (Ts := [Is (.slice none 0 0), Is (.slice none 0 0)]) O_34 rfl (fun V => aW ⟨rfl, trivial⟩ (aW ⟨rfl, trivial⟩ (aG)))) fun B9 => ?_))))))))))))
 refine gQ Z_34 (Ht rfl) (Ht rfl) rfl (i := 4) rfl (aK rfl) rfl rfl (ra rfl (eX (cK (Y.D_start (m := 11) [(9, 1, box B2 30 [NumsT ((plZ a zl).map Rt.q), NumM (rq (plS a sl))]), (10, 2, box B3 34 [QsT ((plZ a zl).map Rt.q), QM (rq (plS a sl))])] (Y.D_step (Ei := [(7, _)]) rfl rfl (bQ (bJ rfl rfl) bX) rfl rfl (by kernel_rfl) (dX rfl (eJ A_30 Z_30 (Ht rfl) (i := 3) rfl rfl rfl)) (bY (Ei := [(9, _)]) rfl rfl (bQ (bJ rfl rfl) bX) rfl rfl (dX rfl (eJ A_34 Z_34 (Ht rfl) (i := 4) rfl rfl rfl)) ?_))))))
 refine Y.D_step (Ei := [(8, _)]) rfl rfl (bQ (bJ rfl rfl) bX) rfl rfl (by kernel_rfl) (dX rfl (cX (Ht rfl))) (Y.D_step (Ei := [(34, _)]) rfl rfl (bQ (bZ 2 rfl rfl) bX) rfl rfl (by kernel_rfl) (dX rfl (op_eql (Ht rfl) cV)) (Y.D_step (Ei := [(35, _)]) rfl rfl (bQ (bZ 3 rfl rfl) bX) rfl rfl (by kernel_rfl) (dX rfl (cX (Ht rfl))) (Y.D_step (Ei := [(7, _), (36, _)]) rfl rfl (bQ (bJ rfl rfl) (bQ (bZ 4 rfl rfl) bX)) rfl rfl (by kernel_rfl) (eK rfl rfl (Ht rfl) (fun h => eJ A_30 Z_30 (Ht rfl) (i := 3) rfl rfl rfl)) ?_)))
 refine Y.D_step (Ei := [(9, _), (36, _)]) rfl rfl (bQ (bJ rfl rfl) (bQ (bZ 4 rfl rfl) bX)) rfl rfl (by kernel_rfl) (eK rfl rfl (Ht rfl) (fun h => eJ A_34 Z_34 (Ht rfl) (i := 4) rfl rfl rfl)) (Y.D_step (Ei := [(37, _), (38, _), (36, _)]) rfl rfl (bQ (bZ 5 rfl rfl) (bQ (bZ 6 rfl rfl) (bQ (bZ 4 rfl rfl) bX))) rfl rfl (by kernel_rfl) (eK rfl rfl (Ht rfl) (fun h => cZ Tryz.call90 (c_is4 (z := ((plZ a zl).map Rt.q)) (s := (rq (plS a sl))) (L := 2) FitL.rt FitM.rt (by decide) (by decide) hsh z1) ⟨(fJ rfl h), (fJ rfl h), trivial⟩)) ?_)
 refine bY (Ei := [(36, _), (39, _)]) rfl rfl (bQ (bZ 4 rfl rfl) (bQ (bZ 7 rfl rfl) bX)) rfl rfl (dX rfl (op_and (Ht rfl) (fun h => (fJ rfl h)))) (Y.D_putI (Ei := [(2, _), (32, _)]) 1 rfl rfl rfl (bQ (bJ rfl rfl) (bQ (bZ 0 rfl rfl) bX)) (.head _) rfl (P_stA Z_30 (Ht rfl) (Ht rfl) rfl (i := 0) rfl (aK rfl) rfl rfl) (Y.D_putI (Ei := [(3, _), (33, _)]) 2 rfl rfl rfl (bQ (bJ rfl rfl) (bQ (bZ 1 rfl rfl) bX)) (.tail _ (.head _)) rfl (P_stA Z_34 (Ht rfl) (Ht rfl) rfl (i := 0) rfl (aK rfl) rfl rfl) ?_))
 refine Y.D_done mixed rfl (by kernel_rfl) rfl (by simp [Y.okP]) rfl rfl (bU (bU (bU (bU (bU (bU (bU (bU (bU (Y.F_putI (Y.F_putI (Y.F_nil ?_))))))))))))
 refine ra rfl (eX (T_ret3 rfl (fK A_30 Z_30 rfl (i := 1) rfl rfl) (fK A_34 Z_34 rfl (i := 2) rfl rfl) (fX (eU rfl) ?_)))
 exact (bool_of (by simp))
end
section
open Go Go.RowKit
theorem pos_ne {x : Qi} (h : posQ x = true) : x ≠ 0 := fun e => (pos_re h).2 (by rw [e]; rfl)
theorem all_ne {z : List Qi} (h : z.all posQ = true) {i : Nat} (hi : i < z.length) : gv z i ≠ 0 := pos_ne (List.all_eq_true.1 h _ (by rw [show gv z i = z[i] by simp [gv, List.getD, hi]]; exact List.getElem_mem hi))
theorem fit_div {x y : Qi} {L M : Nat} (hx : FitC x L) (hy : FitC y M) (h : y ≠ 0) : FitC (x / y) (L + 3 * M + 2) := ⟨hx.fit.div hy.fit h⟩
def rnR (z w : List Qi) (i : Nat) : Qi := gv w i / gv z i
def rnP (z w : List Qi) : List Qi := tab w.length fun i => Qi.ofInt 1 + rnR z w i
def rnM (z w : List Qi) : List Qi := tab w.length fun i => Qi.ofInt 1 - rnR z w i
def mxE (st fa : List Qi) (s : List (List Qi)) (i j : Nat) : Qi := (if i = j then gv st i else Qi.ofInt 0) + gv fa i * gm s i j
def mxM (st fa : List Qi) (s : List (List Qi)) (n : Nat) : List (List Qi) := tab n fun i => tab n fun j => mxE st fa s i j
theorem mxM_shp (st fa : List Qi) (s : List (List Qi)) (n : Nat) : Shp (mxM st fa s n) n n := Shp.tab
theorem mxE_fit {st fa : List Qi} {s : List (List Qi)} {K L : Nat} (hs : FitL st K) (hf : FitL fa K) (hS : FitM s L) (hK : 1 ≤ K) (hL : 1 ≤ L) (i j : Nat) : FitC (mxE st fa s i j) (2 * K + L + 2) := by
 haveI f1 := hf.get hK i
 haveI f2 := hS.get hL i j
 haveI f3 : FitC (if i = j then gv st i else Qi.ofInt 0) K := by
  split
  ·exact hs.get hK i
  ·exact FitC.zero hK
 have : FitC (mxE st fa s i j) (K + (K + L + 1) + 1) := inferInstanceAs (FitC (_ + _ * _) _)
 exact this.le (by omega)
theorem mxM_fit {st fa : List Qi} {s : List (List Qi)} {n K L : Nat} (hs : FitL st K) (hf : FitL fa K) (hS : FitM s L) (hK : 1 ≤ K) (hL : 1 ≤ L) : FitM (mxM st fa s n) (2 * K + L + 2) := FitM.tab fun i j _ _ => mxE_fit hs hf hS hK hL i j
theorem rnR_fit {z w : List Qi} {L M i : Nat} (hz : FitL z L) (hw : FitL w M) (hL : 1 ≤ L) (hM : 1 ≤ M) (hp : z.all posQ = true) (hi : i < z.length) : FitC (rnR z w i) (M + 3 * L + 2) := fit_div (hw.get hM i) (hz.get hL i) (all_ne hp hi)
theorem rnP_fit {z w : List Qi} {L M : Nat} (hz : FitL z L) (hw : FitL w M) (hL : 1 ≤ L) (hM : 1 ≤ M) (hp : z.all posQ = true) (hl : w.length = z.length) : FitL (rnP z w) (M + 3 * L + 4) := FitL.tab fun i hi => by
 haveI f1 := rnR_fit (i := i) hz hw hL hM hp (by omega)
 haveI := fit_one
 have : FitC (Qi.ofInt 1 + rnR z w i) (1 + (M + 3 * L + 2) + 1) := fitAdd
 exact this.le (by omega)
theorem rnM_fit {z w : List Qi} {L M : Nat} (hz : FitL z L) (hw : FitL w M) (hL : 1 ≤ L) (hM : 1 ≤ M) (hp : z.all posQ = true) (hl : w.length = z.length) : FitL (rnM z w) (M + 3 * L + 4) := FitL.tab fun i hi => by
 haveI f1 := rnR_fit (i := i) hz hw hL hM hp (by omega)
 haveI := fit_one
 have : FitC (Qi.ofInt 1 - rnR z w i) (1 + (M + 3 * L + 2) + 1) := fitSub
 exact this.le (by omega)
abbrev rnA (z w : List Qi) (s : List (List Qi)) : List (List Qi) := mxM (rnM z w) (rnP z w) s w.length
abbrev rnB (z w : List Qi) (s : List (List Qi)) : List (List Qi) := mxM (rnP z w) (rnM z w) s w.length
def rnE (z w : List Qi) (s : List (List Qi)) : Int := if w.length ≠ z.length then 4 else if w.all posQ = true then ovE (rnB z w s) w.length else 1
def rnZ (z w : List Qi) (s : List (List Qi)) : List Qi := okL (rnE z w s) w
def rnS (z w : List Qi) (s : List (List Qi)) : List (List Qi) := okL (rnE z w s) (mulM (rnA z w s) (invX (rnB z w s) w.length) w.length w.length w.length)
theorem rn_size {z w : List Qi} {s : List (List Qi)} (h : w.length ≠ z.length) : rnE z w s = 4 := if_pos h
theorem rn_arg {z w : List Qi} {s : List (List Qi)} (h : w.length = z.length) (hp : w.all posQ ≠ true) : rnE z w s = 1 := by rw [rnE, if_neg (fun k => k h), if_neg hp]
theorem rn_ov {z w : List Qi} {s : List (List Qi)} (h : w.length = z.length) (hp : w.all posQ = true) : rnE z w s = ovE (rnB z w s) w.length := by rw [rnE, if_neg (fun k => k h), if_pos hp]
theorem rn_ovX {z w : List Qi} {s : List (List Qi)} (h : w.length = z.length) (hp : w.all posQ = true) : rnS z w s = ovX (rnA z w s) (rnB z w s) w.length := by rw [rnS, rn_ov h hp]; rfl
theorem rn_shp (z w : List Qi) (s : List (List Qi)) : Shp (rnS z w s) (rnZ z w s).length (rnZ z w s).length ∧ (rnZ z w s).length ≤ w.length := by
 by_cases h : rnE z w s = 0
 ·rw [rnZ, rnS, okL, okL, h, if_pos rfl, if_pos rfl]; exact ⟨mulM_shp, Nat.le_refl _⟩
 ·rw [rnZ, rnS, okL, okL, if_neg h, if_neg h]; exact ⟨⟨rfl, fun r hr => by cases hr⟩, Nat.zero_le _⟩
end
section
open Go Go.RowKit
theorem c_netOver {Y M : List (List Qi)} {n L K : Nat} (hY : Shp Y n n) (hM : Shp M n n) (hfY : FitM Y K) (hf : FitM M L) (hK : 1 ≤ K) (hKb : K ≤ 900000000000) (hL : 1 ≤ L) (h1 : 1 ≤ n) (hn : n ≤ 8) (hg : 6 * grow L n + 4 ≤ 17592186044415) (hx : xgr (grow L n) (n + 1) ≤ 900000000000) : Fun Tryz.prog 92 [NumM Y, NumM M] (TupT [NumM (ovX Y M n), IntT .i64 (ovE M n)]) := by
 have hxn := Nat.le_trans (xgr_step (grow L n) n) hx
 refine Fun.intro Tryz.func92 rfl Tryz.ntmps92 rfl (fun cx => (ts (ro rfl (cQ cV) (ro rfl (cQ (cJ 0)) (eX (ts (rm rfl (ro rfl (cZ Tryz.call197 (c_Inv hM hf hL h1 (by omega) hg (by omega)) ⟨(Ht rfl), trivial⟩) (rm rfl (ro rfl (dK (Ht rfl) rfl) (ro rfl (dK (Ht rfl) rfl) (ra rfl (ra rfl (eX (cK (ts (rm rfl (ro rfl (op_neq (Ht rfl) cV) (eX (dQ (Ht rfl) (fun he => ?_) (fun he => ?_)))))))))))))))))))))
 ·have he2 : ¬ invE M n = 0 := by simpa using he
  have ho : ovE M n = 5 := if_neg he2
  refine ts (ro rfl (cQ cV) (ro rfl (cQ (cJ 5)) (eX (T_ret2 rfl (fX (eU rfl) ?_) (fX (eU rfl) ?_)))))
  ·exact (fun v V h => by rw [ovX, ho]; exact nil_slT v V h)
  ·exact (int_of ho.symm)
 ·have he2 : invE M n = 0 := by simpa using he
  have ho : ovE M n = 0 := if_pos he2
  have hif := invX_fit hM hf hL he2
  have hx1 : 1 ≤ xgr (grow L n) n := Nat.le_trans hL (Nat.le_trans (grow_le L n) (xgr_ge (grow L n) n))
  refine T_sub (E' := [(0, _), (1, _), (4, _), (5, _), (6, _), (7, _), (8, _), (9, _), (10, _), (11, _), (12, _), (13, _), (14, _)]) (aQ rfl (aQ rfl (aQ rfl (aQ rfl (aZ rfl (slT_of (Us := (invX M n).map NumsT) (by rw [he2]; rfl)) (aQ rfl (aQ rfl (aQ rfl (aQ rfl (aQ rfl (aQ rfl (aQ rfl (aQ rfl aX))))))))))))) ?_
  refine cU (ts (rm rfl (rm rfl (ro rfl (cZ Tryz.call76 (c_Prod (n := n) (k := n) (m := n) hY (invX_shp M n) hfY hif hK hx1 hKb hxn h1 h1 hn hn hn) ⟨(Ht rfl), (Ht rfl), trivial⟩) (ro rfl (dK (Ht rfl) rfl) (ro rfl (dK (Ht rfl) rfl) (ra rfl (ra rfl (eX (T_ret2 rfl (fX (eU rfl) ?_) (fX (eU rfl) ?_)))))))))))
  ·exact (slT_of (by rw [ovX, ho]; rfl))
  ·exact (int_of ho.symm)
theorem c_netUnder {Y M : List (List Qi)} {n L K : Nat} (hY : Shp Y n n) (hM : Shp M n n) (hfY : FitM Y K) (hf : FitM M L) (hK : 1 ≤ K) (hKb : K ≤ 900000000000) (hL : 1 ≤ L) (h1 : 1 ≤ n) (hn : n ≤ 8) (hg : 6 * grow L n + 4 ≤ 17592186044415) (hx : xgr (grow L n) (n + 1) ≤ 900000000000) : Fun Tryz.prog 104 [NumM M, NumM Y] (TupT [NumM (unX M Y n), IntT .i64 (ovE M n)]) := by
 have hxn := Nat.le_trans (xgr_step (grow L n) n) hx
 refine Fun.intro Tryz.func104 rfl Tryz.ntmps104 rfl (fun cx => (ts (ro rfl (cQ cV) (ro rfl (cQ (cJ 0)) (eX (ts (rm rfl (ro rfl (cZ Tryz.call197 (c_Inv hM hf hL h1 (by omega) hg (by omega)) ⟨(Ht rfl), trivial⟩) (rm rfl (ro rfl (dK (Ht rfl) rfl) (ro rfl (dK (Ht rfl) rfl) (ra rfl (ra rfl (eX (cK (ts (rm rfl (ro rfl (op_neq (Ht rfl) cV) (eX (dQ (Ht rfl) (fun he => ?_) (fun he => ?_)))))))))))))))))))))
 ·have he2 : ¬ invE M n = 0 := by simpa using he
  have ho : ovE M n = 5 := if_neg he2
  refine ts (ro rfl (cQ cV) (ro rfl (cQ (cJ 5)) (eX (T_ret2 rfl (fX (eU rfl) ?_) (fX (eU rfl) ?_)))))
  ·exact (fun v V h => by rw [unX, ho]; exact nil_slT v V h)
  ·exact (int_of ho.symm)
 ·have he2 : invE M n = 0 := by simpa using he
  have ho : ovE M n = 0 := if_pos he2
  have hif := invX_fit hM hf hL he2
  have hx1 : 1 ≤ xgr (grow L n) n := Nat.le_trans hL (Nat.le_trans (grow_le L n) (xgr_ge (grow L n) n))
  refine T_sub (E' := [(0, _), (1, _), (4, _), (5, _), (6, _), (7, _), (8, _), (9, _), (10, _), (11, _), (12, _), (13, _), (14, _)]) (aQ rfl (aQ rfl (aQ rfl (aQ rfl (aZ rfl (slT_of (Us := (invX M n).map NumsT) (by rw [he2]; rfl)) (aQ rfl (aQ rfl (aQ rfl (aQ rfl (aQ rfl (aQ rfl (aQ rfl (aQ rfl aX))))))))))))) ?_
  refine cU (ts (rm rfl (rm rfl (ro rfl (cZ Tryz.call76 (c_Prod (n := n) (k := n) (m := n) (invX_shp M n) hY hif hfY hx1 hK hxn hKb h1 h1 hn hn hn) ⟨(Ht rfl), (Ht rfl), trivial⟩) (ro rfl (dK (Ht rfl) rfl) (ro rfl (dK (Ht rfl) rfl) (ra rfl (ra rfl (eX (T_ret2 rfl (fX (eU rfl) ?_) (fX (eU rfl) ?_)))))))))))
  ·exact (slT_of (by rw [unX, ho]; rfl))
  ·exact (int_of ho.symm)
theorem rn_both {P : Program} {f : FuncId} {A1 A2 B1 B2 C1 C2 : Ty} {R1 R2 : Ty} {x : Bool} (h1 : Fun P f [A1, A2, C1, C2] R1) (h2 : Fun P f [B1, B2, C1, C2] R2) : Fun P f ((cond x [A1, A2] [B1, B2]) ++ [C1, C2]) (cond x R1 R2) := by cases x; exact h2; exact h1
theorem c_rn11 {st fa z : List Qi} {s : List (List Qi)} {n i j K L : Nat} (hst : st.length = n) (hfa : fa.length = n) (hs : Shp s n n) (h1 : FitL st K) (h2 : FitL fa K) (h3 : FitM s L) (hK : 1 ≤ K) (hL : 1 ≤ L) (hb : 2 * K + L + 2 ≤ 900000000000) (hi : i < n) (hj : j < n) : Fun Tryz.prog 183 [NT .i64 i, NT .i64 j, PT (NumsT st), PT (NumsT fa), PT (NetT z s)] (NumT (mxE st fa s i j)) := by
 have hsl := hs.1
 have hsr := hs.row hi
 haveI f1 : FitC (gv fa i) K := h2.get hK i
 haveI f2 : FitC (gm s i j) L := h3.get hL i j
 refine Fun.intro Tryz.func183 rfl Tryz.ntmps183 rfl (fun cx => (ts (rn rfl (eW (Ts := [Is (.bool false), Is (.slice none 0 0), Is (.bool false), Is (.slice none 0 0), Is (.slice none 0 0)]) O_45 rfl (fun V => aW ⟨rfl, trivial⟩ (aW ⟨rfl, trivial⟩ (aW ⟨rfl, trivial⟩ (aW ⟨rfl, trivial⟩ (aW ⟨rfl, trivial⟩ (aG))))))) fun B7 => (eX (ts (ro rfl (cZ Tryz.call121 (c_whole (n := 0) (by decide) (by decide)) ⟨(cJ 0), trivial⟩) (rn rfl (eW (Ts := [Is (.bool false), Is (.slice none 0 0), Is (.bool false), Is (.slice none 0 0), Is (.slice none 0 0)]) O_45 rfl (fun V => aW ⟨rfl, trivial⟩ (aW ⟨rfl, trivial⟩ (aW ⟨rfl, trivial⟩ (aW ⟨rfl, trivial⟩ (aW ⟨rfl, trivial⟩ (aG))))))) fun B8 => ?_)))))))
 refine gQ Z_45 (Ht rfl) (Ht rfl) rfl (i := 1) rfl (aK rfl) rfl rfl (eX (cK (T_join (fun (x : Qi) => x = (if i = j then gv st i else Qi.ofInt 0)) (fun (x : Qi) => [(0, NT .i64 i), (1, NT .i64 j), (3, PT (NumsT fa)), (4, PT (NetT z s)), (7, PtrB B7 0), (8, PtrB B8 0)]) (fun (x : Qi) => [box B7 45 [Is (.bool false), Is (.slice none 0 0), Is (.bool false), Is (.slice none 0 0), Is (.slice none 0 0)], box B8 45 [BoolT (decide (x.a < 0)), NatT x.a.natAbs, BoolT (decide (x.b < 0)), NatT x.b.natAbs, NatT (du x)]]) ?_ (fun x hx => ?_))))
 ·refine ts (rm rfl (rm rfl (ro rfl (op_eqlN (Ht rfl) (Ht rfl)) (eX (dQ (Ht rfl) (fun hb => ?_) (fun hb => ?_))))))
  ·have hij : i = j := by simpa using hb
   refine cY (ro rfl (dJ A_27 Z_27 (Ht rfl)) (rm rfl (ro rfl (dZ U_27 Z_45 (Ht rfl) (Ht rfl) rfl (dY (dU (d := Qi.zero) (by omega)))) (ro rfl (dJ A_45 Z_45 (Ht rfl)) (gQ Z_45 (Ht rfl) (Ht rfl) rfl (i := 1) rfl (aK rfl) rfl rfl (eX (T_joined (gv st i) (by rw [if_pos hij]) (aQ rfl (aQ rfl (aQ rfl (aQ rfl (aQ rfl (aQ rfl aX)))))) (HSub.refl _))))))))
  ·have hij : ¬ i = j := by simpa using hb
   refine cU (T_joined (Qi.ofInt 0) (by rw [if_neg hij]) (aQ rfl (aQ rfl (aQ rfl (aQ rfl (aQ rfl (aQ rfl aX)))))) (HSub.refl _))
 ·haveI f3 : FitC x K := by
   rw [hx]; split
   ·exact h1.get hK i
   ·exact FitC.zero hK
  refine cK (fZ (m := 16) (dp 8 rfl (eJ A_45 Z_45 (Ht rfl) (i := 1) rfl rfl rfl) (dq 17 0 rfl (op_iface mkif_45 (Ht rfl)) (dp 3 rfl (dJ A_27 Z_27 (Ht rfl)) (dp 0 rfl (cX (Ht rfl)) (dqq 19 2 20 3 rfl (dZ U_27 Z_45 (Ht rfl) (Ht rfl) rfl (dY (dU (d := Qi.zero) (by omega)))) (dq 21 4 rfl (dJ A_45 Z_45 (Ht rfl)) (dq 22 5 rfl (op_iface mkif_45 (Ht rfl)) (dp 4 rfl (op_fld1 fa_30_1 (Ht rfl) rfl) (dq 24 7 rfl (dJ A_28 Z_28 (Ht rfl)) (dp 0 rfl (cX (Ht rfl)) ?_)))))))))))
  refine dqq 25 8 26 9 rfl (dZ U_28 Z_27 (Ht rfl) (Ht rfl) rfl (dY (dU (d := []) (by omega)))) (dq 27 10 rfl (dJ A_27 Z_27 (Ht rfl)) (dp 1 rfl (cX (Ht rfl)) (dqq 28 11 29 12 rfl (dZ U_27 Z_45 (Ht rfl) (Ht rfl) rfl (dY (dU (d := Qi.zero) (by omega)))) (dq 30 13 rfl (dJ A_45 Z_45 (Ht rfl)) (dqq 23 6 31 14 rfl (op_invoke meth_45_Mul K_67 (c_Mul (x := gv fa i) (y := gm s i j) (L := K) (M := L) (by omega)) (Ht rfl) ⟨(Ht rfl), trivial⟩) (fV mixed rfl (by kernel_rfl) (aJ (aJ (aJ (aJ (aJ (aJ (aJ (aJ (aJ (aJ (aJ (aJ (aJ (aJ (aJ (aJ (aV ?_)))))))))))))))))))))))
  refine ro rfl (op_invoke meth_45_Add K_68 (c_Add (x := x) (y := gv fa i * gm s i j) (L := K) (M := K + L + 1) (by omega)) (Ht rfl) ⟨(Ht rfl), trivial⟩) (gQ Z_45 (Ht rfl) (Ht rfl) rfl (i := 0) rfl (aK rfl) rfl rfl (eX (fW rfl (fX (fK A_45 Z_45 rfl (i := 0) rfl rfl) ?_))))
  exact (num_of (by rw [hx]; rfl))
theorem c_rn1 {st fa z w : List Qi} {s : List (List Qi)} {n K L : Nat} (hw : w.length = n) (hn : n ≤ 1000) (hst : st.length = n) (hfa : fa.length = n) (hs : Shp s n n) (h1 : FitL st K) (h2 : FitL fa K) (h3 : FitM s L) (hK : 1 ≤ K) (hL : 1 ≤ L) (hb : 2 * K + L + 2 ≤ 900000000000) : Fun Tryz.prog 182 [NumsT st, NumsT fa, PT (NumsT w), PT (NetT z s)] (NumM (mxM st fa s n)) := by
 refine Fun.intro Tryz.func182 rfl Tryz.ntmps182 rfl (fun cx => (ts (rn rfl (new_box1 (Ht rfl)) fun B4 => (rn rfl (new_box1 (Ht rfl)) fun B5 => (ro rfl (cQ cV) (eX (cK (gJ (i := 0) (tt := 4) rfl rfl frz_ptr1 (gJ (i := 1) (tt := 5) rfl rfl frz_ptr1 (cY (ro rfl (dJ A_27 Z_27 (Ht rfl)) (ro rfl (dG U_27 (Ht rfl) (by rw [List.length_map, hw])) ?_))))))))))))
 refine ro rfl (op_clos (γ := Fin n × Fin n) (Ts := fun x => [NT .i64 x.1.1, NT .i64 x.2.1]) (U := fun x => NumT (mxE st fa s x.1.1 x.2.1)) Tryz.call183 (fun x => c_rn11 hst hfa hs h1 h2 h3 hK hL hb x.1.2 x.2.2) ⟨(Ht rfl), (Ht rfl), (Ht rfl), trivial⟩) (ro rfl (cZ K_119 (c_fill (n := n) (f := fun i j => mxE st fa s i j) hn) ⟨(Ht rfl), (Ht rfl), trivial⟩) (ra rfl (eX ?_)))
 exact fW rfl (eU rfl)
end
section
open Go Go.RowKit
def impE (z : List Qi) (s : List (List Qi)) : Int := ovE (plM 1 (-1) s z.length) z.length
def impM (z : List Qi) (s : List (List Qi)) : List (List Qi) := tab z.length fun i => tab z.length fun j => gm (mulM (plM 1 1 s z.length) (invX (plM 1 (-1) s z.length) z.length) z.length z.length z.length) i j * gv z j
def impX (z : List Qi) (s : List (List Qi)) : List (List Qi) := okL (impE z s) (impM z s)
def admE (z : List Qi) (s : List (List Qi)) : Int := ovE (plM 1 1 s z.length) z.length
def admM (z : List Qi) (s : List (List Qi)) : List (List Qi) := tab z.length fun i => tab z.length fun j => gm (mulM (plM 1 (-1) s z.length) (invX (plM 1 1 s z.length) z.length) z.length z.length z.length) i j / gv z i
def admX (z : List Qi) (s : List (List Qi)) : List (List Qi) := okL (admE z s) (admM z s)
def fiQ (z : List Qi) (m : List (List Qi)) : List (List Qi) := tab z.length fun i => tab z.length fun j => gm m i j / gv z j
def faQ (z : List Qi) (m : List (List Qi)) : List (List Qi) := tab z.length fun i => tab z.length fun j => gv z i * gm m i j
def frE (z : List Qi) (m q : List (List Qi)) : Int := if netErr z m = 0 then ovE (plM 1 1 q z.length) z.length else netErr z m
def frM (z : List Qi) (q r : List (List Qi)) : List (List Qi) := mulM (invX (plM 1 1 q z.length) z.length) r z.length z.length z.length
def frZ (z : List Qi) (m q : List (List Qi)) : List Qi := okL (frE z m q) z
def frS (z : List Qi) (m q r : List (List Qi)) : List (List Qi) := okL (frE z m q) (frM z q r)
theorem fr_bad {z : List Qi} {m q : List (List Qi)} (h : netErr z m ≠ 0) : frE z m q = netErr z m := if_neg h
theorem fr_ok {z : List Qi} {m q : List (List Qi)} (h : netErr z m = 0) : frE z m q = ovE (plM 1 1 q z.length) z.length := if_pos h
theorem fit_p1 : FitC (Qi.ofInt 1) 1 := fit_one
theorem fit_m1 : FitC (Qi.ofInt (-1)) 1 := by haveI := fit_one; exact (fitNeg : FitC (-(Qi.ofInt 1)) 1)
theorem fiQ_fit {z : List Qi} {m : List (List Qi)} {L M : Nat} (hz : FitL z M) (hm : FitM m L) (hL : 1 ≤ L) (hM : 1 ≤ M) (hp : z.all posQ = true) : FitM (fiQ z m) (L + 3 * M + 2) := FitM.tab fun i j _ hj => fit_div (hm.get hL i j) (hz.get hM j) (all_ne hp hj)
theorem faQ_fit {z : List Qi} {m : List (List Qi)} {L M : Nat} (hz : FitL z M) (hm : FitM m L) (hL : 1 ≤ L) (hM : 1 ≤ M) : FitM (faQ z m) (M + L + 1) := FitM.tab fun i j _ _ => by
 haveI := hm.get hL i j; haveI := hz.get hM i; exact fitMul
end
section
open Go Go.RowKit
theorem c_column {i j : Nat} : Fun Tryz.prog 95 [NT .i64 i, NT .i64 j] (NT .i64 j) := by
 refine Fun.intro Tryz.func95 rfl Tryz.ntmps95 rfl (fun cx => (ts (ro rfl (cQ (cJ 0)) (eX (ts (rm rfl (ra rfl (eX ?_))))))))
 exact fW rfl (eU rfl)
theorem c_row {i j : Nat} : Fun Tryz.prog 100 [NT .i64 i, NT .i64 j] (NT .i64 i) := by
 refine Fun.intro Tryz.func100 rfl Tryz.ntmps100 rfl (fun cx => (ts (ro rfl (cQ (cJ 0)) (eX (ts (rm rfl (ra rfl (eX ?_))))))))
 exact fW rfl (eU rfl)
theorem c_netTimes {x y : Qi} {L M : Nat} [hx : FitC x L] [hy : FitC y M] (h : L + M + 1 ≤ 17592186044415) : Fun Tryz.prog 96 [NumT x, NumT y] (TupT [NumT (x * y), IntT .i64 0]) := by
 refine Fun.intro Tryz.func96 rfl Tryz.ntmps96 rfl (fun cx => (ts (rn rfl (fG (Ht rfl)) fun B2 => (rn rfl (fG (Ht rfl)) fun B3 => (rn rfl (eW (Ts := [Is (.bool false), Is (.slice none 0 0), Is (.bool false), Is (.slice none 0 0), Is (.slice none 0 0)]) O_45 rfl (fun V => aW ⟨rfl, trivial⟩ (aW ⟨rfl, trivial⟩ (aW ⟨rfl, trivial⟩ (aW ⟨rfl, trivial⟩ (aW ⟨rfl, trivial⟩ (aG))))))) fun B4 => (ro rfl (cQ (cJ 0)) (eX (ts (ro rfl (eJ A_45 Z_45 (Ht rfl) (i := 0) rfl rfl rfl) (ro rfl (op_iface mkif_45 (Ht rfl)) ?_))))))))))
 refine ro rfl (eJ A_45 Z_45 (Ht rfl) (i := 1) rfl rfl rfl) (ro rfl (op_invoke meth_45_Mul K_67 (c_Mul (x := x) (y := y) (L := L) (M := M) h) (Ht rfl) ⟨(Ht rfl), trivial⟩) (gQ Z_45 (Ht rfl) (Ht rfl) rfl (i := 2) rfl (aK rfl) rfl rfl (ro rfl (cQ (cJ 0)) (eX ?_))))
 exact T_ret2 rfl (fK A_45 Z_45 rfl (i := 2) rfl rfl) (eU rfl)
theorem c_before {x y : Qi} {L M : Nat} [hx : FitC x L] [hy : FitC y M] (h : L + M + 1 ≤ 17592186044415) : Fun Tryz.prog 107 [NumT x, NumT y] (TupT [NumT (y * x), IntT .i64 0]) := by
 refine Fun.intro Tryz.func107 rfl Tryz.ntmps107 rfl (fun cx => (ts (rn rfl (fG (Ht rfl)) fun B2 => (rn rfl (fG (Ht rfl)) fun B3 => (rn rfl (eW (Ts := [Is (.bool false), Is (.slice none 0 0), Is (.bool false), Is (.slice none 0 0), Is (.slice none 0 0)]) O_45 rfl (fun V => aW ⟨rfl, trivial⟩ (aW ⟨rfl, trivial⟩ (aW ⟨rfl, trivial⟩ (aW ⟨rfl, trivial⟩ (aW ⟨rfl, trivial⟩ (aG))))))) fun B4 => (ro rfl (cQ (cJ 0)) (eX (ts (ro rfl (eJ A_45 Z_45 (Ht rfl) (i := 1) rfl rfl rfl) (ro rfl (op_iface mkif_45 (Ht rfl)) ?_))))))))))
 refine ro rfl (eJ A_45 Z_45 (Ht rfl) (i := 0) rfl rfl rfl) (ro rfl (op_invoke meth_45_Mul K_67 (c_Mul (x := y) (y := x) (L := M) (M := L) (by omega)) (Ht rfl) ⟨(Ht rfl), trivial⟩) (gQ Z_45 (Ht rfl) (Ht rfl) rfl (i := 2) rfl (aK rfl) rfl rfl (ro rfl (cQ (cJ 0)) (eX ?_))))
 exact T_ret2 rfl (fK A_45 Z_45 rfl (i := 2) rfl rfl) (eU rfl)
theorem c_divided {x y : Qi} {L M : Nat} [hx : FitC x L] [hy : FitC y M] (h : L + 3 * M + 2 ≤ 17592186044415) : Fun Tryz.prog 101 [NumT x, NumT y] (TupT [NumT (x / y), IntT .i64 (if y = Qi.zero then 3 else 0)]) := by
 refine Fun.intro Tryz.func101 rfl Tryz.ntmps101 rfl (fun cx => (ts (rn rfl (fG (Ht rfl)) fun B2 => (rn rfl (fG (Ht rfl)) fun B3 => (rn rfl (eW (Ts := [Is (.bool false), Is (.slice none 0 0), Is (.bool false), Is (.slice none 0 0), Is (.slice none 0 0)]) O_45 rfl (fun V => aW ⟨rfl, trivial⟩ (aW ⟨rfl, trivial⟩ (aW ⟨rfl, trivial⟩ (aW ⟨rfl, trivial⟩ (aW ⟨rfl, trivial⟩ (aG))))))) fun B4 => (ro rfl (cQ (cJ 0)) (eX (ts (ro rfl (eJ A_45 Z_45 (Ht rfl) (i := 0) rfl rfl rfl) (ro rfl (op_iface mkif_45 (Ht rfl)) ?_))))))))))
 refine ro rfl (eJ A_45 Z_45 (Ht rfl) (i := 1) rfl rfl rfl) (ro rfl (op_invoke meth_45_Div Tryz.call59 (c_Div (x := x) (y := y) (L := L) (M := M) h) (Ht rfl) ⟨(Ht rfl), trivial⟩) (ro rfl (dK (Ht rfl) rfl) (ro rfl (dK (Ht rfl) rfl) (gQ Z_45 (Ht rfl) (Ht rfl) rfl (i := 2) rfl (aK rfl) rfl rfl (ra rfl (eX ?_))))))
 exact T_ret2 rfl (fK A_45 Z_45 rfl (i := 2) rfl rfl) (eU rfl)
theorem c_scaled1 {m : List (List Qi)} {n i j : Nat} (hm : Shp m n n) (hi : i < n) (hj : j < n) : Fun Tryz.prog 199 [NT .i64 i, NT .i64 j, PT (NumM m)] (NumT (gm m i j)) := by
 have hml := hm.1
 have hmr := hm.row hi
 refine Fun.intro Tryz.func199 rfl Tryz.ntmps199 rfl (fun cx => (ts (rn rfl (eW (Ts := [Is (.bool false), Is (.slice none 0 0), Is (.bool false), Is (.slice none 0 0), Is (.slice none 0 0)]) O_45 rfl (fun V => aW ⟨rfl, trivial⟩ (aW ⟨rfl, trivial⟩ (aW ⟨rfl, trivial⟩ (aW ⟨rfl, trivial⟩ (aW ⟨rfl, trivial⟩ (aG))))))) fun B5 => (eX (ts (ro rfl (dJ A_28 Z_28 (Ht rfl)) (rm rfl (ro rfl (dZ U_28 Z_27 (Ht rfl) (Ht rfl) rfl (dY (dU (d := []) (by omega)))) (ro rfl (dJ A_27 Z_27 (Ht rfl)) ?_)))))))))
 refine rm rfl (ro rfl (dZ U_27 Z_45 (Ht rfl) (Ht rfl) rfl (dY (dU (d := Qi.zero) (by omega)))) (ro rfl (dJ A_45 Z_45 (Ht rfl)) (gQ Z_45 (Ht rfl) (Ht rfl) rfl (i := 0) rfl (aK rfl) rfl rfl (eX ?_))))
 exact fW rfl (fK A_45 Z_45 rfl (i := 0) rfl rfl)
theorem c_netScaled {m : List (List Qi)} {z : List Qi} {n L M : Nat} {ak : Nat → Nat → Nat} {op : Qi → Qi → Qi} (hm : Shp m n n) (hz : z.length = n) (hf : FitM m L) (hfz : FitL z M) (hp : z.all posQ = true) (hL : 1 ≤ L) (hM : 1 ≤ M) (hn : n ≤ 1000) (ha : ∀ i j, i < n → j < n → ak i j < n) : Fun Tryz.prog 94 [NumM m, NumsT z, ClT Tryz.prog (Nat × Nat) (fun x => [NT .i64 x.1, NT .i64 x.2]) (fun x => NT .i64 (ak x.1 x.2)), ClT Tryz.prog {p : Qi × Qi // FitC p.1 L ∧ FitC p.2 M ∧ p.2 ≠ 0} (fun p => [NumT p.1.1, NumT p.1.2]) (fun p => TupT [NumT (op p.1.1 p.1.2), IntT .i64 0])] (TupT [NumM (tab n fun i => tab n fun j => op (gm m i j) (gv z (ak i j))), IntT .i64 0]) := by
 have hml := hm.1
 refine Fun.intro Tryz.func94 rfl Tryz.ntmps94 rfl (fun cx => (ts (rn rfl (new_box1 (Ht rfl)) fun B4 => (ro rfl (cQ cV) (ro rfl (cQ (cJ 0)) (eX (cK (gJ (i := 0) (tt := 4) rfl rfl frz_ptr1 (cY (ro rfl (dJ A_28 Z_28 (Ht rfl)) (ro rfl (dG U_28 (Ht rfl) (by rw [List.length_map, hml])) ?_)))))))))))
 refine ro rfl (op_clos (γ := Fin n × Fin n) (Ts := fun x => [NT .i64 x.1.1, NT .i64 x.2.1]) (U := fun x => NumT (gm m x.1.1 x.2.1)) Tryz.call199 (fun x => c_scaled1 hm x.1.2 x.2.2) ⟨(Ht rfl), trivial⟩) (R_call0 K_119 (c_fillO (n := n) (f := fun i j => gm m i j) hn) ⟨(Ht rfl), (Ht rfl), trivial⟩ rfl (fun B18 _ => (ra rfl (eX (cK (ts (rm rfl (ro rfl (op_lenI U_28 (Ht rfl)) (ro rfl (cX (cJ 0)) (eX (eG (T_keep [1] rfl (by decide) ?_))))))))))))
 refine T_loop (fun (i : Nat) => i ≤ n) (fun (i : Nat) => n - i) (fun (i : Nat) => [(1, NumsT z), (2, ClT Tryz.prog (Nat × Nat) (fun x => [NT .i64 x.1, NT .i64 x.2]) (fun x => NT .i64 (ak x.1 x.2))), (3, ClT Tryz.prog {p : Qi × Qi // FitC p.1 L ∧ FitC p.2 M ∧ p.2 ≠ 0} (fun p => [NumT p.1.1, NumT p.1.2]) (fun p => TupT [NumT (op p.1.1 p.1.2), IntT .i64 0])), (10, Is (.slice (some ⟨B18, 0, none⟩) n n)), (20, NT .i64 n), (21, NT .i64 i)]) (fun (i : Nat) => [matO B18 27 45 5 (FRow NumT (mixG (fun i => tab n fun j => op (gm m i j) (gv z (ak i j))) (fun i => tab n fun j => gm m i j) n i))]) 0 (Nat.zero_le _)
  (aQ rfl (aQ rfl (aQ rfl (aQ rfl (aQ rfl (aQ rfl aX)))))) (aU (matO_of (by rw [← mixG_zero])) aY) (fun i hi => ?_)
 refine ts (ro rfl (gX (Ht rfl) (Ht rfl)) (eX (cK (dQ (Ht rfl) (fun hc => ?_) (fun hc => ?_)))))
 ·have hin : i < n := by simp only [decide_eq_true_eq] at hc; omega
  have hrt := tab_len n fun j => gm m i j
  refine T_focus 0 (i) rfl (frow_mixG hin) (fun v0 => (cU (cK (eG (ts (rm rfl (ra rfl (eX (ts (rm rfl (rm rfl (ro rfl (fY U_28 Z_27 (Ht rfl) (Ht rfl) rfl (by omega) (by rw [Nat.mul_one, Nat.zero_add])) ?_))))))))))))
  refine ro rfl (op_ldH A_27 Z_27 (Ht rfl) (j := 0) rfl) (ro rfl (op_lenO U_27 (Ht rfl) (i := 1) rfl (by rw [List.length_map, hrt])) ?_)
  refine ro rfl (cX (cJ 0)) (eX (eG ?_))
  refine T_loop (fun (j : Nat) => j ≤ n) (fun (j : Nat) => n - j) (fun (j : Nat) => [(1, NumsT z), (2, ClT Tryz.prog (Nat × Nat) (fun x => [NT .i64 x.1, NT .i64 x.2]) (fun x => NT .i64 (ak x.1 x.2))), (3, ClT Tryz.prog {p : Qi × Qi // FitC p.1 L ∧ FitC p.2 M ∧ p.2 ≠ 0} (fun p => [NumT p.1.1, NumT p.1.2]) (fun p => TupT [NumT (op p.1.1 p.1.2), IntT .i64 0])), (10, Is (.slice (some ⟨B18, 0, none⟩) n n)), (11, NT .i64 i), (20, NT .i64 n), (21, NT .i64 i), (28, NT .i64 n), (29, NT .i64 j)]) (fun (j : Nat) => [matH B18 27 45 5 (FRow NumT (mixG (fun i => tab n fun j => op (gm m i j) (gv z (ak i j))) (fun i => tab n fun j => gm m i j) n i)) i v0, rowO 45 5 v0 ((mixG (fun j => op (gm m i j) (gv z (ak i j))) (fun j => gm m i j) n j).map NumT)]) 0 (Nat.zero_le _)
   (aQ rfl (aQ rfl (aQ rfl (aQ rfl (aQ rfl (aQ rfl (aQ rfl (aQ rfl (aQ rfl aX))))))))) (aU (fun _ _ _ h => h) (aU (rowO_of (by rw [← mixG_zero])) aY)) (fun j hj => ?_)
  refine ts (ro rfl (gX (Ht rfl) (Ht rfl)) (eX (cK (dQ (Ht rfl) (fun hd => ?_) (fun hd => ?_)))))
  ·have hjn : j < n := by simp only [decide_eq_true_eq] at hd; omega
   have hrl := mixG_len (fun j => op (gm m i j) (gv z (ak i j))) (fun j => gm m i j) n j
   have hak := ha i j hin hjn
   haveI g1 : FitC (gm m i j) L := hf.get hL i j
   haveI g2 : FitC (gv z (ak i j)) M := hfz.get hM _
   have hzn := all_ne hp (show ak i j < z.length by omega)
   refine cU (cK (eG (ts (rm rfl (ra rfl (eX (cK (Y.D_start (m := 30) [] (bY (Ei := [(3, _)]) rfl rfl (bQ (bJ rfl rfl) bX) rfl rfl (dX rfl (cX (Ht rfl))) (bY (Ei := [(10, _)]) rfl rfl (bQ (bJ rfl rfl) bX) rfl rfl (dX rfl (cX (Ht rfl))) (bY (Ei := [(11, _)]) rfl rfl (bQ (bJ rfl rfl) bX) rfl rfl (dX rfl (cX (Ht rfl))) (bY (Ei := [(34, _), (35, _)]) rfl rfl (bQ (bZ 1 rfl rfl) (bQ (bZ 2 rfl rfl) bX)) rfl rfl (dX rfl (fY U_28 Z_27 (Ht rfl) (Ht rfl) rfl (by omega) (by rw [Nat.mul_one, Nat.zero_add]))) ?_))))))))))))
   refine bY (Ei := [(36, _)]) rfl rfl (bQ (bZ 3 rfl rfl) bX) rfl rfl (dX rfl (op_ldH A_27 Z_27 (Ht rfl) (j := 0) rfl)) (bY (Ei := [(12, _)]) rfl rfl (bQ (bJ rfl rfl) bX) rfl rfl (dX rfl (cX (Ht rfl))) (bY (Ei := [(37, _), (38, _)]) rfl rfl (bQ (bZ 4 rfl rfl) (bQ (bZ 5 rfl rfl) bX)) rfl rfl (dX rfl (op_idxO U_27 Z_45 (Ht rfl) (Ht rfl) rfl (i := 1) rfl (by rw [List.length_map, hrl]; exact hjn) rfl)) ?_))
   refine bY (Ei := [(39, _)]) rfl rfl (bQ (bZ 6 rfl rfl) bX) rfl rfl (dX rfl (op_ldO A_45 Z_45 (Ht rfl) (i := 1) rfl rfl (dY (mixG_get hjn)))) (bY (Ei := [(10, _)]) rfl rfl (bQ (bJ rfl rfl) bX) rfl rfl (dX rfl (cX (Ht rfl))) (bY (Ei := [(11, _)]) rfl rfl (bQ (bJ rfl rfl) bX) rfl rfl (dX rfl (cX (Ht rfl))) (bY (Ei := [(41, _), (42, _)]) rfl rfl (bQ (bZ 8 rfl rfl) (bQ (bZ 9 rfl rfl) bX)) rfl rfl (dX rfl (fY U_28 Z_27 (Ht rfl) (Ht rfl) rfl (by omega) (by rw [Nat.mul_one, Nat.zero_add]))) ?_)))
   refine bY (Ei := [(43, _)]) rfl rfl (bQ (bZ 10 rfl rfl) bX) rfl rfl (dX rfl (op_ldH A_27 Z_27 (Ht rfl) (j := 0) rfl)) (bY (Ei := [(12, _)]) rfl rfl (bQ (bJ rfl rfl) bX) rfl rfl (dX rfl (cX (Ht rfl))) (bY (Ei := [(44, _), (45, _)]) rfl rfl (bQ (bZ 11 rfl rfl) (bQ (bZ 12 rfl rfl) bX)) rfl rfl (dX rfl (op_idxO U_27 Z_45 (Ht rfl) (Ht rfl) rfl (i := 1) rfl (by rw [List.length_map, hrl]; exact hjn) rfl)) ?_))
   refine bY (Ei := [(46, _)]) rfl rfl (bQ (bZ 13 rfl rfl) bX) rfl rfl (dX rfl (op_ldO A_45 Z_45 (Ht rfl) (i := 1) rfl rfl (dY (mixG_get hjn)))) (bY (Ei := [(47, _)]) rfl rfl (bQ (bZ 14 rfl rfl) bX) rfl rfl (dX rfl (op_iface mkif_45 (Ht rfl))) (bY (Ei := [(1, _)]) rfl rfl (bQ (bJ rfl rfl) bX) rfl rfl (dX rfl (cX (Ht rfl))) (bY (Ei := [(2, _)]) rfl rfl (bQ (bJ rfl rfl) bX) rfl rfl (dX rfl (cX (Ht rfl))) (bY (Ei := [(11, _)]) rfl rfl (bQ (bJ rfl rfl) bX) rfl rfl (dX rfl (cX (Ht rfl))) ?_))))
   refine bY (Ei := [(12, _)]) rfl rfl (bQ (bJ rfl rfl) bX) rfl rfl (dX rfl (cX (Ht rfl))) (bY (Ei := [(50, _), (51, _), (52, _)]) rfl rfl (bQ (bZ 17 rfl rfl) (bQ (bZ 18 rfl rfl) (bQ (bZ 19 rfl rfl) bX))) rfl rfl (dX rfl (op_callV (i, j) (Ht rfl) ⟨(Ht rfl), (Ht rfl), trivial⟩)) (bY (Ei := [(49, _), (53, _)]) rfl rfl (bQ (bZ 16 rfl rfl) (bQ (bZ 20 rfl rfl) bX)) rfl rfl (dX rfl (dZ U_27 Z_45 (Ht rfl) (Ht rfl) rfl (dY (dU (d := Qi.zero) (show ak i j < z.length by omega))))) ?_))
   refine bY (Ei := [(54, _)]) rfl rfl (bQ (bZ 21 rfl rfl) bX) rfl rfl (dX rfl (dJ A_45 Z_45 (Ht rfl))) (bY (Ei := [(48, _), (55, _)]) rfl rfl (bQ (bZ 15 rfl rfl) (bQ (bZ 22 rfl rfl) bX)) rfl rfl (dX rfl (op_invoke meth_45_Of K_302 c_Of (Ht rfl) ⟨(Ht rfl), trivial⟩)) (bY (Ei := [(33, _), (40, _), (56, _)]) rfl rfl (bQ (bZ 0 rfl rfl) (bQ (bZ 7 rfl rfl) (bQ (bZ 23 rfl rfl) bX))) rfl rfl (dX rfl (op_callV ⟨(gm m i j, gv z (ak i j)), g1, g2, hzn⟩ (Ht rfl) ⟨(Ht rfl), (Ht rfl), trivial⟩)) ?_))
   refine bY (Ei := [(57, _)]) rfl rfl (bQ (bZ 24 rfl rfl) bX) rfl rfl (dX rfl (cX (Ht rfl))) (bY (Ei := [(32, _)]) rfl rfl (bQ (bZ 25 rfl rfl) bX) rfl rfl (dX rfl (dK (Ht rfl) rfl)) (bY (Ei := [(32, _)]) rfl rfl (bQ (bZ 25 rfl rfl) bX) rfl rfl (dX rfl (dK (Ht rfl) rfl)) (Y.D_newp (Ei := []) (fun bb => box bb 45 [BoolT (decide ((op (gm m i j) (gv z (ak i j))).a < 0)), NatT (op (gm m i j) (gv z (ak i j))).a.natAbs, BoolT (decide ((op (gm m i j) (gv z (ak i j))).b < 0)), NatT (op (gm m i j) (gv z (ak i j))).b.natAbs, NatT (du (op (gm m i j) (gv z (ak i j))))]) 29 rfl rfl rfl bX rfl rfl (by kernel_rfl) (eW (Ts := [Is (.bool false), Is (.slice none 0 0), Is (.bool false), Is (.slice none 0 0), Is (.slice none 0 0)]) O_45 rfl (fun V => aW ⟨rfl, trivial⟩ (aW ⟨rfl, trivial⟩ (aW ⟨rfl, trivial⟩ (aW ⟨rfl, trivial⟩ (aW ⟨rfl, trivial⟩ (aG))))))) ?_)))
   refine Y.D_putN (Ei := [(58, _)]) 28 rfl rfl rfl rfl rfl rfl (bQ (bZ 26 rfl rfl) bX) (fun bb => P_stA Z_45 (Ht rfl) (Ht rfl) rfl (i := 0) rfl (aK rfl) rfl rfl) (Y.D_done mixed rfl (by kernel_rfl) rfl (by simp [Y.okP]) rfl rfl (bU (bU (bU (bU (bU (bU (bU (bU (bU (bU (bU (bU (bU (bU (bU (bU (bU (bU (bU (bU (bU (bU (bU (bU (bU (bU (bU (bU (Y.F_newp (fun B13 => Y.F_putN (Y.F_nil ?_))))))))))))))))))))))))))))))))
   refine ra rfl (eX (cK (ts (rm rfl (ro rfl (op_neq (Ht rfl) cV) (eX (T_condF (Ht rfl) (by rfl) ?_)))))))
   refine cU (fZ (m := 6) (dp 10 rfl (cX (Ht rfl)) (dp 11 rfl (cX (Ht rfl)) (dqq 62 0 63 1 rfl (fY U_28 Z_27 (Ht rfl) (Ht rfl) rfl (by omega) (by rw [Nat.mul_one, Nat.zero_add])) ?_))))
   refine dq 64 2 rfl (op_ldH A_27 Z_27 (Ht rfl) (j := 0) rfl) (dp 12 rfl (cX (Ht rfl)) (dp 13 rfl (eJ A_45 Z_45 (Ht rfl) (i := 2) rfl rfl rfl) (fV mixed rfl (by kernel_rfl) (aJ (aJ (aJ (aJ (aJ (aJ (aV (ro rfl (op_idxO U_27 Z_45 (Ht rfl) (Ht rfl) rfl (i := 1) rfl (by rw [List.length_map, hrl]; exact hjn) rfl) ?_)))))))))))
   refine R_stO Z_45 (Ht rfl) (Ht rfl) (El.ag rfl) (i := 1) rfl rfl (by rw [List.length_map, hrl]; exact hjn) rfl ?_
   refine eX (T_blk (cY (ro rfl (dV (Ht rfl) (cJ 1) (by show _ < 9223372036854775808; first | omega | (simp only [lim]; omega))) (rm rfl (eX (T_keep [0, 1] rfl (by decide) (fU (j + 1) hjn (by omega) (aQ rfl (aQ rfl (aQ rfl (aQ rfl (aQ rfl (aQ rfl (aQ rfl (aQ rfl (aQ rfl aX))))))))) (aU (fun _ _ _ h => h) (aU (rowO_of (show (List.map NumT (mixG (fun j => op (gm m i j) (gv z (ak i j))) (fun j => gm m i j) n j)).set j (NumT (op (gm m i j) (gv z (ak i j)))) = List.map NumT (mixG (fun j => op (gm m i j) (gv z (ak i j))) (fun j => gm m i j) n (j + 1)) from by rw [set_mapF]; exact congrArg _ (mixG_set (f := (fun j => op (gm m i j) (gv z (ak i j))))))) aY)))))))))
  ·have hjn : j = n := by simp only [decide_eq_false_iff_not] at hd; omega
   rw [hjn, mixG_fin]
   refine gV rfl (T_blk (T_unfocus 0 1 rfl rfl (by decide) (by simp only [FRow, List.length_map, mixG_len]; omega) ?_))
   refine cY (ro rfl (dV (Ht rfl) (cJ 1) (by show _ < 9223372036854775808; first | omega | (simp only [lim]; omega))) (rm rfl (eX (T_keep [0] rfl (by decide) (fU (i + 1) hin (by omega) (aQ rfl (aQ rfl (aQ rfl (aQ rfl (aQ rfl (aQ rfl aX)))))) (aU (matO_of (by rw [set_FRow]; exact congrArg _ (mixG_set (f := (fun i => tab n fun j => op (gm m i j) (gv z (ak i j))))))) aY))))))
 ·have hin : i = n := by simp only [decide_eq_false_iff_not] at hc; omega
  rw [hin, mixG_fin]
  refine gV rfl (gJ (i := 0) (tt := 10) rfl rfl (frz_matF (s := 5) (M := tab n fun i => tab n fun j => op (gm m i j) (gv z (ak i j))) (tab_len _ _).symm) (ts (rm rfl (ra rfl (ro rfl (cQ (cJ 0)) (eX ?_))))))
  exact T_ret2 rfl (eU rfl) (eU rfl)
end
section
open Go Go.RowKit
def gq (ps : List (Nat × Nat)) (x : Nat) : Nat := if x % 2 = 0 then pA ps (x / 2) else pB ps (x / 2)
theorem gq_even (ps : List (Nat × Nat)) (k : Nat) : gq ps (2 * k) = pA ps k := by unfold gq; rw [if_pos (by omega), show 2 * k / 2 = k by omega]
theorem gq_odd (ps : List (Nat × Nat)) (k : Nat) : gq ps (2 * k + 1) = pB ps k := by unfold gq; rw [if_neg (by omega), show (2 * k + 1) / 2 = k by omega]
structure Jn (ps : List (Nat × Nat)) (n K : Nat) : Prop where
 lt : ∀ x, x < 2 * K → gq ps x < n
 inj : ∀ x y, x < 2 * K → y < 2 * K → gq ps x = gq ps y → x = y
theorem Jn.le {ps : List (Nat × Nat)} {n K k : Nat} (h : Jn ps n K) (hk : k ≤ K) : Jn ps n k := ⟨fun x hx => h.lt x (by omega), fun x y hx hy => h.inj x y (by omega) (by omega)⟩
end
section
open Go Go.RowKit
def freshE (n : Nat) (p : Int) (o : List Int) : Int := if ¬ (1 ≤ p ∧ p ≤ n) then 1 else if (o.any fun x => decide (p = x)) = true then 8 else 0
def prtE (n : Nat) (l : List Int) : Int := firstE (fun i => freshE n (l.getD i 0) (l.take i)) l.length
theorem fresh_ok {n : Nat} {p : Int} {o : List Int} (h : freshE n p o = 0) : 1 ≤ p ∧ p ≤ n := by
 unfold freshE at h
 split at h
 ·omega
 ·rename_i c; exact Decidable.not_not.1 c
theorem prt_in {n : Nat} {l : List Int} (h : prtE n l = 0) : ∀ x, x ∈ l → 1 ≤ x ∧ x ≤ n := fun x hx => by
 obtain ⟨i, hi, e⟩ := List.getElem_of_mem hx
 have := fresh_ok (firstE_zero h i hi)
 rw [show l.getD i 0 = x by rw [List.getD, List.getElem?_eq_getElem hi, e]; rfl] at this
 exact this
theorem subM_shp (s : List (List Qi)) (Q : List Nat) : Shp (subM s Q) Q.length Q.length := Shp.tab
end
section
open Go Go.RowKit
def jfl (js : List (Int × Int)) : List Int := js.flatMap fun q => [q.1, q.2]
def jps (js : List (Int × Int)) : List (Nat × Nat) := js.map fun q => ((q.1 - 1).toNat, (q.2 - 1).toNat)
abbrev jat (js : List (Int × Int)) (k : Nat) : Int × Int := js.getD k (0, 0)
theorem jfl_app (a b : List (Int × Int)) : jfl (a ++ b) = jfl a ++ jfl b := by simp [jfl]
theorem jfl_take {js : List (Int × Int)} {k : Nat} (h : k < js.length) : jfl (js.take (k + 1)) = jfl (js.take k) ++ [(jat js k).1, (jat js k).2] := by
 rw [List.take_succ_eq_append_getElem h, jfl_app]
 simp [jfl, jat, List.getD, h]
theorem jfl_len : ∀ (js : List (Int × Int)), (jfl js).length = 2 * js.length
 | [] => rfl
 | q :: r => by
  have := jfl_len r
  have e : jfl (q :: r) = q.1 :: q.2 :: jfl r := rfl
  rw [e, List.length_cons, List.length_cons, List.length_cons, this]; omega
theorem jfl_get : ∀ (js : List (Int × Int)) {x : Nat}, x < 2 * js.length → (jfl js).getD x 0 = if x % 2 = 0 then (jat js (x / 2)).1 else (jat js (x / 2)).2
 | [], x, h => by simp at h
 | q :: r, 0, _ => rfl
 | q :: r, 1, _ => rfl
 | q :: r, x + 2, h => by
  have ih := jfl_get r (x := x) (by simp only [List.length_cons] at h; omega)
  have e : jfl (q :: r) = q.1 :: q.2 :: jfl r := rfl
  rw [e]
  show (jfl r).getD x 0 = _
  rw [ih, show (x + 2) % 2 = x % 2 by omega, show (x + 2) / 2 = x / 2 + 1 by omega]
  rfl
theorem jps_at {js : List (Int × Int)} {k : Nat} (h : k < js.length) : pA (jps js) k = ((jat js k).1 - 1).toNat ∧ pB (jps js) k = ((jat js k).2 - 1).toNat := by
 simp [pA, pB, jps, jat, List.getD, h]
theorem jgq {js : List (Int × Int)} {x : Nat} (h : x < 2 * js.length) : gq (jps js) x = ((jfl js).getD x 0 - 1).toNat := by
 have h2 : x / 2 < js.length := by omega
 rw [jfl_get js h, gq, (jps_at h2).1, (jps_at h2).2]
 split <;> rfl
theorem prtE_app {n : Nat} {A : List Int} (h : prtE n A = 0) (a : Int) : prtE n (A ++ [a]) = freshE n a A := by
 rw [prtE, List.length_append, List.length_singleton]
 have e : firstE (fun i => freshE n ((A ++ [a]).getD i 0) ((A ++ [a]).take i)) A.length = 0 := firstE_none fun i hi => by
  have := firstE_zero h i hi
  rw [List.take_append_of_le_length (by omega)]
  have e2 : (A ++ [a]).getD i 0 = A.getD i 0 := by simp [List.getD, List.getElem?_append_left hi]
  rw [e2]; exact this
 rw [firstE, e, if_neg (by simp), List.take_append_of_le_length (Nat.le_refl _), List.take_length]
 congr 1
 simp [List.getD]
theorem prtE_app2 {n : Nat} {A : List Int} (h : prtE n A = 0) (a b : Int) : prtE n (A ++ [a, b]) = if freshE n a A ≠ 0 then freshE n a A else freshE n b (A ++ [a]) := by
 have e : A ++ [a, b] = (A ++ [a]) ++ [b] := by simp
 by_cases c : freshE n a A = 0
 ·rw [if_neg (fun k => k c), e, prtE_app (by rw [prtE_app h]; exact c)]
 ·rw [if_pos c]
  have h1 : firstE (fun i => freshE n ((A ++ [a, b]).getD i 0) ((A ++ [a, b]).take i)) A.length = 0 := firstE_none fun i hi => by
   have := firstE_zero h i hi
   rw [List.take_append_of_le_length (by omega)]
   have e2 : (A ++ [a, b]).getD i 0 = A.getD i 0 := by simp [List.getD, List.getElem?_append_left hi]
   rw [e2]; exact this
  have h2 : freshE n ((A ++ [a, b]).getD A.length 0) ((A ++ [a, b]).take A.length) = freshE n a A := by
   rw [List.take_append_of_le_length (Nat.le_refl _), List.take_length]
   congr 1
   simp [List.getD]
  rw [prtE, firstE_at (k := A.length) (fun i hi => firstE_zero h1 i hi) (by rw [h2]; exact c) (by simp)]
  exact h2
theorem fresh_not {n : Nat} {p : Int} {o : List Int} (h : freshE n p o = 0) : p ∉ o := fun hm => by
 have h1 := fresh_ok h
 unfold freshE at h
 rw [if_neg (fun k => k h1), if_pos (List.any_eq_true.2 ⟨p, hm, by simp⟩)] at h
 omega
theorem prt_inj {n : Nat} {l : List Int} (h : prtE n l = 0) {x y : Nat} (hx : x < l.length) (hy : y < l.length) (e : l.getD x 0 = l.getD y 0) : x = y := by
 have key : ∀ x y, x < y → y < l.length → l.getD x 0 ≠ l.getD y 0 := fun x y hxy hy e => by
  refine fresh_not (firstE_zero h y hy) ?_
  rw [← e]
  have e2 : l.getD x 0 = l[x]'(by omega) := by simp [List.getD, show x < l.length by omega]
  rw [e2]
  exact List.mem_take_iff_getElem.2 ⟨x, by omega, rfl⟩
 rcases Nat.lt_trichotomy x y with c | c | c
 ·exact absurd e (key x y c hy)
 ·exact c
 ·exact absurd e.symm (key y x c hx)
end
section
open Go Go.RowKit
def pl2 (q : Int × Int) : List Int := [q.1, q.2]
abbrev JT (q : Int × Int) : Ty := AggT [IntT .i64 q.1, IntT .i64 q.2]
abbrev JsT (js : List (Int × Int)) : Ty := SlT 2 (js.map JT)
theorem pl2_get {q : Int × Int} : ∀ {i : Nat}, i < 2 → ([IntT .i64 q.1, IntT .i64 q.2] : List Ty)[i]? = some (IntT .i64 ((pl2 q).getD i 0))
 | 0, _ => rfl
 | 1, _ => rfl
theorem pl2_take {q : Int × Int} : ∀ {i : Nat}, i < 2 → (pl2 q).take (i + 1) = (pl2 q).take i ++ [(pl2 q).getD i 0]
 | 0, _ => rfl
 | 1, _ => rfl
abbrev jpE (z : List Qi) (js : List (Int × Int)) (k i : Nat) : Int := freshE z.length ((pl2 (jat js k)).getD i 0) (jfl (js.take k) ++ (pl2 (jat js k)).take i)
theorem pig : ∀ {n m : Nat} {f : Nat → Nat}, (∀ x, x < m → f x < n) → (∀ x y, x < m → y < m → f x = f y → x = y) → m ≤ n
 | 0, m, f, h, _ => by
  cases m with
  | zero => exact Nat.le_refl 0
  | succ m => exact absurd (h 0 (by omega)) (by omega)
 | n + 1, 0, _, _, _ => by omega
 | n + 1, k + 1, f, h, i => by
  have := pig (n := n) (m := k) (f := fun x => if f x = n then f k else f x) (fun x hx => by
   have h1 := h x (by omega)
   have h2 := h k (by omega)
   by_cases c : f x = n
   ·simp only [if_pos c]
    have : f k ≠ n := fun e => by have := i x k (by omega) (by omega) (by rw [c, e]); omega
    omega
   ·simp only [if_neg c]; omega) (fun x y hx hy e => by
   by_cases c : f x = n <;> by_cases d : f y = n
   ·exact i x y (by omega) (by omega) (by rw [c, d])
   ·simp only [if_pos c, if_neg d] at e
    have := i k y (by omega) (by omega) e; omega
   ·simp only [if_neg c, if_pos d] at e
    have := i x k (by omega) (by omega) e; omega
   ·simp only [if_neg c, if_neg d] at e
    exact i x y (by omega) (by omega) e)
  omega
end
section
open Go Go.RowKit
def moE1 (φ : Qi → Qi → Bool) (z : List Qi) (js : List (Int × Int)) (k : Nat) : Int :=
 if freshE z.length (jat js k).1 (jfl (js.take k)) ≠ 0 then freshE z.length (jat js k).1 (jfl (js.take k))
 else if freshE z.length (jat js k).2 (jfl (js.take k) ++ [(jat js k).1]) ≠ 0 then freshE z.length (jat js k).2 (jfl (js.take k) ++ [(jat js k).1])
 else if φ (gv z ((jat js k).1 - 1).toNat) (gv z ((jat js k).2 - 1).toNat) = true then 0 else 40
def moE (φ : Qi → Qi → Bool) (z : List Qi) (js : List (Int × Int)) : Int := firstE (moE1 φ z js) js.length
section
variable {φ : Qi → Qi → Bool} {z : List Qi} {js : List (Int × Int)}
theorem mo_zero {k : Nat} (h : moE1 φ z js k = 0) : freshE z.length (jat js k).1 (jfl (js.take k)) = 0 ∧ freshE z.length (jat js k).2 (jfl (js.take k) ++ [(jat js k).1]) = 0 ∧ φ (gv z ((jat js k).1 - 1).toNat) (gv z ((jat js k).2 - 1).toNat) = true := by
 unfold moE1 at h
 by_cases c1 : freshE z.length (jat js k).1 (jfl (js.take k)) = 0
 ·rw [if_neg (fun k => k c1)] at h
  by_cases c2 : freshE z.length (jat js k).2 (jfl (js.take k) ++ [(jat js k).1]) = 0
  ·rw [if_neg (fun k => k c2)] at h
   by_cases c3 : φ (gv z ((jat js k).1 - 1).toNat) (gv z ((jat js k).2 - 1).toNat) = true
   ·exact ⟨c1, c2, c3⟩
   ·rw [if_neg c3] at h; omega
  ·rw [if_pos c2] at h; exact absurd h c2
 ·rw [if_pos c1] at h; exact absurd h c1
theorem mopr : ∀ {k : Nat}, k ≤ js.length → (∀ j, j < k → moE1 φ z js j = 0) → prtE z.length (jfl (js.take k)) = 0
 | 0, _, _ => rfl
 | k + 1, hk, h => by
  have ih := mopr (k := k) (by omega) fun j hj => h j (by omega)
  obtain ⟨h1, h2, _⟩ := mo_zero (h k (by omega))
  rw [jfl_take (by omega), prtE_app2 ih, if_neg (fun k => k h1)]; exact h2
theorem mo_prt (h : moE φ z js = 0) : prtE z.length (jfl js) = 0 := by
 have := mopr (φ := φ) (z := z) (Nat.le_refl js.length) (firstE_zero h)
 rwa [List.take_length] at this
theorem prt_jn {n : Nat} (hp : prtE n (jfl js) = 0) : Jn (jps js) n js.length := by
 have hl := jfl_len js
 have hr : ∀ x, x < 2 * js.length → 1 ≤ (jfl js).getD x 0 ∧ (jfl js).getD x 0 ≤ n := fun x hx => prt_in hp _ (by
  rw [show (jfl js).getD x 0 = (jfl js)[x]'(by omega) by simp [List.getD, show x < (jfl js).length by omega]]; exact List.getElem_mem _)
 refine ⟨fun x hx => ?_, fun x y hx hy e => ?_⟩
 ·rw [jgq hx]; have := hr x hx; omega
 ·rw [jgq hx, jgq hy] at e
  have h1 := hr x hx; have h2 := hr y hy
  exact prt_inj hp (by omega) (by omega) (by omega)
theorem mo_a {k : Nat} : ∀ {i : Nat}, i < 2 → (∀ x, x < i → jpE z js k x = 0) → jpE z js k i ≠ 0 → moE1 φ z js k = jpE z js k i
 | 0, _, _, h => by
  have e : jpE z js k 0 = freshE z.length (jat js k).1 (jfl (js.take k)) := by simp [jpE, pl2]
  rw [e] at h ⊢
  rw [moE1, if_pos h]
 | 1, _, h0, h => by
  have e0 : jpE z js k 0 = freshE z.length (jat js k).1 (jfl (js.take k)) := by simp [jpE, pl2]
  have e : jpE z js k 1 = freshE z.length (jat js k).2 (jfl (js.take k) ++ [(jat js k).1]) := by simp [jpE, pl2]
  have h1 := h0 0 (by omega)
  rw [e0] at h1
  rw [e] at h ⊢
  rw [moE1, if_neg (fun k => k h1), if_pos h]
theorem mo_b {k : Nat} (h : ∀ x, x < 2 → jpE z js k x = 0) : (1 ≤ (jat js k).1 ∧ (jat js k).1 ≤ z.length) ∧ (1 ≤ (jat js k).2 ∧ (jat js k).2 ≤ z.length) ∧
  moE1 φ z js k = if φ (gv z ((jat js k).1 - 1).toNat) (gv z ((jat js k).2 - 1).toNat) = true then 0 else 40 := by
 have e0 : jpE z js k 0 = freshE z.length (jat js k).1 (jfl (js.take k)) := by simp [jpE, pl2]
 have e : jpE z js k 1 = freshE z.length (jat js k).2 (jfl (js.take k) ++ [(jat js k).1]) := by simp [jpE, pl2]
 have h0 := h 0 (by omega)
 have h1 := h 1 (by omega)
 rw [e0] at h0
 rw [e] at h1
 exact ⟨fresh_ok h0, fresh_ok h1, by rw [moE1, if_neg (fun k => k h0), if_neg (fun k => k h1)]⟩
end
def setM (M : List (List Qi)) (i j : Nat) (v : Qi) : List (List Qi) := M.set i ((M.getD i []).set j v)
theorem setM_shp {M : List (List Qi)} {n m i j : Nat} {v : Qi} (h : Shp M n m) : Shp (setM M i j v) n m := by
 refine ⟨by rw [setM, List.length_set]; exact h.1, fun r hr => ?_⟩
 rcases Nat.lt_or_ge i M.length with hi | hi
 ·rcases List.mem_or_eq_of_mem_set hr with h1 | h1
  ·exact h.2 r h1
  ·rw [h1, List.length_set]; exact h.row (by rw [← h.1]; exact hi)
 ·rw [setM, List.set_eq_of_length_le hi] at hr; exact h.2 r hr
theorem setM_gm {M : List (List Qi)} {n m i j a b : Nat} {v : Qi} (h : Shp M n m) (hi : i < n) (hj : j < m) : gm (setM M i j v) a b = if a = i ∧ b = j then v else gm M a b := by
 have hl := h.1
 have hr := h.row hi
 by_cases e : a = i
 ·subst e
  show gv ((M.set a ((M.getD a []).set j v)).getD a []) b = _
  rw [show (M.set a ((M.getD a []).set j v)).getD a [] = (M.getD a []).set j v by simp [List.getD, show a < M.length by omega], gv_set (by omega)]
  by_cases e2 : b = j
  ·rw [if_pos e2, if_pos ⟨rfl, e2⟩]
  ·rw [if_neg e2, if_neg (fun k => e2 k.2)]
 ·rw [if_neg (fun k => e k.1)]
  show gv ((M.set i ((M.getD i []).set j v)).getD a []) b = gv (M.getD a []) b
  rw [show (M.set i ((M.getD i []).set j v)).getD a [] = M.getD a [] by simp [List.getD, List.getElem?_set_ne (Ne.symm e)]]
def rst (f g : Qi → Qi → Qi) (A : Nat → Nat → Qi) (p q i j : Nat) : Qi := if i = p then f (A p j) (A q j) else if i = q then g (A p j) (A q j) else A i j
def cst (f g : Qi → Qi → Qi) (A : Nat → Nat → Qi) (p q i j : Nat) : Qi := if j = p then f (A i p) (A i q) else if j = q then g (A i p) (A i q) else A i j
def rowM (f g : Qi → Qi → Qi) (A : List (List Qi)) (p q n r : Nat) : List (List Qi) := tab n fun i => tab n fun j => if j < r then rst f g (gm A) p q i j else gm A i j
def colM (f g : Qi → Qi → Qi) (A : List (List Qi)) (p q n r : Nat) : List (List Qi) := tab n fun i => tab n fun j => if i < r then cst f g (gm A) p q i j else gm A i j
theorem rowM_shp {f g : Qi → Qi → Qi} {A : List (List Qi)} {p q n r : Nat} : Shp (rowM f g A p q n r) n n := Shp.tab
theorem colM_shp {f g : Qi → Qi → Qi} {A : List (List Qi)} {p q n r : Nat} : Shp (colM f g A p q n r) n n := Shp.tab
theorem rowM_gm {f g : Qi → Qi → Qi} {A : List (List Qi)} {p q n r i j : Nat} (hi : i < n) (hj : j < n) : gm (rowM f g A p q n r) i j = if j < r then rst f g (gm A) p q i j else gm A i j := gm_tab hi hj
theorem colM_gm {f g : Qi → Qi → Qi} {A : List (List Qi)} {p q n r i j : Nat} (hi : i < n) (hj : j < n) : gm (colM f g A p q n r) i j = if i < r then cst f g (gm A) p q i j else gm A i j := gm_tab hi hj
theorem rowM_zero {f g : Qi → Qi → Qi} {A : List (List Qi)} {p q n : Nat} (h : Shp A n n) : A = rowM f g A p q n 0 := mat_ext h rowM_shp fun i hi j hj => by rw [rowM_gm hi hj, if_neg (by omega)]
theorem colM_zero {f g : Qi → Qi → Qi} {A : List (List Qi)} {p q n : Nat} (h : Shp A n n) : A = colM f g A p q n 0 := mat_ext h colM_shp fun i hi j hj => by rw [colM_gm hi hj, if_neg (by omega)]
theorem rowM_at {f g : Qi → Qi → Qi} {A : List (List Qi)} {p q n r i : Nat} (hi : i < n) (hr : r < n) : gm (rowM f g A p q n r) i r = gm A i r := by rw [rowM_gm hi hr, if_neg (by omega)]
theorem colM_at {f g : Qi → Qi → Qi} {A : List (List Qi)} {p q n r j : Nat} (hr : r < n) (hj : j < n) : gm (colM f g A p q n r) r j = gm A r j := by rw [colM_gm hr hj, if_neg (by omega)]
theorem rowM_step {f g : Qi → Qi → Qi} {A : List (List Qi)} {p q n r : Nat} (hp : p < n) (hq : q < n) (hpq : p ≠ q) (hr : r < n) :
  setM (setM (rowM f g A p q n r) p r (f (gm A p r) (gm A q r))) q r (g (gm A p r) (gm A q r)) = rowM f g A p q n (r + 1) :=
 mat_ext (setM_shp (setM_shp rowM_shp)) rowM_shp fun i hi j hj => by
  rw [setM_gm (setM_shp rowM_shp) hq hr, setM_gm rowM_shp hp hr, rowM_gm hi hj, rowM_gm hi hj]
  by_cases e : j = r
  ·subst e
   rw [if_pos (show j < j + 1 by omega), if_neg (show ¬ j < j by omega), rst]
   by_cases e1 : i = p
   ·rw [if_neg (fun k => hpq (e1.symm.trans k.1)), if_pos ⟨e1, rfl⟩, if_pos e1]
   ·by_cases e2 : i = q
    ·rw [if_pos ⟨e2, rfl⟩, if_neg e1, if_pos e2]
    ·rw [if_neg (fun k => e2 k.1), if_neg (fun k => e1 k.1), if_neg e1, if_neg e2]
  ·rw [if_neg (fun k => e k.2), if_neg (fun k => e k.2)]
   by_cases e1 : j < r
   ·rw [if_pos e1, if_pos (by omega)]
   ·rw [if_neg e1, if_neg (by omega)]
theorem colM_step {f g : Qi → Qi → Qi} {A : List (List Qi)} {p q n r : Nat} (hp : p < n) (hq : q < n) (hpq : p ≠ q) (hr : r < n) :
  setM (setM (colM f g A p q n r) r p (f (gm A r p) (gm A r q))) r q (g (gm A r p) (gm A r q)) = colM f g A p q n (r + 1) :=
 mat_ext (setM_shp (setM_shp colM_shp)) colM_shp fun i hi j hj => by
  rw [setM_gm (setM_shp colM_shp) hr hq, setM_gm colM_shp hr hp, colM_gm hi hj, colM_gm hi hj]
  by_cases e : i = r
  ·subst e
   rw [if_pos (show i < i + 1 by omega), if_neg (show ¬ i < i by omega), cst]
   by_cases e1 : j = p
   ·rw [if_neg (fun k => hpq (e1.symm.trans k.2)), if_pos ⟨rfl, e1⟩, if_pos e1]
   ·by_cases e2 : j = q
    ·rw [if_pos ⟨rfl, e2⟩, if_neg e1, if_pos e2]
    ·rw [if_neg (fun k => e2 k.2), if_neg (fun k => e1 k.2), if_neg e1, if_neg e2]
  ·rw [if_neg (fun k => e k.1), if_neg (fun k => e k.1)]
   by_cases e1 : i < r
   ·rw [if_pos e1, if_pos (by omega)]
   ·rw [if_neg e1, if_neg (by omega)]
theorem mul_gm {a b : List (List Qi)} {n k m i j : Nat} (hi : i < n) (hj : j < m) : gm (mulM a b n k m) i j = sumN k fun t => gm a i t * gm b t j := gm_tab hi hj
theorem mul_idl {A : List (List Qi)} {n : Nat} (h : Shp A n n) : mulM (idM n) A n n n = A := mat_ext mulM_shp h fun i hi j hj => by
 rw [mul_gm hi hj, sumN_single hi (f := fun t => gm (idM n) i t * gm A t j) fun k hk hne => by rw [unit_gm hi hk, if_neg (Ne.symm hne)]; grind, unit_gm hi hi, if_pos rfl]; grind
theorem mul_idr {A : List (List Qi)} {n : Nat} (h : Shp A n n) : mulM A (idM n) n n n = A := mat_ext mulM_shp h fun i hi j hj => by
 rw [mul_gm hi hj, sumN_single hj (f := fun t => gm A i t * gm (idM n) t j) fun k hk hne => by rw [unit_gm hk hj, if_neg hne]; grind, unit_gm hj hj, if_pos rfl]; grind
abbrev jp1 (js : List (Int × Int)) (k : Nat) : Nat := ((jat js k).1 - 1).toNat
abbrev jp2 (js : List (Int × Int)) (k : Nat) : Nat := ((jat js k).2 - 1).toNat
theorem jp_gq {js : List (Int × Int)} {k : Nat} (h : k < js.length) : gq (jps js) (2 * k) = jp1 js k ∧ gq (jps js) (2 * k + 1) = jp2 js k := by
 obtain ⟨h1, h2⟩ := jps_at h
 rw [gq_even, gq_odd]; exact ⟨h1, h2⟩
theorem jp_ne {js : List (Int × Int)} {n k : Nat} (h : Jn (jps js) n js.length) (hk : k < js.length) : jp1 js k < n ∧ jp2 js k < n ∧ jp1 js k ≠ jp2 js k := by
 obtain ⟨e1, e2⟩ := jp_gq hk
 have a := h.lt (2 * k) (by omega)
 have b := h.lt (2 * k + 1) (by omega)
 refine ⟨by omega, by omega, fun e => ?_⟩
 have := h.inj (2 * k) (2 * k + 1) (by omega) (by omega) (by omega)
 omega
structure MdF where
 f1 : Qi → Qi → Qi
 f2 : Qi → Qi → Qi
 g1 : Qi → Qi → Qi
 g2 : Qi → Qi → Qi
def moM (F : MdF) (S : List (List Qi)) (js : List (Int × Int)) (n : Nat) : Nat → List (List Qi)
 | 0 => S
 | k + 1 => colM F.g1 F.g2 (rowM F.f1 F.f2 (moM F S js n k) (jp1 js k) (jp2 js k) n n) (jp1 js k) (jp2 js k) n n
theorem moM_shp {F : MdF} {S : List (List Qi)} {js : List (Int × Int)} {n : Nat} (h : Shp S n n) : ∀ k, Shp (moM F S js n k) n n
 | 0 => h
 | _ + 1 => colM_shp
def hlf : Qi := Qi.frac 1 0 2
theorem hlf_fit : FitC hlf 2 := ⟨Qi.Fit.frac (by decide) (by decide) (by decide) (by decide) (by decide) (by decide) (by decide)⟩
theorem hlf_two : hlf * Qi.ofInt 2 = Qi.ofInt 1 := by decide +kernel
section
variable {js : List (Int × Int)} {n : Nat}
def mxF : MdF := ⟨fun x y => x - y, fun x y => (x + y) * hlf, fun x y => (x - y) * hlf, fun x y => x + y⟩
def sgF : MdF := ⟨fun x y => x * hlf + y, fun x y => y - x * hlf, fun x y => x + y * hlf, fun x y => y * hlf - x⟩
end
def phR (r : Int) (x y : Qi) : Bool := decide (x = Qi.ofInt r * y)
theorem phR_one (x y : Qi) : phR 1 x y = decide (x = y) := by unfold phR; rw [Qi.one_mul2]
theorem phR_four (x y : Qi) : phR 4 x y = decide (x = y * Qi.ofInt 4) := by unfold phR; rw [Qi.mul_comm']
abbrev FQ (L : Nat) : Type := {x : Qi × Qi // FitC x.1 L ∧ FitC x.2 L}
def moZ (F G : Qi → Qi) (z : List Qi) (js : List (Int × Int)) : Nat → List Qi
 | 0 => z
 | k + 1 => ((moZ F G z js k).set (jp1 js k) (F (gv (moZ F G z js k) (jp1 js k)))).set (jp2 js k) (G (gv (moZ F G z js k) (jp1 js k)))
theorem moZ_len (F G : Qi → Qi) (z : List Qi) (js : List (Int × Int)) : ∀ k, (moZ F G z js k).length = z.length
 | 0 => rfl
 | k + 1 => by rw [moZ, List.length_set, List.length_set, moZ_len F G z js k]
theorem lfG_all : ∀ n, lfG [] n = tab n fun i => i
 | 0 => rfl
 | n + 1 => by rw [lfG, lfG_all n, tab_succ]; rfl
theorem all_len (n : Nat) : (lfG [] n).length = n := by rw [lfG_all, tab_len]
theorem all_sub {z : List Qi} : subZ z (lfG [] z.length) = z := by
 rw [subZ, all_len, lfG_all]
 apply List.ext_getElem?
 intro i
 by_cases hi : i < z.length
 ·rw [tab_get hi, qat, tab_getD hi]; simp [gv, List.getD, hi]
 ·rw [List.getElem?_eq_none (by rw [tab_len]; omega), List.getElem?_eq_none (by omega)]
theorem all_subM {s : List (List Qi)} {n : Nat} (h : Shp s n n) : subM s (lfG [] n) = s := by
 refine mat_ext (by have := subM_shp s (lfG [] n); rwa [all_len] at this) h fun i hi j hj => ?_
 rw [subM, all_len, gm_tab hi hj, lfG_all, qat, qat, tab_getD hi, tab_getD hj]
def xdE (z : List Qi) (js : List (Int × Int)) : Int := moE (phR 1) z js
def xdZ (z : List Qi) (js : List (Int × Int)) : List Qi := okL (xdE z js) (moZ (fun x => x * Qi.ofInt 2) (fun x => x * hlf) z js js.length)
def xdS (z : List Qi) (s : List (List Qi)) (js : List (Int × Int)) : List (List Qi) := okL (xdE z js) (moM mxF s js z.length js.length)
def xsE (z : List Qi) (js : List (Int × Int)) : Int := moE (phR 4) z js
def xsZ (z : List Qi) (js : List (Int × Int)) : List Qi := okL (xsE z js) (moZ (fun x => x * hlf) (fun x => x * hlf) z js js.length)
def xsS (z : List Qi) (s : List (List Qi)) (js : List (Int × Int)) : List (List Qi) := okL (xsE z js) (moM sgF s js z.length js.length)
theorem mo_shp {F : MdF} {G H : Qi → Qi} {e : Int} {z : List Qi} {s : List (List Qi)} {js : List (Int × Int)} (h : Shp s z.length z.length) :
  Shp (okL e (moM F s js z.length js.length)) (okL e (moZ G H z js js.length)).length (okL e (moZ G H z js js.length)).length ∧ (okL e (moZ G H z js js.length)).length ≤ z.length := by
 by_cases c : e = 0
 ·rw [okL, okL, if_pos c, if_pos c, moZ_len]; exact ⟨moM_shp h _, Nat.le_refl _⟩
 ·rw [okL, okL, if_neg c, if_neg c]; exact ⟨⟨rfl, fun r hr => by cases hr⟩, Nat.zero_le _⟩
theorem row_next {f g : Qi → Qi → Qi} {A X : List (List Qi)} {p q n r : Nat} (hX : X = rowM f g A p q n r) (hp : p < n) (hq : q < n) (hpq : p ≠ q) (hr : r < n) :
  setM (setM X p r (f (gm X p r) (gm X q r))) q r (g (gm X p r) (gm X q r)) = rowM f g A p q n (r + 1) := by
 rw [hX, rowM_at hp hr, rowM_at hq hr]; exact rowM_step hp hq hpq hr
theorem col_next {f g : Qi → Qi → Qi} {A X : List (List Qi)} {p q n r : Nat} (hX : X = colM f g A p q n r) (hp : p < n) (hq : q < n) (hpq : p ≠ q) (hr : r < n) :
  setM (setM X r p (f (gm X r p) (gm X r q))) r q (g (gm X r p) (gm X r q)) = colM f g A p q n (r + 1) := by
 rw [hX, colM_at hr hp, colM_at hr hq]; exact colM_step hp hq hpq hr
theorem moZ_fit {F G : Qi → Qi} (hF : ∀ x L, FitC x L → 1 ≤ L → FitC (F x) (2 * L + 8)) (hG : ∀ x L, FitC x L → 1 ≤ L → FitC (G x) (2 * L + 8)) {z : List Qi} {js : List (Int × Int)} {L : Nat} (h : FitL z L) (hL : 1 ≤ L) : ∀ k, FitL (moZ F G z js k) (8 ^ k * (L + 8))
 | 0 => by rw [Nat.pow_zero, Nat.one_mul]; exact h.le (by omega)
 | k + 1 => by
  have ih := moZ_fit hF hG (js := js) h hL k
  have h1 : 1 * 9 ≤ 8 ^ k * (L + 8) := Nat.mul_le_mul (Nat.pow_pos (by decide)) (by omega)
  obtain ⟨M, hM⟩ : ∃ M, M = 8 ^ k * (L + 8) := ⟨_, rfl⟩
  rw [← hM] at ih h1
  rw [Nat.pow_succ, Nat.mul_right_comm, ← hM]
  intro x hx
  rcases List.mem_or_eq_of_mem_set hx with h2 | h2
  ·rcases List.mem_or_eq_of_mem_set h2 with h3 | h3
   ·exact (ih x h3).le (by omega)
   ·rw [h3]; exact (hF _ M (ih.get (by omega) _) (by omega)).le (by omega)
  ·rw [h2]; exact (hG _ M (ih.get (by omega) _) (by omega)).le (by omega)
theorem two_fit : FitC (Qi.ofInt 2) 2 := ⟨Qi.Fit.int (by decide) (by decide +kernel)⟩
theorem mul2_z (x : Qi) (L : Nat) (h : FitC x L) (_ : 1 ≤ L) : FitC (x * Qi.ofInt 2) (2 * L + 8) := by haveI := two_fit; haveI := h; exact (fitMul : FitC _ (L + 2 + 1)).le (by omega)
theorem mulh_z (x : Qi) (L : Nat) (h : FitC x L) (_ : 1 ≤ L) : FitC (x * hlf) (2 * L + 8) := by haveI := hlf_fit; haveI := h; exact (fitMul : FitC _ (L + 2 + 1)).le (by omega)
def moG (L : Nat) : Nat → Nat
 | 0 => L
 | k + 1 => 8 * moG L k + 40
theorem moG_mono {L : Nat} : ∀ {j k : Nat}, j ≤ k → moG L j ≤ moG L k
 | _, 0, h => by obtain rfl := Nat.le_zero.1 h; exact Nat.le_refl _
 | j, k + 1, h => by
  by_cases e : j = k + 1
  ·rw [e]; exact Nat.le_refl _
  ·have := moG_mono (L := L) (show j ≤ k by omega)
   simp only [moG]; omega
theorem moG_ge (L k : Nat) : L ≤ moG L k := moG_mono (j := 0) (Nat.zero_le k)
def Sz (f : Qi → Qi → Qi) : Prop := ∀ x y L, FitC x L → FitC y L → 1 ≤ L → FitC (f x y) (2 * L + 8)
theorem mx_s1 : Sz mxF.f1 := fun x y L hx hy _ => by haveI := hx; haveI := hy; exact (fitSub : FitC (x - y) (L + L + 1)).le (by omega)
theorem mx_s2 : Sz mxF.f2 := fun x y L hx hy _ => by haveI := hx; haveI := hy; haveI := hlf_fit; exact (inferInstance : FitC ((x + y) * hlf) (L + L + 1 + 2 + 1)).le (by omega)
theorem mx_s3 : Sz mxF.g1 := fun x y L hx hy _ => by haveI := hx; haveI := hy; haveI := hlf_fit; exact (inferInstance : FitC ((x - y) * hlf) (L + L + 1 + 2 + 1)).le (by omega)
theorem mx_s4 : Sz mxF.g2 := fun x y L hx hy _ => by haveI := hx; haveI := hy; exact (fitAdd : FitC (x + y) (L + L + 1)).le (by omega)
theorem sg_s1 : Sz sgF.f1 := fun x y L hx hy _ => by haveI := hx; haveI := hy; haveI := hlf_fit; exact (inferInstance : FitC (x * hlf + y) (L + 2 + 1 + L + 1)).le (by omega)
theorem sg_s2 : Sz sgF.f2 := fun x y L hx hy _ => by haveI := hx; haveI := hy; haveI := hlf_fit; exact (inferInstance : FitC (y - x * hlf) (L + (L + 2 + 1) + 1)).le (by omega)
theorem sg_s3 : Sz sgF.g1 := fun x y L hx hy _ => by haveI := hx; haveI := hy; haveI := hlf_fit; exact (inferInstance : FitC (x + y * hlf) (L + (L + 2 + 1) + 1)).le (by omega)
theorem sg_s4 : Sz sgF.g2 := fun x y L hx hy _ => by haveI := hx; haveI := hy; haveI := hlf_fit; exact (inferInstance : FitC (y * hlf - x) (L + 2 + 1 + L + 1)).le (by omega)
theorem row_fit {f g : Qi → Qi → Qi} (hf : Sz f) (hg : Sz g) {A : List (List Qi)} {p q n r L : Nat} (h : FitM A L) (hL : 1 ≤ L) : FitM (rowM f g A p q n r) (2 * L + 8) := FitM.tab fun i j _ _ => by
 have h1 := h.get hL p j
 have h2 := h.get hL q j
 have h3 := h.get hL i j
 split
 ·rw [rst]
  split
  ·exact hf _ _ _ h1 h2 hL
  ·split
   ·exact hg _ _ _ h1 h2 hL
   ·exact h3.le (by omega)
 ·exact h3.le (by omega)
theorem col_fit {f g : Qi → Qi → Qi} (hf : Sz f) (hg : Sz g) {A : List (List Qi)} {p q n r L : Nat} (h : FitM A L) (hL : 1 ≤ L) : FitM (colM f g A p q n r) (2 * L + 8) := FitM.tab fun i j _ _ => by
 have h1 := h.get hL i p
 have h2 := h.get hL i q
 have h3 := h.get hL i j
 split
 ·rw [cst]
  split
  ·exact hf _ _ _ h1 h2 hL
  ·split
   ·exact hg _ _ _ h1 h2 hL
   ·exact h3.le (by omega)
 ·exact h3.le (by omega)
theorem moM_fit {F : MdF} (h1 : Sz F.f1) (h2 : Sz F.f2) (h3 : Sz F.g1) (h4 : Sz F.g2) {S : List (List Qi)} {js : List (Int × Int)} {n L : Nat} (h : FitM S L) (hL : 1 ≤ L) : ∀ k, FitM (moM F S js n k) (moG L k)
 | 0 => h
 | k + 1 => by
  have ih := moM_fit (F := F) (js := js) (n := n) h1 h2 h3 h4 h hL k
  have hg := moG_ge L k
  exact (col_fit h3 h4 (row_fit h1 h2 ih (by omega)) (by omega)).le (by simp only [moG]; omega)
theorem w3a {vs : List Value} {M : List (List Qi)} {n m : Nat} (h : vs.length = n) (s : Shp M n m) : vs.length = M.length := h.trans s.1.symm
theorem w3b {M : List (List Qi)} {n m p : Nat} (s : Shp M n m) (hp : p < n) : p < M.length := by rw [s.1]; exact hp
theorem w3c {M : List (List Qi)} {n m p q : Nat} (s : Shp M n m) (hp : p < n) (hq : q < m) : q < (M.getD p []).length := by rw [s.row hp]; exact hq
theorem mo_le {js : List (Int × Int)} {n : Nat} (h : prtE n (jfl js) = 0) : 2 * js.length ≤ n := pig (f := gq (jps js)) (prt_jn h).lt (prt_jn h).inj
theorem moZ_fit4 {F G : Qi → Qi} (hF : ∀ x L, FitC x L → 1 ≤ L → FitC (F x) (2 * L + 8)) (hG : ∀ x L, FitC x L → 1 ≤ L → FitC (G x) (2 * L + 8)) {z : List Qi} {js : List (Int × Int)} {L k : Nat} (h : FitL z L) (hL : 1 ≤ L) (hk : k ≤ 4) : FitL (moZ F G z js k) (4096 * (L + 8)) :=
 (moZ_fit hF hG h hL k).le (Nat.mul_le_mul_right _ (Nat.le_trans (Nat.pow_le_pow_right (by decide) hk) (by decide)))
theorem moG_four {L k : Nat} (hk : k ≤ 4) : moG L k ≤ 4096 * L + 23400 := Nat.le_trans (moG_mono hk) (by simp only [moG]; omega)
theorem set_two {l : List Qi} {p q : Nat} {a b : Qi} {F : Qi → Ty} : (((l.map F).set p (F a)).set q (F b)) = ((l.set p a).set q b).map F := by rw [List.map_set, List.map_set]
end
section
open Go Go.RowKit
def Gb (x : Qi) (N : Nat) : Prop := ∃ p q : Int, x = Qi.mk (p : Rat) (q : Rat) ∧ p.natAbs ≤ N ∧ q.natAbs ≤ N
theorem Gb.le {x : Qi} {N M : Nat} (h : Gb x N) (k : N ≤ M) : Gb x M := by
 obtain ⟨p, q, e, h1, h2⟩ := h; exact ⟨p, q, e, by omega, by omega⟩
theorem Gb.add {x y : Qi} {N M : Nat} (h : Gb x N) (k : Gb y M) : Gb (x + y) (N + M) := by
 obtain ⟨p, q, rfl, h1, h2⟩ := h; obtain ⟨r, s, rfl, k1, k2⟩ := k
 refine ⟨p + r, q + s, Qi.ext' ?_ ?_, by omega, by omega⟩
 ·show (p : Rat) + (r : Rat) = ((p + r : Int) : Rat); push_cast; rfl
 ·show (q : Rat) + (s : Rat) = ((q + s : Int) : Rat); push_cast; rfl
theorem Gb.neg {x : Qi} {N : Nat} (h : Gb x N) : Gb (-x) N := by
 obtain ⟨p, q, rfl, h1, h2⟩ := h
 refine ⟨-p, -q, Qi.ext' ?_ ?_, by omega, by omega⟩
 ·show -(p : Rat) = ((-p : Int) : Rat); push_cast; rfl
 ·show -(q : Rat) = ((-q : Int) : Rat); push_cast; rfl
theorem Gb.sub {x y : Qi} {N M : Nat} (h : Gb x N) (k : Gb y M) : Gb (x - y) (N + M) := by rw [Qi.sub_def]; exact h.add k.neg
theorem nat_mul {p q : Int} {N M : Nat} (h : p.natAbs ≤ N) (k : q.natAbs ≤ M) : (p * q).natAbs ≤ N * M := by rw [Int.natAbs_mul]; exact Nat.mul_le_mul h k
theorem Gb.mul {x y : Qi} {N M : Nat} (h : Gb x N) (k : Gb y M) : Gb (x * y) (2 * N * M) := by
 obtain ⟨p, q, rfl, h1, h2⟩ := h; obtain ⟨r, s, rfl, k1, k2⟩ := k
 have a1 := nat_mul h1 k1; have a2 := nat_mul h2 k2; have a3 := nat_mul h1 k2; have a4 := nat_mul h2 k1
 have e : 2 * N * M = N * M + N * M := by rw [Nat.mul_assoc, Nat.two_mul]
 refine ⟨p * r - q * s, p * s + q * r, Qi.ext' ?_ ?_, by omega, by omega⟩
 ·rw [Qi.mul_re]; show (p : Rat) * (r : Rat) - (q : Rat) * (s : Rat) = ((p * r - q * s : Int) : Rat); push_cast; rfl
 ·rw [Qi.mul_im]; show (p : Rat) * (s : Rat) + (q : Rat) * (r : Rat) = ((p * s + q * r : Int) : Rat); push_cast; rfl
theorem Gb.sum {f : Nat → Qi} {N : Nat} : ∀ {n : Nat}, (∀ k, k < n → Gb (f k) N) → Gb (sumN n f) (n * N)
 | 0, _ => ⟨0, 0, Qi.ext' rfl rfl, by simp, by simp⟩
 | n + 1, h => by
  rw [sumN, Nat.succ_mul]
  exact (Gb.sum fun k hk => h k (by omega)).add (h n (by omega))
theorem Gb.fit {x : Qi} {N L : Nat} (h : Gb x N) (hN : N < BB ^ L) (hL : 1 ≤ L) : FitC x L := by
 obtain ⟨p, q, rfl, h1, h2⟩ := h
 have e : Qi.mk (p : Rat) (q : Rat) = Qi.mk' p q 1 := Qi.ext' (by rw [Qi.mk_re]; show (p : Rat) = p / ((1 : Nat) : Rat); grind) (by rw [Qi.mk_im]; show (q : Rat) = q / ((1 : Nat) : Rat); grind)
 rw [e]
 exact ⟨Qi.Fit.mk (by decide) (by omega) (by omega) (Qi.one_lt hL)⟩
theorem sumN_first (n : Nat) (f : Nat → Qi) : sumN (n + 1) f = f 0 + sumN n fun k => f (k + 1) := by
 rw [Nat.add_comm n 1, sumN_app, sumN_one]
 exact congrArg _ (sumN_congr fun k _ => by rw [Nat.add_comm])
def fs : Nat → Nat → Nat
 | 0, _ => 1
 | n + 1, N => 2 * (n + 1) * N * fs n (4 * N * N)
theorem kerF_shift {F : Nat → Nat → Qi} {n : Nat} {x : Nat → Qi} : KerF F (n + 1) (n + 1) x ↔ (F 0 0 * x 0 + sumN n (fun k => F 0 (k + 1) * x (k + 1)) = 0) ∧ ∀ i, i < n → F (i + 1) 0 * x 0 + sumN n (fun k => F (i + 1) (k + 1) * x (k + 1)) = 0 := by
 constructor
 ·intro h
  exact ⟨by have := h 0 (by omega); rwa [sumN_first] at this, fun i hi => by have := h (i + 1) (by omega); rwa [sumN_first] at this⟩
 ·rintro ⟨h1, h2⟩ i hi
  rw [sumN_first]
  cases i with
  | zero => exact h1
  | succ i => exact h2 i (by omega)
theorem sumN_lin (n : Nat) (a b : Qi) (f g x : Nat → Qi) : sumN n (fun k => (a * f k - b * g k) * x k) = a * sumN n (fun k => f k * x k) - b * sumN n (fun k => g k * x k) := by
 induction n with
 | zero => simp only [sumN, q0]; grind
 | succ n ih => simp only [sumN, ih]; grind
theorem sumN_mulr (n : Nat) (a : Qi) (f x : Nat → Qi) : sumN n (fun k => f k * (x k * a)) = a * sumN n (fun k => f k * x k) := by
 induction n with
 | zero => simp only [sumN, q0]; grind
 | succ n ih => simp only [sumN, ih]; grind
theorem ff_step {F : Nat → Nat → Qi} {n N : Nat} (hp : F 0 0 ≠ 0) (hN : 1 ≤ N) (hF : ∀ i, i < n + 1 → ∀ j, j ≤ n + 1 → Gb (F i j) N) (hk : ∀ v, KerF F (n + 1) (n + 1) v → ∀ k, k < n + 1 → v k = 0)
  (ih : ∀ G : Nat → Nat → Qi, (∀ i, i < n → ∀ j, j ≤ n → Gb (G i j) (4 * N * N)) → (∀ v, KerF G n n v → ∀ k, k < n → v k = 0) → ∃ (y : Nat → Qi) (e : Qi), e ≠ 0 ∧ Gb e (fs n (4 * N * N)) ∧ (∀ k, k < n → Gb (y k) (fs n (4 * N * N))) ∧ ∀ i, i < n → sumN n (fun k => G i k * y k) = e * G i n) :
  ∃ (y : Nat → Qi) (e : Qi), e ≠ 0 ∧ Gb e (fs (n + 1) N) ∧ (∀ k, k < n + 1 → Gb (y k) (fs (n + 1) N)) ∧ ∀ i, i < n + 1 → sumN (n + 1) (fun k => F i k * y k) = e * F i (n + 1) := by
 obtain ⟨y, e, he, ge, gy, hy⟩ := ih (fun i j => F 0 0 * F (i + 1) (j + 1) - F (i + 1) 0 * F 0 (j + 1)) (fun i hi j hj => by
   have h1 := (hF 0 (by omega) 0 (by omega)).mul (hF (i + 1) (by omega) (j + 1) (by omega))
   have h2 := (hF (i + 1) (by omega) 0 (by omega)).mul (hF 0 (by omega) (j + 1) (by omega))
   exact (h1.sub h2).le (by rw [show 4 * N * N = 2 * N * N + 2 * N * N by rw [← Nat.add_mul]; congr 1; omega]; exact Nat.le_refl _)) (fun v hv k hkn => by
   have hz := hk (fun k => if k = 0 then -(sumN n fun k => F 0 (k + 1) * v k) else F 0 0 * v (k - 1)) (kerF_shift.2 ⟨by
    simp only [if_true, Nat.add_sub_cancel, if_neg (Nat.succ_ne_zero _)]
    have := sumN_mulr n (F 0 0) (fun k => F 0 (k + 1)) v
    simp only [Qi.mul_comm' _ (F 0 0)] at this ⊢
    rw [this]; grind, fun i hi => by
    simp only [if_true, Nat.add_sub_cancel, if_neg (Nat.succ_ne_zero _)]
    have := sumN_mulr n (F 0 0) (fun k => F (i + 1) (k + 1)) v
    simp only [Qi.mul_comm' _ (F 0 0)] at this ⊢
    rw [this]
    have h := hv i hi
    have h2 := sumN_lin n (F 0 0) (F (i + 1) 0) (fun k => F (i + 1) (k + 1)) (fun k => F 0 (k + 1)) v
    simp only [] at h
    rw [h2] at h
    grind⟩) (k + 1) (by omega)
   simp only [Nat.add_sub_cancel, if_neg (Nat.succ_ne_zero _)] at hz
   rcases mul_zero_or hz with h | h
   ·exact absurd h hp
   ·exact h)
 have hf1 : 1 ≤ fs n (4 * N * N) := by
  apply Decidable.byContradiction; intro h
  have h0 : fs n (4 * N * N) = 0 := by omega
  rw [h0] at ge
  obtain ⟨p, q, e1, p1, p2⟩ := ge
  have hp0 : p = 0 := by omega
  have hq0 : q = 0 := by omega
  exact he (by rw [e1, hp0, hq0]; exact Qi.ext' rfl rfl)
 have hG : fs (n + 1) N = (n + 1) * (2 * fs n (4 * N * N) * N) := by
  rw [fs]; simp only [Nat.mul_comm, Nat.mul_left_comm, Nat.mul_assoc]
 have hG1 : 2 * fs n (4 * N * N) * N ≤ fs (n + 1) N := by rw [hG]; exact Nat.le_mul_of_pos_left _ (by omega)
 refine ⟨fun k => if k = 0 then e * F 0 (n + 1) - sumN n (fun k => F 0 (k + 1) * y k) else y (k - 1) * F 0 0, e * F 0 0, fun h => ?_, ?_, fun k hkn => ?_, fun i hi => ?_⟩
 ·rcases mul_zero_or h with h | h
  ·exact he h
  ·exact hp h
 ·exact (ge.mul (hF 0 (by omega) 0 (by omega))).le hG1
 ·cases k with
  | zero =>
   simp only [if_true]
   have h1 := ge.mul (hF 0 (by omega) (n + 1) (by omega))
   have h2 : Gb (sumN n fun k => F 0 (k + 1) * y k) (n * (2 * N * fs n (4 * N * N))) := Gb.sum fun k hk => (hF 0 (by omega) (k + 1) (by omega)).mul (gy k hk)
   refine (h1.sub h2).le ?_
   have e3 : n * (2 * N * fs n (4 * N * N)) = n * (2 * fs n (4 * N * N) * N) := by simp only [Nat.mul_comm, Nat.mul_left_comm, Nat.mul_assoc]
   have e4 : (n + 1) * (2 * fs n (4 * N * N) * N) = n * (2 * fs n (4 * N * N) * N) + 2 * fs n (4 * N * N) * N := Nat.succ_mul _ _
   rw [hG, e3, e4, Nat.add_comm]; exact Nat.le_refl _
  | succ k =>
   simp only [Nat.add_sub_cancel, if_neg (Nat.succ_ne_zero _)]
   exact ((gy k (by omega)).mul (hF 0 (by omega) 0 (by omega))).le hG1
 ·rw [sumN_first]
  simp only [if_true, Nat.add_sub_cancel, if_neg (Nat.succ_ne_zero _)]
  rw [sumN_mulr n (F 0 0) (fun k => F i (k + 1)) y]
  cases i with
  | zero => grind
  | succ i =>
   have h := hy i (by omega)
   have h2 := sumN_lin n (F 0 0) (F (i + 1) 0) (fun k => F (i + 1) (k + 1)) (fun k => F 0 (k + 1)) y
   rw [h2] at h
   grind
theorem ff_all : ∀ (n N : Nat) (F : Nat → Nat → Qi), 1 ≤ N → (∀ i, i < n → ∀ j, j ≤ n → Gb (F i j) N) → (∀ v, KerF F n n v → ∀ k, k < n → v k = 0) →
  ∃ (y : Nat → Qi) (e : Qi), e ≠ 0 ∧ Gb e (fs n N) ∧ (∀ k, k < n → Gb (y k) (fs n N)) ∧ ∀ i, i < n → sumN n (fun k => F i k * y k) = e * F i n
 | 0, N, F, _, _, _ => ⟨fun _ => 0, 1, fun h => by have := congrArg Qi.re h; revert this; decide, ⟨1, 0, Qi.ext' rfl rfl, by simp [fs], by simp [fs]⟩, fun k hk => by omega, fun i hi => by omega⟩
 | n + 1, N, F, hN, hF, hk => by
  have hpz : ∃ p, p < n + 1 ∧ F p 0 ≠ 0 := by
   apply Classical.byContradiction; intro hno
   have hz : ∀ p, p < n + 1 → F p 0 = 0 := fun p hp => by
    apply Classical.byContradiction; intro h; exact hno ⟨p, hp, h⟩
   have := hk (fun k => if k = 0 then 1 else 0) (fun i hi => by
    rw [sumN_all0]
    intro k hk
    by_cases e : k = 0
    ·subst e; rw [hz i hi]; grind
    ·simp only [if_neg e]; grind) 0 (by omega)
   simp only [if_true] at this
   have := congrArg Qi.re this; revert this; decide
  obtain ⟨p, hp, hpz⟩ := hpz
  have hN4 : 1 ≤ 4 * N * N := Nat.mul_pos (by omega) (by omega)
  obtain ⟨y, e, he, ge, gy, hy⟩ := ff_step (F := fun i => F (tau p 0 i)) (n := n) (N := N) (by simpa [tau] using hpz) hN (fun i hi j hj => hF _ (tau_lt hp (by omega) hi) j hj)
   (fun v hv => hk v ((kerF_tau hp (by omega)).1 hv)) (fun G hG hGk => ff_all n (4 * N * N) G hN4 hG hGk)
  refine ⟨y, e, he, ge, gy, fun i hi => ?_⟩
  have := hy (tau p 0 i) (tau_lt hp (by omega) hi)
  simp only [tau_tau] at this
  exact this
theorem fs_four {N : Nat} : ∀ {n : Nat}, n ≤ 4 → 1 ≤ N → fs n N ≤ 1610612736 * N ^ 15 := by
 intro n hn hN
 have hp : ∀ k, k ≤ 15 → N ^ k ≤ N ^ 15 := fun k hk => Nat.pow_le_pow_right hN hk
 have h0 := hp 0 (by omega); have h1 := hp 1 (by omega); have h3 := hp 3 (by omega); have h7 := hp 7 (by omega)
 match n, hn with
 | 0, _ => rw [fs]; rw [Nat.pow_zero] at h0; omega
 | 1, _ => simp only [fs]; rw [show 2 * (0 + 1) * N * 1 = 2 * N ^ 1 by grind]; omega
 | 2, _ => simp only [fs]; rw [show 2 * (1 + 1) * N * (2 * (0 + 1) * (4 * N * N) * 1) = 32 * N ^ 3 by grind]; omega
 | 3, _ => simp only [fs]; rw [show 2 * (2 + 1) * N * (2 * (1 + 1) * (4 * N * N) * (2 * (0 + 1) * (4 * (4 * N * N) * (4 * N * N)) * 1)) = 12288 * N ^ 7 by grind]; omega
 | 4, _ => simp only [fs]; rw [show 2 * (3 + 1) * N * (2 * (2 + 1) * (4 * N * N) * (2 * (1 + 1) * (4 * (4 * N * N) * (4 * N * N)) * (2 * (0 + 1) * (4 * (4 * (4 * N * N) * (4 * N * N)) * (4 * (4 * N * N) * (4 * N * N))) * 1))) = 1610612736 * N ^ 15 by grind]; omega
theorem den_mul (x : Qi) : ((x.den : Int) : Rat) * x.re = (x.a : Rat) ∧ ((x.den : Int) : Rat) * x.im = (x.b : Rat) := by
 have h := Qi.nc x.den_pos
 have h2 : ((x.den : Int) : Rat) = (x.den : Rat) := by push_cast; rfl
 rw [h2]
 exact ⟨by rw [Qi.re_eq x]; grind, by rw [Qi.im_eq x]; grind⟩
theorem row_den {L : Nat} {x : Nat → Qi} : ∀ k, (∀ j, j < k → FitC (x j) L) → ∃ d : Nat, 0 < d ∧ d ≤ BB ^ (k * L) ∧ ∀ j, j < k → Gb (Qi.ofInt d * x j) (BB ^ (k * L))
 | 0, _ => ⟨1, by decide, Nat.pow_pos BB_pos, fun j hj => by omega⟩
 | k + 1, h => by
  obtain ⟨d, d0, dl, hd⟩ := row_den k fun j hj => h j (by omega)
  have hx := (h k (by omega)).fit
  have hm := den_mul (x k)
  have hpow : BB ^ ((k + 1) * L) = BB ^ (k * L) * BB ^ L := by rw [Nat.succ_mul, Nat.pow_add]
  refine ⟨d * (x k).den, Nat.mul_pos d0 (x k).den_pos, ?_, fun j hj => ?_⟩
  ·rw [hpow]; exact Nat.mul_le_mul dl (Nat.le_of_lt hx.2.2)
  ·by_cases e : j = k
   ·subst e
    refine ⟨d * (x j).a, d * (x j).b, Qi.ext' ?_ ?_, ?_, ?_⟩
    ·rw [Qi.mul_re]
     show (((d * (x j).den : Nat) : Int) : Rat) * (x j).re - 0 * (x j).im = ((d * (x j).a : Int) : Rat)
     have := hm.1; push_cast at *; grind
    ·rw [Qi.mul_im]
     show (((d * (x j).den : Nat) : Int) : Rat) * (x j).im + 0 * (x j).re = ((d * (x j).b : Int) : Rat)
     have := hm.2; push_cast at *; grind
    ·rw [hpow]; exact nat_mul (by simpa using dl) (Nat.le_of_lt hx.1)
    ·rw [hpow]; exact nat_mul (by simpa using dl) (Nat.le_of_lt hx.2.1)
   ·obtain ⟨p, q, e1, h1, h2⟩ := hd j (by omega)
    have er := congrArg Qi.re e1; have ei := congrArg Qi.im e1
    rw [Qi.mul_re] at er; rw [Qi.mul_im] at ei
    refine ⟨p * (x k).den, q * (x k).den, Qi.ext' ?_ ?_, ?_, ?_⟩
    ·rw [Qi.mul_re]
     have er : ((d : Int) : Rat) * (x j).re - 0 * (x j).im = (p : Rat) := er
     show (((d * (x k).den : Nat) : Int) : Rat) * (x j).re - 0 * (x j).im = ((p * (x k).den : Int) : Rat)
     push_cast at *; grind
    ·rw [Qi.mul_im]
     have ei : ((d : Int) : Rat) * (x j).im + 0 * (x j).re = (q : Rat) := ei
     show (((d * (x k).den : Nat) : Int) : Rat) * (x j).im + 0 * (x j).re = ((q * (x k).den : Int) : Rat)
     push_cast at *; grind
    ·rw [hpow]; exact nat_mul h1 (by simpa using Nat.le_of_lt hx.2.2)
    ·rw [hpow]; exact nat_mul h2 (by simpa using Nat.le_of_lt hx.2.2)
theorem ofNat_ne {d : Nat} (h : 0 < d) : Qi.ofInt d ≠ 0 := fun e => by
 have := congrArg Qi.re e
 have h2 : ((d : Int) : Rat) = ((0 : Int) : Rat) := this
 rw [Rat.intCast_inj] at h2; omega
def slvB (L : Nat) : Nat := 4 * (75 * L + 1) + 2
theorem slv_fit4 {M : List (List Qi)} {b : List Qi} {n L : Nat} (h : Shp M n n) (hM : FitM M L) (hb : FitL b L) (hL : 1 ≤ L) (hn : n ≤ 4) (hE : slvE M b n = 0) : FitL (slvX M b n) (slvB L) := by
 obtain ⟨s1, s2⟩ := slv_some h hE
 have hrow : ∀ i, ∃ d : Nat, 0 < d ∧ ∀ j, j < n + 1 → Gb (Qi.ofInt d * (if j < n then gm M i j else gv b i)) (BB ^ (5 * L)) := fun i => by
  obtain ⟨d, d0, _, hd⟩ := row_den (L := L) (x := fun j => if j < n then gm M i j else gv b i) (n + 1) fun j _ => by
   show FitC (if j < n then gm M i j else gv b i) L
   split
   ·exact hM.get hL i j
   ·exact hb.get hL i
  exact ⟨d, d0, fun j hj => (hd j hj).le (Nat.pow_le_pow_right BB_pos (Nat.mul_le_mul_right _ (by omega)))⟩
 have hd : ∃ d : Nat → Nat, ∀ i, 0 < d i ∧ ∀ j, j < n + 1 → Gb (Qi.ofInt (d i) * (if j < n then gm M i j else gv b i)) (BB ^ (5 * L)) := ⟨fun i => Classical.choose (hrow i), fun i => Classical.choose_spec (hrow i)⟩
 obtain ⟨d, hd⟩ := hd
 have cancel : ∀ {i : Nat} {u : Qi}, Qi.ofInt (d i) * u = 0 → u = 0 := fun {i u} hu => by
  rcases mul_zero_or hu with k | k
  ·exact absurd k (ofNat_ne (hd i).1)
  ·exact k
 have hsum : ∀ (i : Nat) (v : Nat → Qi), sumN n (fun k => Qi.ofInt (d i) * (if k < n then gm M i k else gv b i) * v k) = Qi.ofInt (d i) * sumN n (fun k => gm M i k * v k) := fun i v => by
  rw [Qi.mul_comm', ← sumN_mul]
  exact sumN_congr fun k hk => by rw [if_pos hk]; grind
 have hN : 1 ≤ BB ^ (5 * L) := Nat.pow_pos BB_pos
 obtain ⟨y, e, he, ge, gy, hy⟩ := ff_all n (BB ^ (5 * L)) (fun i j => Qi.ofInt (d i) * (if j < n then gm M i j else gv b i)) hN (fun i _ j hj => (hd i).2 j (by omega)) (fun v hv => s2 v fun i hi => by
  have := hv i hi
  simp only [] at this
  rw [hsum] at this
  exact cancel this)
 have hbig : fs n (BB ^ (5 * L)) < BB ^ (75 * L + 1) := by
  refine Nat.lt_of_le_of_lt (fs_four hn hN) ?_
  rw [← Nat.pow_mul, show 5 * L * 15 = 75 * L by omega, Nat.pow_succ, Nat.mul_comm]
  exact Nat.mul_lt_mul_of_pos_left (by decide) (Nat.pow_pos BB_pos)
 have hsol : ∀ k, k < n → y k - e * gv (slvX M b n) k = 0 := s2 (fun k => y k - e * gv (slvX M b n) k) fun i hi => by
  have h1 := hy i hi
  rw [hsum, if_neg (by omega)] at h1
  have h2 := s1 i hi
  have h3 : sumN n (fun k => gm M i k * (y k - e * gv (slvX M b n) k)) = sumN n (fun k => gm M i k * y k) - e * sumN n (fun k => gm M i k * gv (slvX M b n) k) := by
   rw [← sumN_sub]; exact sumN_congr fun k _ => by grind
  rw [h3, h2]
  exact cancel (i := i) (by grind)
 intro x hx
 obtain ⟨k, hk, rfl⟩ := List.mem_iff_getElem.1 hx
 rw [slvX_len] at hk
 have hg : (slvX M b n)[k] = gv (slvX M b n) k := by simp [gv, List.getD, slvX_len, hk]
 rw [hg]
 have e1 : gv (slvX M b n) k = y k / e := (eq_div he (by have := hsol k hk; grind)).symm
 haveI f1 : FitC (y k) (75 * L + 1) := (gy k hk).fit hbig (by omega)
 haveI f2 : FitC e (75 * L + 1) := ge.fit hbig (by omega)
 rw [e1]
 exact (fitDiv (x := y k) (y := e)).le (by unfold slvB; omega)
theorem invX_fit4 {M : List (List Qi)} {n L : Nat} (h : Shp M n n) (hM : FitM M L) (hL : 1 ≤ L) (hn : n ≤ 4) (hE : invE M n = 0) : FitM (invX M n) (slvB L) := fun r hr => by
 obtain ⟨i, _, rfl⟩ := tab_mem.1 hr
 exact FitL.tab fun j hj => (slv_fit4 h hM (ek_fit hL) hL hn (inv_zero hE j hj)).get (by unfold slvB; omega) i
end
section
open Go Go.RowKit
theorem mul_assocM {A B C : List (List Qi)} {n : Nat} : mulM (mulM A B n n n) C n n n = mulM A (mulM B C n n n) n n n := mat_ext mulM_shp mulM_shp fun i hi j hj => by
 rw [mul_gm hi hj, mul_gm hi hj]
 have e1 : sumN n (fun t => gm (mulM A B n n n) i t * gm C t j) = sumN n fun t => sumN n fun u => gm A i u * gm B u t * gm C t j := sumN_congr fun t ht => by
  rw [mul_gm hi ht, ← sumN_mul]
 have e2 : sumN n (fun u => gm A i u * gm (mulM B C n n n) u j) = sumN n fun u => sumN n fun t => gm A i u * gm B u t * gm C t j := sumN_congr fun u hu => by
  rw [mul_gm hu hj, Qi.mul_comm', ← sumN_mul]
  exact sumN_congr fun t _ => by grind
 rw [e1, e2, sumN_swap]
theorem gm_id {n i j : Nat} (hi : i < n) (hj : j < n) : gm (idM n) i j = if i = j then 1 else 0 := unit_gm hi hj
theorem ek_gv {n j i : Nat} (hi : i < n) (hj : j < n) : gv (ek n j) i = if i = j then 1 else 0 := by
 have h : gv (ek n j) i = if j = i then 1 else 0 := gm_id (n := n) hj hi
 rw [h]
 by_cases c : i = j
 ·rw [if_pos c, if_pos c.symm]
 ·rw [if_neg c, if_neg (Ne.symm c)]
theorem inv_r {M : List (List Qi)} {n : Nat} (h : Shp M n n) (hE : invE M n = 0) : mulM M (invX M n) n n n = idM n := mat_ext mulM_shp (idM_shp n) fun i hi j hj => by
 have hs := (slv_some h (inv_zero hE j hj)).1 i hi
 rw [mul_gm hi hj, gm_id hi hj, ← ek_gv hi hj, ← hs]
 exact sumN_congr fun t ht => by rw [show gm (invX M n) t j = gv (slvX M (ek n j) n) t from gm_tab ht hj]
theorem lft_ker {M X : List (List Qi)} {n : Nat} (h : mulM X M n n n = idM n) {y : Nat → Qi} (hy : ∀ i, i < n → sumN n (fun k => gm M i k * y k) = 0) : ∀ k, k < n → y k = 0 := fun k hk => by
 have e1 : sumN n (fun i => gm X k i * sumN n (fun t => gm M i t * y t)) = 0 := sumN_all0 fun i hi => by rw [hy i hi]; grind
 have e2 : sumN n (fun i => gm X k i * sumN n (fun t => gm M i t * y t)) = sumN n fun i => sumN n fun t => gm X k i * gm M i t * y t := sumN_congr fun i _ => by
  rw [Qi.mul_comm', ← sumN_mul]; exact sumN_congr fun t _ => by grind
 have e3 : sumN n (fun t => sumN n fun i => gm X k i * gm M i t * y t) = sumN n fun t => gm (idM n) k t * y t := sumN_congr fun t ht => by
  rw [← h, mul_gm hk ht, ← sumN_mul]
 rw [e2, sumN_swap, e3] at e1
 rw [sumN_single (i := k) hk (fun t ht hne => by rw [gm_id hk ht, if_neg (Ne.symm hne)]; grind), gm_id hk hk, if_pos rfl] at e1
 grind
theorem lft_inv {M X : List (List Qi)} {n : Nat} (hM : Shp M n n) (h : mulM X M n n n = idM n) : invE M n = 0 := firstE_none fun k hk => by
 apply Classical.byContradiction; intro e
 obtain ⟨y, hy, k, hk, hne⟩ := slv_none hM e
 exact hne (lft_ker h hy k hk)
theorem lft_eq {M X Y : List (List Qi)} {n : Nat} (hX : Shp X n n) (hY : Shp Y n n) (h : mulM X M n n n = idM n) (k : mulM M Y n n n = idM n) : X = Y := by
 rw [← mul_idr hX, ← k, ← mul_assocM, h, mul_idl hY]
theorem rgt_lft {M Y : List (List Qi)} {n : Nat} (hM : Shp M n n) (hY : Shp Y n n) (h : mulM M Y n n n = idM n) : mulM Y M n n n = idM n := by
 have e := lft_inv hY h
 have r := inv_r hY e
 rw [lft_eq hM (invX_shp Y n) h r]; exact r
theorem inv_l {M : List (List Qi)} {n : Nat} (h : Shp M n n) (hE : invE M n = 0) : mulM (invX M n) M n n n = idM n := rgt_lft h (invX_shp M n) (inv_r h hE)
theorem rgt_inv {M Y : List (List Qi)} {n : Nat} (hM : Shp M n n) (hY : Shp Y n n) (h : mulM M Y n n n = idM n) : invE M n = 0 := lft_inv hM (rgt_lft hM hY h)
theorem inv_is {M X : List (List Qi)} {n : Nat} (hM : Shp M n n) (hX : Shp X n n) (h : mulM X M n n n = idM n) : invE M n = 0 ∧ invX M n = X := by
 have e := lft_inv hM h
 exact ⟨e, (lft_eq hX (invX_shp M n) h (inv_r hM e)).symm⟩
def liM (a : Qi) (A : List (List Qi)) (b : Qi) (B : List (List Qi)) (n : Nat) : List (List Qi) := tab n fun i => tab n fun j => a * gm A i j + b * gm B i j
def rsM (d : Nat → Qi) (A : List (List Qi)) (n : Nat) : List (List Qi) := tab n fun i => tab n fun j => d i * gm A i j
def csM (d : Nat → Qi) (A : List (List Qi)) (n : Nat) : List (List Qi) := tab n fun i => tab n fun j => gm A i j * d j
section
variable {a b : Qi} {A B C : List (List Qi)} {d e : Nat → Qi} {n : Nat}
theorem liM_shp : Shp (liM a A b B n) n n := Shp.tab
theorem rsM_shp : Shp (rsM d A n) n n := Shp.tab
theorem csM_shp : Shp (csM d A n) n n := Shp.tab
theorem liM_gm {i j : Nat} (hi : i < n) (hj : j < n) : gm (liM a A b B n) i j = a * gm A i j + b * gm B i j := gm_tab hi hj
theorem rsM_gm {i j : Nat} (hi : i < n) (hj : j < n) : gm (rsM d A n) i j = d i * gm A i j := gm_tab hi hj
theorem csM_gm {i j : Nat} (hi : i < n) (hj : j < n) : gm (csM d A n) i j = gm A i j * d j := gm_tab hi hj
theorem li_mul : mulM (liM a A b B n) C n n n = liM a (mulM A C n n n) b (mulM B C n n n) n := mat_ext mulM_shp liM_shp fun i hi j hj => by
 rw [mul_gm hi hj, liM_gm hi hj, mul_gm hi hj, mul_gm hi hj, Qi.mul_comm' a, Qi.mul_comm' b, ← sumN_mul, ← sumN_mul, ← sumN_add]
 exact sumN_congr fun t ht => by rw [liM_gm hi ht]; grind
theorem mul_li : mulM C (liM a A b B n) n n n = liM a (mulM C A n n n) b (mulM C B n n n) n := mat_ext mulM_shp liM_shp fun i hi j hj => by
 rw [mul_gm hi hj, liM_gm hi hj, mul_gm hi hj, mul_gm hi hj, Qi.mul_comm' a, Qi.mul_comm' b, ← sumN_mul, ← sumN_mul, ← sumN_add]
 exact sumN_congr fun t ht => by rw [liM_gm ht hj]; grind
theorem rs_mul : mulM (rsM d A n) C n n n = rsM d (mulM A C n n n) n := mat_ext mulM_shp rsM_shp fun i hi j hj => by
 rw [mul_gm hi hj, rsM_gm hi hj, mul_gm hi hj, Qi.mul_comm', ← sumN_mul]
 exact sumN_congr fun t ht => by rw [rsM_gm hi ht]; grind
theorem mul_cs : mulM C (csM d A n) n n n = csM d (mulM C A n n n) n := mat_ext mulM_shp csM_shp fun i hi j hj => by
 rw [mul_gm hi hj, csM_gm hi hj, mul_gm hi hj, ← sumN_mul]
 exact sumN_congr fun t ht => by rw [csM_gm ht hj]; grind
theorem cs_rs (h : ∀ k, k < n → d k * e k = 1) : mulM (csM d A n) (rsM e B n) n n n = mulM A B n n n := mat_ext mulM_shp mulM_shp fun i hi j hj => by
 rw [mul_gm hi hj, mul_gm hi hj]
 exact sumN_congr fun t ht => by
  rw [csM_gm hi ht, rsM_gm ht hj]
  have := h t ht
  have e : gm A i t * d t * (e t * gm B t j) = gm A i t * gm B t j * (d t * e t) := by grind
  rw [e, this]; grind
theorem pl_li {x y : Int} : plM x y A n = liM (Qi.ofInt y) A (Qi.ofInt x) (idM n) n := mat_ext (plM_shp _ _ _ _) liM_shp fun i hi j hj => by
 rw [plM_gm hi hj, liM_gm hi hj, gm_id hi hj]
 by_cases c : i = j
 ·rw [if_pos c, if_pos c]; grind
 ·rw [if_neg c, if_neg c]; grind
theorem li_congr {a' b' : Qi} {A' B' : List (List Qi)} (h : ∀ i, i < n → ∀ j, j < n → a * gm A i j + b * gm B i j = a' * gm A' i j + b' * gm B' i j) : liM a A b B n = liM a' A' b' B' n := mat_ext liM_shp liM_shp fun i hi j hj => by rw [liM_gm hi hj, liM_gm hi hj, h i hi j hj]
end
theorem q2 : Qi.ofInt 2 = 2 := rfl
theorem qm1 : Qi.ofInt (-1) = -1 := rfl
theorem hlf2 : hlf * 2 = 1 := hlf_two
theorem inv_scale {x y : Qi} {D N : List (List Qi)} {n : Nat} (hxy : x * y = 1) (h : mulM N D n n n = idM n) : invE (liM x D 0 D n) n = 0 ∧ invX (liM x D 0 D n) n = liM y N 0 N n := inv_is liM_shp liM_shp (by
 rw [mul_li, li_mul, h]
 refine mat_ext liM_shp (idM_shp n) fun i hi j hj => ?_
 rw [liM_gm hi hj, liM_gm hi hj]; grind)
theorem back_fr {P N D s R : List (List Qi)} {n : Nat} (hN : Shp N n n) (hD : Shp D n n) (hs : Shp s n n) (h1 : mulM N D n n n = idM n) (h2 : mulM D N n n n = idM n)
  (hP : ∀ i, i < n → ∀ j, j < n → gm P i j + gm N i j = if i = j then 2 else 0) (hc : mulM N s n n n = mulM s N n n n) (hR : R = liM 2 (mulM s D n n n) 0 R n) :
  invE (plM 1 1 (mulM P D n n n) n) n = 0 ∧ mulM (invX (plM 1 1 (mulM P D n n n) n) n) R n n n = s := by
 have e : plM 1 1 (mulM P D n n n) n = liM 2 D 0 D n := by
  have e1 : mulM (liM 1 P 1 N n) D n n n = liM 2 D 0 D n := by
   have e2 : liM 1 P 1 N n = liM 2 (idM n) 0 (idM n) n := li_congr fun i hi j hj => by
    have := hP i hi j hj
    rw [gm_id hi hj]
    by_cases c : i = j
    ·rw [if_pos c] at this ⊢; grind
    ·rw [if_neg c] at this ⊢; grind
   rw [e2, li_mul, mul_idl hD]
  rw [← e1, li_mul, h1, pl_li]; rfl
 obtain ⟨i1, i2⟩ := inv_scale (x := 2) (y := hlf) (by rw [Qi.mul_comm']; exact hlf2) h1 (D := D) (N := N)
 rw [e]
 refine ⟨i1, ?_⟩
 rw [i2, hR, mul_li, li_mul, ← mul_assocM, hc, mul_assocM, h1, mul_idr hs]
 refine mat_ext liM_shp hs fun i hi j hj => ?_
 have := hlf2
 rw [liM_gm hi hj, liM_gm hi hj]; grind
theorem pl_comm {x y : Int} {s : List (List Qi)} {n : Nat} (hs : Shp s n n) : mulM (plM x y s n) s n n n = mulM s (plM x y s n) n n n := by
 rw [pl_li, li_mul, mul_li, mul_idl hs, mul_idr hs]
theorem ov_inv {M : List (List Qi)} {n : Nat} (h : invE M n = 0) : ovE M n = 0 := if_pos h
section
variable {z : List Qi} {s : List (List Qi)}
theorem net_shp (hs : Shp s z.length z.length) (h1 : 1 ≤ z.length) (h8 : z.length ≤ 8) (hp : z.all posQ = true) : netErr z s = 0 := by
 rw [netErr, if_neg, if_pos hp]
 rintro (h | h | h | h)
 ·omega
 ·omega
 ·exact h hs.1
 ·obtain ⟨r, hr, h2⟩ := List.any_eq_true.1 h
  simp [hs.2 r hr] at h2
theorem back_imp (hs : Shp s z.length z.length) (h1 : 1 ≤ z.length) (h8 : z.length ≤ 8) (hp : z.all posQ = true) (hE : impE z s = 0) :
  frE z (impM z s) (fiQ z (impM z s)) = 0 ∧ frS z (impM z s) (fiQ z (impM z s)) (plM (-1) 1 (fiQ z (impM z s)) z.length) = s ∧ frZ z (impM z s) (fiQ z (impM z s)) = z := by
 have hi := ovE_zero hE
 have hN := plM_shp 1 (-1) s z.length
 have r := inv_r hN hi
 have l := inv_l hN hi
 have hn : netErr z (impM z s) = 0 := net_shp Shp.tab h1 h8 hp
 have hQ : fiQ z (impM z s) = mulM (plM 1 1 s z.length) (invX (plM 1 (-1) s z.length) z.length) z.length z.length z.length := mat_ext Shp.tab mulM_shp fun i hi j hj => by
  have e1 : gm (fiQ z (impM z s)) i j = gm (impM z s) i j / gv z j := gm_tab hi hj
  have e2 : gm (impM z s) i j = gm (mulM (plM 1 1 s z.length) (invX (plM 1 (-1) s z.length) z.length) z.length z.length z.length) i j * gv z j := gm_tab hi hj
  rw [e1, e2]; exact eq_div (all_ne hp hj) rfl
 obtain ⟨k1, k2⟩ := back_fr (P := plM 1 1 s z.length) (N := plM 1 (-1) s z.length) (D := invX (plM 1 (-1) s z.length) z.length) (s := s) (R := plM (-1) 1 (fiQ z (impM z s)) z.length) hN (invX_shp _ _) hs r l
  (fun i hi j hj => by rw [plM_gm hi hj, plM_gm hi hj, q1, qm1]; by_cases c : i = j <;> simp only [c, if_true, if_false] <;> grind) (pl_comm hs) (by
   rw [hQ]
   refine mat_ext (plM_shp _ _ _ _) liM_shp fun i hi j hj => ?_
   have e3 := congrArg (fun M => gm M i j) r
   have e3 : gm (mulM (plM 1 (-1) s z.length) (invX (plM 1 (-1) s z.length) z.length) z.length z.length z.length) i j = gm (idM z.length) i j := e3
   have hDs := invX_shp (plM 1 (-1) s z.length) z.length
   generalize invX (plM 1 (-1) s z.length) z.length = D at e3 hDs ⊢
   rw [pl_li, li_mul, liM_gm hi hj, mul_idl hDs, gm_id hi hj] at e3
   rw [plM_gm hi hj, liM_gm hi hj, pl_li (x := 1) (y := 1), li_mul, liM_gm hi hj, mul_idl hDs]
   rw [q1, qm1] at e3 ⊢
   clear hQ r l hN hn hE hp
   generalize gm (mulM s D z.length z.length z.length) i j = u at e3 ⊢
   generalize gm D i j = d at e3 ⊢
   by_cases c : i = j
   ·rw [if_pos c] at e3 ⊢; clear c; grind
   ·rw [if_neg c] at e3 ⊢; clear c; grind)
 rw [← hQ] at k1 k2
 have hf : frE z (impM z s) (fiQ z (impM z s)) = 0 := by rw [fr_ok hn]; exact ov_inv k1
 exact ⟨hf, by rw [frS, okL, if_pos hf]; exact k2, by rw [frZ, okL, if_pos hf]⟩
theorem back_adm (hs : Shp s z.length z.length) (h1 : 1 ≤ z.length) (h8 : z.length ≤ 8) (hp : z.all posQ = true) (hE : admE z s = 0) :
  frE z (admM z s) (faQ z (admM z s)) = 0 ∧ frS z (admM z s) (faQ z (admM z s)) (plM 1 (-1) (faQ z (admM z s)) z.length) = s ∧ frZ z (admM z s) (faQ z (admM z s)) = z := by
 have hi := ovE_zero hE
 have hN := plM_shp 1 1 s z.length
 have r := inv_r hN hi
 have l := inv_l hN hi
 have hn : netErr z (admM z s) = 0 := net_shp Shp.tab h1 h8 hp
 have hQ : faQ z (admM z s) = mulM (plM 1 (-1) s z.length) (invX (plM 1 1 s z.length) z.length) z.length z.length z.length := mat_ext Shp.tab mulM_shp fun i hi j hj => by
  have e1 : gm (faQ z (admM z s)) i j = gv z i * gm (admM z s) i j := gm_tab hi hj
  have e2 : gm (admM z s) i j = gm (mulM (plM 1 (-1) s z.length) (invX (plM 1 1 s z.length) z.length) z.length z.length z.length) i j / gv z i := gm_tab hi hj
  rw [e1, e2, Qi.mul_comm']; exact div_eq (all_ne hp hi)
 obtain ⟨k1, k2⟩ := back_fr (P := plM 1 (-1) s z.length) (N := plM 1 1 s z.length) (D := invX (plM 1 1 s z.length) z.length) (s := s) (R := plM 1 (-1) (faQ z (admM z s)) z.length) hN (invX_shp _ _) hs r l
  (fun i hi j hj => by rw [plM_gm hi hj, plM_gm hi hj, q1, qm1]; by_cases c : i = j <;> simp only [c, if_true, if_false] <;> grind) (pl_comm hs) (by
   rw [hQ]
   refine mat_ext (plM_shp _ _ _ _) liM_shp fun i hi j hj => ?_
   have e3 := congrArg (fun M => gm M i j) r
   have e3 : gm (mulM (plM 1 1 s z.length) (invX (plM 1 1 s z.length) z.length) z.length z.length z.length) i j = gm (idM z.length) i j := e3
   have hDs := invX_shp (plM 1 1 s z.length) z.length
   generalize invX (plM 1 1 s z.length) z.length = D at e3 hDs ⊢
   rw [pl_li, li_mul, liM_gm hi hj, mul_idl hDs, gm_id hi hj] at e3
   rw [plM_gm hi hj, liM_gm hi hj, pl_li (x := 1) (y := -1), li_mul, liM_gm hi hj, mul_idl hDs]
   rw [q1] at e3
   rw [q1, qm1]
   clear hQ r l hN hn hE hp
   generalize gm (mulM s D z.length z.length z.length) i j = u at e3 ⊢
   generalize gm D i j = d at e3 ⊢
   by_cases c : i = j
   ·rw [if_pos c] at e3 ⊢; clear c; grind
   ·rw [if_neg c] at e3 ⊢; clear c; grind)
 rw [← hQ] at k1 k2
 have hf : frE z (admM z s) (faQ z (admM z s)) = 0 := by rw [fr_ok hn]; exact ov_inv k1
 exact ⟨hf, by rw [frS, okL, if_pos hf]; exact k2, by rw [frZ, okL, if_pos hf]⟩
theorem imp_adm (hs : Shp s z.length z.length) (hp : z.all posQ = true) (hE : impE z s = 0) (hA : admE z s = 0) : mulM (impM z s) (admM z s) z.length z.length z.length = idM z.length := by
 have i1 := ovE_zero hE
 have i2 := ovE_zero hA
 have r1 := inv_r (plM_shp 1 (-1) s z.length) i1
 have l1 := inv_l (plM_shp 1 (-1) s z.length) i1
 have r2 := inv_r (plM_shp 1 1 s z.length) i2
 have e1 : impM z s = csM (gv z) (mulM (plM 1 1 s z.length) (invX (plM 1 (-1) s z.length) z.length) z.length z.length z.length) z.length := rfl
 have e2 : admM z s = rsM (fun i => Qi.inv (gv z i)) (mulM (plM 1 (-1) s z.length) (invX (plM 1 1 s z.length) z.length) z.length z.length z.length) z.length := tab_congr fun i _ => tab_congr fun j _ => by rw [Qi.div_def, Qi.mul_comm']
 rw [e1, e2, cs_rs (fun k hk => mul_inv2 (all_ne hp hk)), mul_assocM, ← mul_assocM (A := invX (plM 1 (-1) s z.length) z.length), l1, mul_idl (invX_shp _ _), r2]
end
end
section
open Go Go.RowKit
section
variable {z w : List Qi} {s : List (List Qi)} {n : Nat}
theorem rnA_gm (hw : w.length = n) {i j : Nat} (hi : i < n) (hj : j < n) : gm (rnA z w s) i j = (if i = j then 1 - rnR z w i else 0) + (1 + rnR z w i) * gm s i j := by
 subst hw
 have e : gm (rnA z w s) i j = mxE (rnM z w) (rnP z w) s i j := gm_tab hi hj
 rw [e, mxE, rnM, rnP, gv_tab hi, gv_tab hi]; rfl
theorem rnB_gm (hw : w.length = n) {i j : Nat} (hi : i < n) (hj : j < n) : gm (rnB z w s) i j = (if i = j then 1 + rnR z w i else 0) + (1 - rnR z w i) * gm s i j := by
 subst hw
 have e : gm (rnB z w s) i j = mxE (rnP z w) (rnM z w) s i j := gm_tab hi hj
 rw [e, mxE, rnM, rnP, gv_tab hi, gv_tab hi]; rfl
theorem rn_uv (hz : z.length = n) (hw : w.length = n) (hp : z.all posQ = true) (hq : w.all posQ = true) {i : Nat} (hi : i < n) : rnR z w i * rnR w z i = 1 := by
 have a := div_eq (x := gv w i) (all_ne hp (show i < z.length by omega))
 have b := div_eq (x := gv z i) (all_ne hq (show i < w.length by omega))
 have c := mul_inv2 (all_ne hp (show i < z.length by omega))
 rw [rnR, rnR]
 generalize gv w i / gv z i = u at a ⊢
 generalize gv z i / gv w i = v at b ⊢
 generalize gv z i = x at a b c ⊢
 generalize gv w i = y at a b ⊢
 have e : u * v = u * v * (x * Qi.inv x) := by rw [c]; grind
 have e2 : u * v * (x * Qi.inv x) = (v * (u * x)) * Qi.inv x := by grind
 rw [e, e2, a, b, c]
theorem rn_zero (hz : z.length = n) (hw : w.length = n) (h : rnE z w s = 0) : w.all posQ = true ∧ invE (rnB z w s) n = 0 ∧ rnS z w s = mulM (rnA z w s) (invX (rnB z w s) n) n n n ∧ rnZ z w s = w := by
 have e := h
 rw [rnE, if_neg (by omega)] at e
 by_cases c : w.all posQ = true
 ·rw [if_pos c] at e
  subst hw
  exact ⟨c, ovE_zero e, by rw [rnS, okL, if_pos h], by rw [rnZ, okL, if_pos h]⟩
 ·rw [if_neg c] at e; omega
def qrt : Qi := hlf * hlf
theorem qrt_four : (4 : Qi) * qrt = 1 := by show Qi.ofInt 4 * qrt = Qi.ofInt 1; decide +kernel
theorem rn_T (hw : w.length = n) (hu : ∀ i, i < n → rnR z w i * rnR w z i = 1) :
    liM 1 (rsM (fun i => 1 + rnR w z i) (rnB z w s) n) 1 (rsM (fun i => 1 - rnR w z i) (rnA z w s) n) n = liM 4 (idM n) 0 (idM n) n
    ∧ liM 1 (rsM (fun i => 1 - rnR w z i) (rnB z w s) n) 1 (rsM (fun i => 1 + rnR w z i) (rnA z w s) n) n = liM 4 s 0 s n := by
  constructor <;> refine li_congr fun i hi j hj => ?_ <;> rw [rsM_gm hi hj, rsM_gm hi hj, rnA_gm hw hi hj, rnB_gm hw hi hj] <;> (try rw [gm_id hi hj]) <;>
    (have h := hu i hi
     generalize rnR z w i = u at h ⊢
     generalize rnR w z i = v at h ⊢
     generalize gm s i j = x
     by_cases c : i = j
     · simp only [if_pos c]; clear c hu hw; grind
     · simp only [if_neg c]; clear c hu hw; grind)
theorem rn_back (hz : z.length = n) (hw : w.length = n) (hs : Shp s n n) (hp : z.all posQ = true) (h : rnE z w s = 0) :
  rnE w z (rnS z w s) = 0 ∧ rnS w z (rnS z w s) = s ∧ rnZ w z (rnS z w s) = z := by
 obtain ⟨hq, hi, hS, -⟩ := rn_zero hz hw h
 have hu : ∀ i, i < n → rnR z w i * rnR w z i = 1 := fun i hi => rn_uv hz hw hp hq hi
 have hBs : Shp (rnB z w s) n n := by rw [← hw]; exact mxM_shp _ _ _ _
 have r := inv_r hBs hi
 have l := inv_l hBs hi
 have hC := invX_shp (rnB z w s) n
 obtain ⟨t1, t2⟩ := rn_T (s := s) hw hu
 generalize hDD : invX (rnB z w s) n = C at *
 have key : ∀ f g : Nat → Qi, ∀ i, i < n → ∀ j, j < n → gm (mulM (liM 1 (rsM f (rnB z w s) n) 1 (rsM g (rnA z w s) n) n) C n n n) i j = (if i = j then f i else 0) + g i * gm (rnS z w s) i j := fun f g i hi j hj => by
  rw [li_mul, rs_mul, rs_mul, r, ← hS, liM_gm hi hj, rsM_gm hi hj, rsM_gm hi hj, gm_id hi hj]
  by_cases c : i = j
  ·rw [if_pos c, if_pos c]; grind
  ·rw [if_neg c, if_neg c]; grind
 have eB : rnB w z (rnS z w s) = liM 4 C 0 C n := by
  have hA : Shp (rnB w z (rnS z w s)) n n := by rw [← hz]; exact mxM_shp _ _ _ _
  have e1 : mulM (liM 4 (idM n) 0 (idM n) n) C n n n = liM 4 C 0 C n := by rw [li_mul, mul_idl hC]
  rw [← e1, ← t1]
  exact mat_ext hA mulM_shp fun i hi j hj => by rw [key _ _ i hi j hj, rnB_gm hz hi hj]
 have eA : rnA w z (rnS z w s) = liM 4 (mulM s C n n n) 0 (mulM s C n n n) n := by
  have hA : Shp (rnA w z (rnS z w s)) n n := by rw [← hz]; exact mxM_shp _ _ _ _
  rw [← li_mul, ← t2]
  exact mat_ext hA mulM_shp fun i hi j hj => by rw [key _ _ i hi j hj, rnA_gm hz hi hj]
 obtain ⟨i1, i2⟩ := inv_scale (x := 4) (y := qrt) qrt_four r (D := C)
 have hE : rnE w z (rnS z w s) = 0 := by
  rw [rnE, if_neg (by omega), if_pos hp, eB, hz]; exact ov_inv i1
 refine ⟨hE, ?_, by rw [rnZ, okL, if_pos hE]⟩
 rw [rnS, okL, if_pos hE, hz, eA, eB, i2, mul_li, li_mul, mul_assocM, l, mul_idr hs]
 refine mat_ext liM_shp hs fun i hi j hj => ?_
 have := qrt_four
 rw [liM_gm hi hj, liM_gm hi hj]; grind
theorem imp_rn (hz : z.length = n) (hw : w.length = n) (hs : Shp s n n) (hp : z.all posQ = true) (h : rnE z w s = 0) :
  impE w (rnS z w s) = impE z s ∧ (impE z s = 0 → impM w (rnS z w s) = impM z s) := by
 obtain ⟨hq, hi, hS, -⟩ := rn_zero hz hw h
 have hBs : Shp (rnB z w s) n n := by rw [← hw]; exact mxM_shp _ _ _ _
 have hN := plM_shp 1 (-1) s n
 have r := inv_r hBs hi
 have l := inv_l hBs hi
 have hC := invX_shp (rnB z w s) n
 generalize invX (rnB z w s) n = C at *
 have hd : ∀ i, i < n → (2 * rnR z w i) * (hlf * rnR w z i) = 1 := fun i hi => by
  have a := rn_uv hz hw hp hq hi
  have b := hlf2
  have e : (2 * rnR z w i) * (hlf * rnR w z i) = (hlf * 2) * (rnR z w i * rnR w z i) := by grind
  rw [e, a, b]; grind
 have e1 : plM 1 (-1) (rnS z w s) n = rsM (fun i => 2 * rnR z w i) (mulM (plM 1 (-1) s n) C n n n) n := by
  have t : liM (-1) (rnA z w s) 1 (rnB z w s) n = rsM (fun i => 2 * rnR z w i) (plM 1 (-1) s n) n := mat_ext liM_shp rsM_shp fun i hi j hj => by
   rw [liM_gm hi hj, rsM_gm hi hj, rnA_gm hw hi hj, rnB_gm hw hi hj, plM_gm hi hj, q1, qm1]
   generalize rnR z w i = u
   generalize gm s i j = x
   by_cases c : i = j
   ·simp only [if_pos c]; clear c; grind
   ·simp only [if_neg c]; clear c; grind
  rw [← rs_mul, ← t, li_mul, ← hS, r, pl_li]; rfl
 have e2 : plM 1 1 (rnS z w s) n = liM 2 (mulM (plM 1 1 s n) C n n n) 0 (mulM (plM 1 1 s n) C n n n) n := by
  have t : liM 1 (rnA z w s) 1 (rnB z w s) n = liM 2 (plM 1 1 s n) 0 (plM 1 1 s n) n := li_congr fun i hi j hj => by
   rw [rnA_gm hw hi hj, rnB_gm hw hi hj, plM_gm hi hj, q1]
   generalize rnR z w i = u
   generalize gm s i j = x
   by_cases c : i = j
   ·simp only [if_pos c]; clear c; grind
   ·simp only [if_neg c]; clear c; grind
  rw [← li_mul, ← t, li_mul, ← hS, r, pl_li]; rfl
 have fwd : invE (plM 1 (-1) s n) n = 0 → invE (plM 1 (-1) (rnS z w s) n) n = 0 ∧ invX (plM 1 (-1) (rnS z w s) n) n = csM (fun i => hlf * rnR w z i) (mulM (rnB z w s) (invX (plM 1 (-1) s n) n) n n n) n := fun k => by
  refine inv_is (plM_shp _ _ _ _) csM_shp ?_
  rw [e1, cs_rs (fun i hi => by have := hd i hi; rw [Qi.mul_comm']; exact this), mul_assocM, ← mul_assocM (A := invX (plM 1 (-1) s n) n), inv_l hN k, mul_idl hC, r]
 have bwd : invE (plM 1 (-1) (rnS z w s) n) n = 0 → invE (plM 1 (-1) s n) n = 0 := fun k => by
  have q := inv_r (plM_shp 1 (-1) (rnS z w s) n) k
  generalize invX (plM 1 (-1) (rnS z w s) n) n = X at q
  rw [e1, rs_mul, mul_assocM] at q
  refine rgt_inv hN csM_shp (Y := csM (fun i => 2 * rnR z w i) (mulM C X n n n) n) ?_
  rw [mul_cs]
  refine mat_ext csM_shp (idM_shp n) fun i hi j hj => ?_
  have e := congrArg (fun M => gm M i j) q
  have e : gm (rsM (fun i => 2 * rnR z w i) (mulM (plM 1 (-1) s n) (mulM C X n n n) n n n) n) i j = gm (idM n) i j := e
  have hdi := hd i hi
  rw [rsM_gm hi hj, gm_id hi hj] at e
  rw [csM_gm hi hj, gm_id hi hj]
  generalize gm (mulM (plM 1 (-1) s n) (mulM C X n n n) n n n) i j = x at e ⊢
  by_cases c : i = j
  ·subst c; simp only [if_true] at e ⊢; rw [Qi.mul_comm']; exact e
  ·simp only [if_neg c] at e ⊢
   rcases mul_zero_or e with h1 | h1
   ·rw [h1] at hdi; exact absurd hdi (by intro h; have := congrArg Qi.re (show (0 : Qi) = 1 by rw [← h]; grind); revert this; decide)
   ·rw [h1]; grind
 have ez : impE z s = ovE (plM 1 (-1) s n) n := by rw [impE, hz]
 have ew : impE w (rnS z w s) = ovE (plM 1 (-1) (rnS z w s) n) n := by rw [impE, hw]
 refine ⟨?_, fun h0 => ?_⟩
 ·rw [ez, ew]
  by_cases c : invE (plM 1 (-1) s n) n = 0
  ·rw [ov_inv c, ov_inv (fwd c).1]
  ·rw [ovE, ovE, if_neg c, if_neg fun k => c (bwd k)]
 ·rw [ez] at h0
  have c := ovE_zero h0
  obtain ⟨-, f2⟩ := fwd c
  have hD := invX_shp (plM 1 (-1) s n) n
  have e3 : mulM (plM 1 1 (rnS z w s) n) (invX (plM 1 (-1) (rnS z w s) n) n) n n n = csM (fun i => hlf * rnR w z i) (liM 2 (mulM (plM 1 1 s n) (invX (plM 1 (-1) s n) n) n n n) 0 (mulM (plM 1 1 s n) (invX (plM 1 (-1) s n) n) n n n) n) n := by
   rw [f2, mul_cs, e2, li_mul, mul_assocM, ← mul_assocM (A := C), l, mul_idl hD]
  unfold impM
  rw [hw, hz, e3]
  refine tab_congr fun i hi => tab_congr fun j hj => ?_
  rw [csM_gm hi hj, liM_gm hi hj]
  have e4 : rnR w z j * gv w j = gv z j := div_eq (all_ne hq (show j < w.length by omega))
  have e5 := hlf2
  generalize gm (mulM (plM 1 1 s n) (invX (plM 1 (-1) s n) n) n n n) i j = x
  have e6 : (2 * x + 0 * x) * (hlf * rnR w z j) * gv w j = (hlf * 2) * (x * (rnR w z j * gv w j)) := by grind
  rw [e6, e4, e5]; grind
end
theorem md_back {s : List (List Qi)} {n : Nat} {js : List (Int × Int)} (hJ : Jn (jps js) n js.length) (h1 : js.length = 1) (hs : Shp s n n) : moM sgF (moM mxF s js n js.length) js n js.length = s := by
 obtain ⟨hp, hq, hpq⟩ := jp_ne hJ (show 0 < js.length by omega)
 rw [h1, moM, moM, moM, moM]
 generalize jp1 js 0 = p at *
 generalize jp2 js 0 = q at *
 have hh := hlf2
 refine mat_ext colM_shp hs fun i hi j hj => ?_
 have e1 : ∀ a b, a < n → b < n → gm (rowM mxF.f1 mxF.f2 s p q n n) a b = rst mxF.f1 mxF.f2 (gm s) p q a b := fun a b ha hb => by rw [rowM_gm ha hb, if_pos hb]
 have e2 : ∀ a b, a < n → b < n → gm (colM mxF.g1 mxF.g2 (rowM mxF.f1 mxF.f2 s p q n n) p q n n) a b = cst mxF.g1 mxF.g2 (gm (rowM mxF.f1 mxF.f2 s p q n n)) p q a b := fun a b ha hb => by rw [colM_gm ha hb, if_pos ha]
 have e3 : ∀ a b, a < n → b < n → gm (rowM sgF.f1 sgF.f2 (colM mxF.g1 mxF.g2 (rowM mxF.f1 mxF.f2 s p q n n) p q n n) p q n n) a b = rst sgF.f1 sgF.f2 (gm (colM mxF.g1 mxF.g2 (rowM mxF.f1 mxF.f2 s p q n n) p q n n)) p q a b := fun a b ha hb => by rw [rowM_gm ha hb, if_pos hb]
 rw [colM_gm hi hj, if_pos hi]
 have col : ∀ a, a < n → ∀ b, b < n → gm (rowM sgF.f1 sgF.f2 (colM mxF.g1 mxF.g2 (rowM mxF.f1 mxF.f2 s p q n n) p q n n) p q n n) a b = cst mxF.g1 mxF.g2 (gm s) p q a b := fun a ha b hb => by
  rw [e3 a b ha hb]
  have c1 : ∀ a, a < n → gm (colM mxF.g1 mxF.g2 (rowM mxF.f1 mxF.f2 s p q n n) p q n n) a b = cst mxF.g1 mxF.g2 (rst mxF.f1 mxF.f2 (gm s) p q) p q a b := fun a ha => by
   rw [e2 a b ha hb, cst, cst, e1 a p ha hp, e1 a q ha hq, e1 a b ha hb]
  unfold rst
  rw [c1 p hp, c1 q hq, c1 a ha]
  unfold cst rst
  simp only [mxF, sgF]
  by_cases k1 : b = p
  ·by_cases k2 : a = p
   ·simp only [k1, k2, if_true, if_neg hpq, if_neg (Ne.symm hpq)]; grind
   ·by_cases k3 : a = q
    ·simp only [k1, k3, if_true, if_neg hpq, if_neg (Ne.symm hpq)]; grind
    ·simp only [k1, k2, k3, if_true, if_false]
  ·by_cases k4 : b = q
   ·by_cases k2 : a = p
    ·simp only [k4, k2, if_true, if_neg hpq, if_neg (Ne.symm hpq)]; grind
    ·by_cases k3 : a = q
     ·simp only [k4, k3, if_true, if_neg hpq, if_neg (Ne.symm hpq)]; grind
     ·simp only [k4, k2, k3, if_true, if_false]
   ·by_cases k2 : a = p
    ·simp only [k1, k4, k2, if_true, if_false, if_neg hpq, if_neg (Ne.symm hpq)]; grind
    ·by_cases k3 : a = q
     ·simp only [k1, k4, k3, if_true, if_false, if_neg hpq, if_neg (Ne.symm hpq)]; grind
     ·simp only [k1, k4, k2, k3, if_true, if_false]
 rw [cst, col i hi p hp, col i hi q hq, col i hi j hj]
 unfold cst
 simp only [mxF, sgF]
 by_cases k1 : j = p
 ·simp only [k1, if_true, if_neg hpq, if_neg (Ne.symm hpq)]; grind
 ·by_cases k4 : j = q
  ·simp only [k4, if_true, if_neg hpq, if_neg (Ne.symm hpq)]; grind
  ·simp only [k1, k4, if_true, if_false]
end
section
open Go Go.RowKit
theorem c_RenormB {z w : List Qi} {s : List (List Qi)} {L M : Nat} (hs : Shp s z.length z.length) (hz : FitL z L) (hw : FitL w M) (hf : FitM s L) (hL : 1 ≤ L) (hM : 1 ≤ M) (hLb : L ≤ 1000000) (hMb : M ≤ 1000000) (hp : z.all posQ = true) (h1 : 1 ≤ z.length) (h8 : z.length ≤ 8) (hwl : w.length ≤ 1000) (hg : 6 * grow (2 * (M + 3 * L + 4) + L + 2) z.length + 4 ≤ 17592186044415) (hx : xgr (grow (2 * (M + 3 * L + 4) + L + 2) z.length) (z.length + 1) ≤ 900000000000) : Fun Tryz.prog 78 [NetT z s, NumsT w] (TupT [NetT (rnZ z w s) (rnS z w s), IntT .i64 (rnE z w s)]) := by
 refine Fun.intro Tryz.func78 rfl Tryz.ntmps78 rfl (fun cx => (ts (rn rfl (fG (Ht rfl)) fun B2 => (rn rfl (new_box1 (Ht rfl)) fun B3 => (rn rfl (eW (Ts := [Is (.slice none 0 0), Is (.slice none 0 0)]) O_30 rfl (fun V => aW ⟨rfl, trivial⟩ (aW ⟨rfl, trivial⟩ (aG)))) fun B4 => (ro rfl (cQ (cJ 0)) (eX (cK (ts (ro rfl (eY A_27 Z_27 (Ht rfl) (i := 1) rfl rfl) (ro rfl (dG U_27 (Ht rfl) len_map) (ro rfl (eZ fa_30_0 (Ht rfl) rfl) (ro rfl (eY A_27 Z_27 (Ht rfl) (i := 0) rfl rfl) ?_)))))))))))))
 refine ro rfl (dG U_27 (Ht rfl) len_map) (ro rfl (op_neqN (Ht rfl) (Ht rfl)) (eX (dQ (Ht rfl) (fun hb => ?_) (fun hb => ?_))))
 ·have hn : w.length ≠ z.length := by simpa using hb
  have he := rn_size (s := s) hn
  refine ts (ro rfl (OpTy.imp (bld_30_ ) net_nil) (gQ Z_30 (Ht rfl) (Ht rfl) rfl (i := 2) rfl (aK rfl) rfl rfl (ro rfl (cQ (cJ 4)) (eX (T_ret2 rfl (fX (fK A_30 Z_30 rfl (i := 2) rfl rfl) ?_) (fX (eU rfl) ?_))))))
  ·exact (fun v V h => by rw [rnZ, rnS, okL, okL, he]; exact h)
  ·exact (int_of he.symm)
 ·have hl : w.length = z.length := by simpa using hb
  rw [← hl] at hg hx
  refine cU (cK (ts (ro rfl (eY A_27 Z_27 (Ht rfl) (i := 1) rfl rfl) (ro rfl (cZ Tryz.call181 (c_positives (L := M) hw (by omega) (by omega)) ⟨(Ht rfl), trivial⟩) (ra rfl (eX (ts (rm rfl (ro rfl (op_neq (Ht rfl) cV) (eX (dQ (Ht rfl) (fun hb2 => ?_) (fun hb2 => ?_))))))))))))
  ·have hq : w.all posQ ≠ true := fun e => by rw [e] at hb2; simp at hb2
   have he := rn_arg (s := s) hl hq
   refine ts (ro rfl (OpTy.imp (bld_30_ ) net_nil) (rm rfl (gQ Z_30 (Ht rfl) (Ht rfl) rfl (i := 2) rfl (aK rfl) rfl rfl (ra rfl (eX (T_ret2 rfl (fX (fK A_30 Z_30 rfl (i := 2) rfl rfl) ?_) (fX (eU rfl) ?_)))))))
   ·exact (fun v V h => by rw [rnZ, rnS, okL, okL, he]; exact h)
   ·exact (int_of (by rw [if_neg hq, he]))
  ·have hq : w.all posQ = true := by
    apply Decidable.byContradiction; intro e
    rw [if_neg e] at hb2; simp at hb2
   have hov := rn_ov (s := s) hl hq
   have hovX := rn_ovX (s := s) hl hq
   haveI f0 := fit_one
   have hPf := rnP_fit hz hw hL hM hp hl
   have hMf := rnM_fit hz hw hL hM hp hl
   have hPl : (rnP z w).length = w.length := tab_len _ _
   have hMl : (rnM z w).length = w.length := tab_len _ _
   refine cU (ts (rn rfl (eW (Ts := [Is (.bool false), Is (.slice none 0 0), Is (.bool false), Is (.slice none 0 0), Is (.slice none 0 0)]) O_45 rfl (fun V => aW ⟨rfl, trivial⟩ (aW ⟨rfl, trivial⟩ (aW ⟨rfl, trivial⟩ (aW ⟨rfl, trivial⟩ (aW ⟨rfl, trivial⟩ (aG))))))) fun B7 => (eX (ts (ro rfl (cZ K_86 (c_Int (n := 1) (by decide) (by decide)) ⟨(cJ 1), trivial⟩) (rn rfl (eW (Ts := [Is (.bool false), Is (.slice none 0 0), Is (.bool false), Is (.slice none 0 0), Is (.slice none 0 0)]) O_45 rfl (fun V => aW ⟨rfl, trivial⟩ (aW ⟨rfl, trivial⟩ (aW ⟨rfl, trivial⟩ (aW ⟨rfl, trivial⟩ (aW ⟨rfl, trivial⟩ (aG))))))) fun B8 => ?_))))))
   refine gQ Z_45 (Ht rfl) (Ht rfl) rfl (i := 4) rfl (aK rfl) rfl rfl (eX (cK (fZ (m := 7) (dp 3 rfl (eY A_27 Z_27 (Ht rfl) (i := 1) rfl rfl) (dq 31 0 rfl (dG U_27 (Ht rfl) len_map) (C.D_new (Ei := [(32, _)]) rfl rfl rfl (bV (bG 1 rfl rfl) bW) (new_makeO (T := NumT Qi.zero) (i := Tryz.t45) und_27 info_45 rfl rfl (Ht rfl) rfl num_zero_p (El.ag rfl) (by show 88 * _ ≤ _; omega) (by omega)) (dp 3 rfl (eY A_27 Z_27 (Ht rfl) (i := 1) rfl rfl) (dq 34 3 rfl (dG U_27 (Ht rfl) len_map) ?_))))))))
   refine C.D_new (Ei := [(35, _)]) rfl rfl rfl (bV (bG 4 rfl rfl) bW) (new_makeO (T := NumT Qi.zero) (i := Tryz.t45) und_27 info_45 rfl rfl (Ht rfl) rfl num_zero_p (El.ag rfl) (by show 88 * _ ≤ _; omega) (by omega)) (C.D_cpy 2 rfl rfl rfl rfl rfl C.cpy_assign (fV mixed rfl (by kernel_rfl) (aJ (aJ (C.F_new (fun B33 => aJ (aJ (C.F_new (fun B36 => C.F_cpy rfl (aV (ra rfl (eX (cK (ts (ro rfl (eY A_27 Z_27 (Ht rfl) (i := 1) rfl rfl) (ro rfl (dG U_27 (Ht rfl) len_map) (ro rfl (cX (cJ 0)) ?_)))))))))))))))))
   refine eX (eG ?_)
   refine T_loop (fun (i : Nat) => i ≤ w.length) (fun (i : Nat) => w.length - i) (fun (i : Nat) => [(2, PtrB B2 0), (3, PtrB B3 0), (4, PtrB B4 0), (7, PtrB B7 0), (8, PtrB B8 0), (9, Is B33), (10, Is B36), (38, NT .i64 w.length), (39, NT .i64 i)]) (fun (i : Nat) => [box B2 30 [NumsT z, NumM s], box B3 27 [NumsT w], box B4 30 [Is (.slice none 0 0), Is (.slice none 0 0)], box B7 45 [Is (.bool false), Is (.slice none 0 0), Is (.bool false), Is (.slice none 0 0), Is (.slice none 0 0)], box B8 45 [BoolT (decide ((Qi.ofInt 1).a < 0)), NatT (Qi.ofInt 1).a.natAbs, BoolT (decide ((Qi.ofInt 1).b < 0)), NatT (Qi.ofInt 1).b.natAbs, NatT (du (Qi.ofInt 1))], rowO 45 5 B33 ((mixT (fun i => Qi.ofInt 1 + rnR z w i) Qi.zero w.length i).map NumT), rowO 45 5 B36 ((mixT (fun i => Qi.ofInt 1 - rnR z w i) Qi.zero w.length i).map NumT)]) 0 (Nat.zero_le _)
    (aQ rfl (aQ rfl (aQ rfl (aQ rfl (aQ rfl (aQ rfl (aQ rfl (aQ rfl (aQ rfl aX))))))))) (aU (box_of rfl) (aU (box_of rfl) (aU (box_of rfl) (aU (box_of rfl) (aU (box_of rfl) (aU (rowO_of (by rw [← mix_zero]; exact tab_rep NumT _)) (aU (rowO_of (by rw [← mix_zero]; exact tab_rep NumT _)) aY))))))) (fun i hi => ?_)
   refine ts (ro rfl (gX (Ht rfl) (Ht rfl)) (eX (cK (dQ (Ht rfl) (fun hc => ?_) (fun hc => ?_)))))
   ·have hin : i < w.length := by simp only [decide_eq_true_eq] at hc; omega
    have hzn := all_ne hp (show i < z.length by omega)
    haveI g1 : FitC (gv w i) M := hw.get hM i
    haveI g2 : FitC (gv z i) L := hz.get hL i
    haveI g3 : FitC (rnR z w i) (M + 3 * L + 2) := rnR_fit hz hw hL hM hp (by omega)
    have hl9 := mix_len (fun i => Qi.ofInt 1 + rnR z w i) Qi.zero w.length i
    have hl10 := mix_len (fun i => Qi.ofInt 1 - rnR z w i) Qi.zero w.length i
    refine cU (cK (eG (ts (rm rfl (ra rfl (eX (cK (Y.D_start (m := 15) [] (bY (Ei := [(3, _)]) rfl rfl (bQ (bJ rfl rfl) bX) rfl rfl (dX rfl (eY A_27 Z_27 (Ht rfl) (i := 1) rfl rfl)) (bY (Ei := [(11, _)]) rfl rfl (bQ (bJ rfl rfl) bX) rfl rfl (dX rfl (cX (Ht rfl))) (bY (Ei := [(43, _), (44, _)]) rfl rfl (bQ (bZ 0 rfl rfl) (bQ (bZ 1 rfl rfl) bX)) rfl rfl (dX rfl (dZ U_27 Z_45 (Ht rfl) (Ht rfl) rfl (dY (dU (d := Qi.zero) (by omega))))) ?_)))))))))))
    refine bY (Ei := [(45, _)]) rfl rfl (bQ (bZ 2 rfl rfl) bX) rfl rfl (dX rfl (dJ A_45 Z_45 (Ht rfl))) (bY (Ei := [(2, _)]) rfl rfl (bQ (bJ rfl rfl) bX) rfl rfl (dX rfl (eZ fa_30_0 (Ht rfl) rfl)) (bY (Ei := [(47, _)]) rfl rfl (bQ (bZ 4 rfl rfl) bX) rfl rfl (dX rfl (eY A_27 Z_27 (Ht rfl) (i := 0) rfl rfl)) (bY (Ei := [(11, _)]) rfl rfl (bQ (bJ rfl rfl) bX) rfl rfl (dX rfl (cX (Ht rfl))) (bY (Ei := [(48, _), (49, _)]) rfl rfl (bQ (bZ 5 rfl rfl) (bQ (bZ 6 rfl rfl) bX)) rfl rfl (dX rfl (dZ U_27 Z_45 (Ht rfl) (Ht rfl) rfl (dY (dU (d := Qi.zero) (by omega))))) ?_))))
    refine bY (Ei := [(50, _)]) rfl rfl (bQ (bZ 7 rfl rfl) bX) rfl rfl (dX rfl (dJ A_45 Z_45 (Ht rfl))) (bY (Ei := [(46, _), (51, _)]) rfl rfl (bQ (bZ 3 rfl rfl) (bQ (bZ 8 rfl rfl) bX)) rfl rfl (dX rfl (cZ Tryz.call59 (c_Div (x := gv w i) (y := gv z i) (L := M) (M := L) (by omega)) ⟨(Ht rfl), (Ht rfl), trivial⟩)) (bY (Ei := [(52, _)]) rfl rfl (bQ (bZ 9 rfl rfl) bX) rfl rfl (dX rfl (cX (Ht rfl))) (bY (Ei := [(42, _)]) rfl rfl (bQ (bZ 10 rfl rfl) bX) rfl rfl (dX rfl (dK (Ht rfl) rfl)) ?_)))
    refine bY (Ei := [(42, _)]) rfl rfl (bQ (bZ 10 rfl rfl) bX) rfl rfl (dX rfl (dK (Ht rfl) rfl)) (Y.D_newp (Ei := []) (fun bb => box bb 45 [BoolT (decide ((rnR z w i).a < 0)), NatT (rnR z w i).a.natAbs, BoolT (decide ((rnR z w i).b < 0)), NatT (rnR z w i).b.natAbs, NatT (du (rnR z w i))]) 14 rfl rfl rfl bX rfl rfl (by kernel_rfl) (eW (Ts := [Is (.bool false), Is (.slice none 0 0), Is (.bool false), Is (.slice none 0 0), Is (.slice none 0 0)]) O_45 rfl (fun V => aW ⟨rfl, trivial⟩ (aW ⟨rfl, trivial⟩ (aW ⟨rfl, trivial⟩ (aW ⟨rfl, trivial⟩ (aW ⟨rfl, trivial⟩ (aG))))))) ?_)
    refine Y.D_putN (Ei := [(53, _)]) 13 rfl rfl rfl rfl rfl rfl (bQ (bZ 11 rfl rfl) bX) (fun bb => P_stA Z_45 (Ht rfl) (Ht rfl) rfl (i := 0) rfl (aK rfl) rfl rfl) (Y.D_done mixed rfl (by kernel_rfl) rfl (by simp [Y.okP]) rfl rfl (bU (bU (bU (bU (bU (bU (bU (bU (bU (bU (bU (bU (bU (Y.F_newp (fun B12 => Y.F_putN (Y.F_nil ?_)))))))))))))))))
    refine ra rfl (eX (Y.D_start (m := 18) [(17, 5, rowO 45 5 B33 (((mixT (fun i => Qi.ofInt 1 + rnR z w i) Qi.zero w.length i).map NumT).set i (NumT (Qi.ofInt 1 + rnR z w i))))] (Y.D_step (Ei := [(9, _)]) rfl rfl (bQ (bJ rfl rfl) bX) rfl rfl (by kernel_rfl) (dX rfl (cX (Ht rfl))) (Y.D_step (Ei := [(11, _)]) rfl rfl (bQ (bJ rfl rfl) bX) rfl rfl (by kernel_rfl) (dX rfl (cX (Ht rfl))) (bY (Ei := [(10, _)]) rfl rfl (bQ (bJ rfl rfl) bX) rfl rfl (dX rfl (cX (Ht rfl))) (bY (Ei := [(11, _)]) rfl rfl (bQ (bJ rfl rfl) bX) rfl rfl (dX rfl (cX (Ht rfl))) ?_))))))
    refine Y.D_step (Ei := [(7, _)]) rfl rfl (bQ (bJ rfl rfl) bX) rfl rfl (by kernel_rfl) (dX rfl (eJ A_45 Z_45 (Ht rfl) (i := 3) rfl rfl rfl)) (Y.D_step (Ei := [(59, _)]) rfl rfl (bQ (bZ 4 rfl rfl) bX) rfl rfl (by kernel_rfl) (dX rfl (op_iface mkif_45 (Ht rfl))) (Y.D_step (Ei := [(8, _)]) rfl rfl (bQ (bJ rfl rfl) bX) rfl rfl (by kernel_rfl) (dX rfl (eJ A_45 Z_45 (Ht rfl) (i := 4) rfl rfl rfl)) (Y.D_step (Ei := [(12, _)]) rfl rfl (bQ (bJ rfl rfl) bX) rfl rfl (by kernel_rfl) (dX rfl (eJ A_45 Z_45 (Ht rfl) (i := 7) rfl rfl rfl)) ?_)))
    refine Y.D_step (Ei := [(61, _), (62, _)]) rfl rfl (bQ (bZ 6 rfl rfl) (bQ (bZ 7 rfl rfl) bX)) rfl rfl (by kernel_rfl) (dX rfl (cZ K_68 (c_Add (x := Qi.ofInt 1) (y := rnR z w i) (L := 1) (M := M + 3 * L + 2) (by omega)) ⟨(Ht rfl), (Ht rfl), trivial⟩)) (Y.D_step (Ei := [(60, _), (63, _)]) rfl rfl (bQ (bZ 5 rfl rfl) (bQ (bZ 8 rfl rfl) bX)) rfl rfl (by kernel_rfl) (dX rfl (op_invoke meth_45_Of K_302 c_OfZ (Ht rfl) ⟨(Ht rfl), trivial⟩)) (Y.D_step (Ei := [(7, _)]) rfl rfl (bQ (bJ rfl rfl) bX) rfl rfl (by kernel_rfl) (dX rfl (eJ A_45 Z_45 (Ht rfl) (i := 3) rfl rfl rfl)) ?_))
    refine Y.D_step (Ei := [(65, _)]) rfl rfl (bQ (bZ 10 rfl rfl) bX) rfl rfl (by kernel_rfl) (dX rfl (op_iface mkif_45 (Ht rfl))) (Y.D_step (Ei := [(8, _)]) rfl rfl (bQ (bJ rfl rfl) bX) rfl rfl (by kernel_rfl) (dX rfl (eJ A_45 Z_45 (Ht rfl) (i := 4) rfl rfl rfl)) (Y.D_step (Ei := [(12, _)]) rfl rfl (bQ (bJ rfl rfl) bX) rfl rfl (by kernel_rfl) (dX rfl (eJ A_45 Z_45 (Ht rfl) (i := 7) rfl rfl rfl)) (Y.D_step (Ei := [(67, _), (68, _)]) rfl rfl (bQ (bZ 12 rfl rfl) (bQ (bZ 13 rfl rfl) bX)) rfl rfl (by kernel_rfl) (dX rfl (cZ K_66 (c_Sub (x := Qi.ofInt 1) (y := rnR z w i) (L := 1) (M := M + 3 * L + 2) (by omega)) ⟨(Ht rfl), (Ht rfl), trivial⟩)) ?_)))
    refine Y.D_step (Ei := [(66, _), (69, _)]) rfl rfl (bQ (bZ 11 rfl rfl) (bQ (bZ 14 rfl rfl) bX)) rfl rfl (by kernel_rfl) (dX rfl (op_invoke meth_45_Of K_302 c_OfZ (Ht rfl) ⟨(Ht rfl), trivial⟩)) (Y.D_step (Ei := [(55, _), (56, _)]) rfl rfl (bQ (bZ 0 rfl rfl) (bQ (bZ 1 rfl rfl) bX)) rfl rfl (by kernel_rfl) (dX rfl (op_idxO U_27 Z_45 (Ht rfl) (Ht rfl) rfl (i := 5) rfl (by rw [List.length_map, hl9]; exact hin) rfl)) ?_)
    refine Y.D_putI (Ei := [(71, _), (64, _)]) 5 rfl rfl rfl (bQ (bZ 16 rfl rfl) (bQ (bZ 9 rfl rfl) bX)) (.head _) rfl (P_stO Z_45 (Ht rfl) (Ht rfl) (El.ag rfl) (i := 0) rfl rfl (by rw [List.length_map, hl9]; exact hin)) ?_
    refine Y.D_done mixed rfl (by kernel_rfl) rfl (by simp [Y.okP]) rfl rfl (bU (bU (bU (bU (bU (bU (bU (bU (bU (bU (bU (bU (bU (bU (bU (bU (bU (Y.F_putI (Y.F_nil ?_)))))))))))))))))))
    refine ro rfl (op_idxO U_27 Z_45 (Ht rfl) (Ht rfl) rfl (i := 6) rfl (by rw [List.length_map, hl10]; exact hin) rfl) ?_
    refine R_stO Z_45 (Ht rfl) (Ht rfl) (El.ag rfl) (i := 6) rfl rfl (by rw [List.length_map, hl10]; exact hin) rfl ?_
    refine eX (T_blk (cY (ro rfl (dV (Ht rfl) (cJ 1) (by show _ < 9223372036854775808; first | omega | (simp only [lim]; omega))) (rm rfl (eX (T_keep [0, 1, 2, 3, 4, 5, 6] rfl (by decide) (fU (i + 1) hin (by omega) (aQ rfl (aQ rfl (aQ rfl (aQ rfl (aQ rfl (aQ rfl (aQ rfl (aQ rfl (aQ rfl aX))))))))) (aU (box_of rfl) (aU (box_of rfl) (aU (box_of rfl) (aU (box_of rfl) (aU (box_of rfl) (aU (rowO_of (by rw [set_mapF]; exact congrArg _ (mix_set (f := (fun i => Qi.ofInt 1 + rnR z w i))))) (aU (rowO_of (by rw [set_mapF]; exact congrArg _ (mix_set (f := (fun i => Qi.ofInt 1 - rnR z w i))))) aY))))))))))))))
   ·have hin : i = w.length := by simp only [decide_eq_false_iff_not] at hc; omega
    rw [hin, mix_fin, mix_fin]
    refine gV rfl (gJ (i := 5) (tt := 9) rfl rfl frz_row (gJ (i := 6) (tt := 10) rfl rfl frz_row (gJ (i := 0) (tt := 2) rfl rfl frz_ptr (gJ (i := 1) (tt := 3) rfl rfl frz_ptr1 (ts (ro rfl (op_clos (γ := Bool) (Ts := fun x => cond x [NumsT (rnM z w), NumsT (rnP z w)] [NumsT (rnP z w), NumsT (rnM z w)]) (U := fun x => cond x (NumM (rnA z w s)) (NumM (rnB z w s))) Tryz.call182 (fun x => rn_both (x := x) (c_rn1 (z := z) (s := s) rfl (by omega) hMl hPl (by rw [hl]; exact hs) hMf hPf hf (by omega) hL (by omega)) (c_rn1 (z := z) (s := s) rfl (by omega) hPl hMl (by rw [hl]; exact hs) hPf hMf hf (by omega) hL (by omega))) ⟨(Ht rfl), (Ht rfl), trivial⟩) ?_))))))
    refine ra rfl (eX (ts (rm rfl (rm rfl (rm rfl (ro rfl (op_callV true (Ht rfl) ⟨(Ht rfl), (Ht rfl), trivial⟩) (rm rfl (rm rfl (rm rfl (ro rfl (op_callV false (Ht rfl) ⟨(Ht rfl), (Ht rfl), trivial⟩) (ro rfl (cZ Tryz.call92 (c_netOver (Y := rnA z w s) (M := rnB z w s) (n := w.length) (L := 2 * (M + 3 * L + 4) + L + 2) (K := 2 * (M + 3 * L + 4) + L + 2) (mxM_shp _ _ _ _) (mxM_shp _ _ _ _) (mxM_fit hMf hPf hf (by omega) hL) (mxM_fit hPf hMf hf (by omega) hL) (by omega) (by omega) (by omega) (by omega) (by omega) hg hx) ⟨(Ht rfl), (Ht rfl), trivial⟩) (rm rfl (ro rfl (dK (Ht rfl) rfl) ?_)))))))))))))
    refine ro rfl (dK (Ht rfl) rfl) (ra rfl (ra rfl (eX (cK (ts (rm rfl (ro rfl (op_neq (Ht rfl) cV) (eX (dQ (Ht rfl) (fun hd => ?_) (fun hd => ?_))))))))))
    ·have hno : ovE (rnB z w s) w.length ≠ 0 := by simpa using hd
     refine ts (ro rfl (OpTy.imp (bld_30_ ) net_nil) (rm rfl (gQ Z_30 (Ht rfl) (Ht rfl) rfl (i := 2) rfl (aK rfl) rfl rfl (ra rfl (eX (T_ret2 rfl (fX (fK A_30 Z_30 rfl (i := 2) rfl rfl) ?_) (fX (eU rfl) ?_)))))))
     ·exact (fun v V h => by rw [rnZ, rnS, okL, okL, hov, if_neg hno, if_neg hno]; exact h)
     ·exact (int_of hov.symm)
    ·have hno : ovE (rnB z w s) w.length = 0 := by simpa using hd
     refine cU (ts (ro rfl (dJ A_27 Z_27 (Ht rfl)) (ro rfl (cZ Tryz.call184 (c_Clone (l := w) (by omega)) ⟨(Ht rfl), trivial⟩) (rm rfl (ro rfl (bld_30_0_1 (Ht rfl) (Ht rfl)) (gQ Z_30 (Ht rfl) (Ht rfl) rfl (i := 2) rfl (aK rfl) rfl rfl (ro rfl (cQ (cJ 0)) (eX (T_ret2 rfl (fX (fK A_30 Z_30 rfl (i := 2) rfl rfl) ?_) (fX (eU rfl) ?_))))))))))
     ·exact (fun v V h => by rw [rnZ, okL, hov, hno, if_pos rfl, hovX]; exact h)
     ·exact (int_of (hov.trans hno).symm)
theorem c_ImpB {z : List Qi} {s : List (List Qi)} {L : Nat} (hs : Shp s z.length z.length) (hf : FitM s L) (hfz : FitL z L) (hp : z.all posQ = true) (hL : 1 ≤ L) (hLb : L ≤ 1000000) (h1 : 1 ≤ z.length) (h8 : z.length ≤ 8) (hg : 6 * grow (L + 4) z.length + 4 ≤ 17592186044415) (hx : xgr (grow (L + 4) z.length) (z.length + 1) ≤ 900000000000) : Fun Tryz.prog 17 [NetT z s] (TupT [NumM (impX z s), IntT .i64 (impE z s)]) := by
 have hid := idM_shp z.length
 have hif : FitM (idM z.length) 1 := idM_fit (Nat.le_refl 1)
 have hxn := Nat.le_trans (xgr_step (grow (L + 4) z.length) z.length) hx
 have hx1 : 1 ≤ xgr (grow (L + 4) z.length) z.length := Nat.le_trans (by omega) (Nat.le_trans (grow_le (L + 4) z.length) (xgr_ge _ _))
 refine Fun.intro Tryz.func17 rfl Tryz.ntmps17 rfl (fun cx => (ts (rn rfl (fG (Ht rfl)) fun B1 => (ro rfl (cQ cV) (ro rfl (cQ (cJ 0)) (eX (ts (ro rfl (eZ fa_30_0 (Ht rfl) rfl) (ro rfl (eY A_27 Z_27 (Ht rfl) (i := 0) rfl rfl) (ro rfl (dG U_27 (Ht rfl) len_map) (ro rfl (cZ K_91 (c_Id (n := z.length) (by omega)) ⟨(Ht rfl), trivial⟩) (ra rfl (eX (cK (fZ (m := 13) (dp 4 rfl (cX (Ht rfl)) (dp 1 rfl (eZ fa_30_1 (Ht rfl) rfl) (dq 13 1 rfl (eY A_28 Z_28 (Ht rfl) (i := 0) rfl rfl) ?_))))))))))))))))))
 refine dqq 12 0 14 2 rfl (cZ K_93 (eQ (c_sum (m := false) (n := z.length) (L := 1) (M := L) hid hs hif hf (Nat.le_refl 1) hL (by omega) (by omega)) (by rw [pm_plus]; exact fun _ _ h => h)) ⟨(Ht rfl), (Ht rfl), cV, trivial⟩) ?_
 refine dp 4 rfl (cX (Ht rfl)) (dp 1 rfl (eZ fa_30_1 (Ht rfl) rfl) (dq 17 5 rfl (eY A_28 Z_28 (Ht rfl) (i := 0) rfl rfl) (dqq 16 4 18 6 rfl (cZ K_93 (eQ (c_sum (m := true) (n := z.length) (L := 1) (M := L) hid hs hif hf (Nat.le_refl 1) hL (by omega) (by omega)) (by rw [pm_minus]; exact fun _ _ h => h)) ⟨(Ht rfl), (Ht rfl), cV, trivial⟩) ?_)))
 refine dqq 15 3 19 7 rfl (cZ Tryz.call92 (c_netOver (Y := (plM 1 1 s z.length)) (M := (plM 1 (-1) s z.length)) (n := z.length) (L := L + 4) (K := L + 4) (plM_shp _ _ _ _) (plM_shp _ _ _ _) (plM_fit hf hL fit_p1 fit_p1) (plM_fit hf hL fit_p1 fit_m1) (by omega) (by omega) (by omega) h1 h8 hg hx) ⟨(Ht rfl), (Ht rfl), trivial⟩) (dq 20 8 rfl (cX (Ht rfl)) (dq 11 9 rfl (dK (Ht rfl) rfl) (dq 11 9 rfl (dK (Ht rfl) rfl) (dq 21 10 rfl (cQ (Ht rfl)) (fV mixed rfl (by kernel_rfl) (aJ (aJ (aJ (aJ (aJ (aJ (aJ (aJ (aJ (aJ (aJ (aJ (aJ (aV ?_)))))))))))))))))))
 refine ra rfl (eX (cK (ts (rm rfl (ro rfl (op_neq (Ht rfl) cV) (eX (dQ (Ht rfl) (fun he => ?_) (fun he => ?_))))))))
 ·have ho : ovE (plM 1 (-1) s z.length) z.length ≠ 0 := by simpa using he
  refine ts (rm rfl (ro rfl (cQ cV) (ra rfl (eX (T_ret2 rfl (fX (eU rfl) ?_) (eU rfl))))))
  exact (fun v V h => by rw [impX, okL, if_neg (show ¬ impE z s = 0 from ho)]; exact nil_slT v V h)
 ·have ho : ovE (plM 1 (-1) s z.length) z.length = 0 := by simpa using he
  have hov : ovX (plM 1 1 s z.length) (plM 1 (-1) s z.length) z.length = mulM (plM 1 1 s z.length) (invX (plM 1 (-1) s z.length) z.length) z.length z.length z.length := by rw [ovX, ho]; rfl
  have hif2 := invX_fit (plM_shp _ _ _ _) (plM_fit (n := z.length) hf hL fit_p1 fit_m1) (by omega) (ovE_zero ho)
  have hpf := mulM_fit (n := z.length) (k := z.length) (m := z.length) (plM_fit (n := z.length) hf hL fit_p1 fit_p1) hif2 (by omega) hx1 h8
  refine T_sub (E' := [(0, _), (1, _), (2, _), (3, _), (4, _), (5, _), (6, _), (7, _), (8, _), (9, _), (10, _), (11, _), (12, _), (13, _), (14, _), (15, _), (16, _), (17, _), (18, _), (19, _), (20, _), (21, _), (22, _), (23, _), (24, _)]) (aQ rfl (aQ rfl (aQ rfl (aQ rfl (aQ rfl (aZ rfl (slT_of (by rw [hov])) (aQ rfl (aQ rfl (aQ rfl (aQ rfl (aQ rfl (aQ rfl (aQ rfl (aQ rfl (aQ rfl (aQ rfl (aQ rfl (aQ rfl (aQ rfl (aQ rfl (aQ rfl (aQ rfl (aQ rfl (aQ rfl (aQ rfl aX))))))))))))))))))))))))) ?_
  refine cU (ts (rm rfl (ro rfl (eZ fa_30_0 (Ht rfl) rfl) (ro rfl (eY A_27 Z_27 (Ht rfl) (i := 0) rfl rfl) (ro rfl (cZ Tryz.call94 (c_netScaled (m := mulM (plM 1 1 s z.length) (invX (plM 1 (-1) s z.length) z.length) z.length z.length z.length) (z := z) (n := z.length) (L := 8 * (L + 4 + xgr (grow (L + 4) z.length) z.length) + 17) (M := L) (ak := fun i j => j) (op := fun x y => x * y) mulM_shp rfl hpf hfz hp (by omega) hL (by omega) (fun i j hi hj => hj)) ⟨(Ht rfl), (Ht rfl), (Has.fn Tryz.call95 (γ := Nat × Nat) (Ts := fun x => [NT .i64 x.1, NT .i64 x.2]) (U := fun x => NT .i64 x.2) (fun x => c_column)), (Has.fn Tryz.call96 (γ := {p : Qi × Qi // FitC p.1 (8 * (L + 4 + xgr (grow (L + 4) z.length) z.length) + 17) ∧ FitC p.2 L ∧ p.2 ≠ 0}) (Ts := fun p => [NumT p.1.1, NumT p.1.2]) (U := fun p => TupT [NumT (p.1.1 * p.1.2), IntT .i64 0]) (fun p => haveI := p.2.1; haveI := p.2.2.1; (c_netTimes (x := p.1.1) (y := p.1.2) (by omega)))), trivial⟩) ?_)))))
  refine ro rfl (dK (Ht rfl) rfl) (ro rfl (dK (Ht rfl) rfl) (ra rfl (ra rfl (eX (T_ret2 rfl (fX (eU rfl) ?_) (fX (eU rfl) ?_))))))
  ·exact (slT_of (by rw [impX, okL, if_pos (show impE z s = 0 from ho)]; rfl))
  ·exact (int_of ho.symm)
theorem c_AdmB {z : List Qi} {s : List (List Qi)} {L : Nat} (hs : Shp s z.length z.length) (hf : FitM s L) (hfz : FitL z L) (hp : z.all posQ = true) (hL : 1 ≤ L) (hLb : L ≤ 1000000) (h1 : 1 ≤ z.length) (h8 : z.length ≤ 8) (hg : 6 * grow (L + 4) z.length + 4 ≤ 17592186044415) (hx : xgr (grow (L + 4) z.length) (z.length + 1) ≤ 900000000000) : Fun Tryz.prog 19 [NetT z s] (TupT [NumM (admX z s), IntT .i64 (admE z s)]) := by
 have hid := idM_shp z.length
 have hif : FitM (idM z.length) 1 := idM_fit (Nat.le_refl 1)
 have hxn := Nat.le_trans (xgr_step (grow (L + 4) z.length) z.length) hx
 have hx1 : 1 ≤ xgr (grow (L + 4) z.length) z.length := Nat.le_trans (by omega) (Nat.le_trans (grow_le (L + 4) z.length) (xgr_ge _ _))
 refine Fun.intro Tryz.func19 rfl Tryz.ntmps19 rfl (fun cx => (ts (rn rfl (fG (Ht rfl)) fun B1 => (ro rfl (cQ cV) (ro rfl (cQ (cJ 0)) (eX (ts (ro rfl (eZ fa_30_0 (Ht rfl) rfl) (ro rfl (eY A_27 Z_27 (Ht rfl) (i := 0) rfl rfl) (ro rfl (dG U_27 (Ht rfl) len_map) (ro rfl (cZ K_91 (c_Id (n := z.length) (by omega)) ⟨(Ht rfl), trivial⟩) (ra rfl (eX (cK (fZ (m := 13) (dp 4 rfl (cX (Ht rfl)) (dp 1 rfl (eZ fa_30_1 (Ht rfl) rfl) (dq 13 1 rfl (eY A_28 Z_28 (Ht rfl) (i := 0) rfl rfl) ?_))))))))))))))))))
 refine dqq 12 0 14 2 rfl (cZ K_93 (eQ (c_sum (m := true) (n := z.length) (L := 1) (M := L) hid hs hif hf (Nat.le_refl 1) hL (by omega) (by omega)) (by rw [pm_minus]; exact fun _ _ h => h)) ⟨(Ht rfl), (Ht rfl), cV, trivial⟩) ?_
 refine dp 4 rfl (cX (Ht rfl)) (dp 1 rfl (eZ fa_30_1 (Ht rfl) rfl) (dq 17 5 rfl (eY A_28 Z_28 (Ht rfl) (i := 0) rfl rfl) (dqq 16 4 18 6 rfl (cZ K_93 (eQ (c_sum (m := false) (n := z.length) (L := 1) (M := L) hid hs hif hf (Nat.le_refl 1) hL (by omega) (by omega)) (by rw [pm_plus]; exact fun _ _ h => h)) ⟨(Ht rfl), (Ht rfl), cV, trivial⟩) ?_)))
 refine dqq 15 3 19 7 rfl (cZ Tryz.call92 (c_netOver (Y := (plM 1 (-1) s z.length)) (M := (plM 1 1 s z.length)) (n := z.length) (L := L + 4) (K := L + 4) (plM_shp _ _ _ _) (plM_shp _ _ _ _) (plM_fit hf hL fit_p1 fit_m1) (plM_fit hf hL fit_p1 fit_p1) (by omega) (by omega) (by omega) h1 h8 hg hx) ⟨(Ht rfl), (Ht rfl), trivial⟩) (dq 20 8 rfl (cX (Ht rfl)) (dq 11 9 rfl (dK (Ht rfl) rfl) (dq 11 9 rfl (dK (Ht rfl) rfl) (dq 21 10 rfl (cQ (Ht rfl)) (fV mixed rfl (by kernel_rfl) (aJ (aJ (aJ (aJ (aJ (aJ (aJ (aJ (aJ (aJ (aJ (aJ (aJ (aV ?_)))))))))))))))))))
 refine ra rfl (eX (cK (ts (rm rfl (ro rfl (op_neq (Ht rfl) cV) (eX (dQ (Ht rfl) (fun he => ?_) (fun he => ?_))))))))
 ·have ho : ovE (plM 1 1 s z.length) z.length ≠ 0 := by simpa using he
  refine ts (rm rfl (ro rfl (cQ cV) (ra rfl (eX (T_ret2 rfl (fX (eU rfl) ?_) (eU rfl))))))
  exact (fun v V h => by rw [admX, okL, if_neg (show ¬ admE z s = 0 from ho)]; exact nil_slT v V h)
 ·have ho : ovE (plM 1 1 s z.length) z.length = 0 := by simpa using he
  have hov : ovX (plM 1 (-1) s z.length) (plM 1 1 s z.length) z.length = mulM (plM 1 (-1) s z.length) (invX (plM 1 1 s z.length) z.length) z.length z.length z.length := by rw [ovX, ho]; rfl
  have hif2 := invX_fit (plM_shp _ _ _ _) (plM_fit (n := z.length) hf hL fit_p1 fit_p1) (by omega) (ovE_zero ho)
  have hpf := mulM_fit (n := z.length) (k := z.length) (m := z.length) (plM_fit (n := z.length) hf hL fit_p1 fit_m1) hif2 (by omega) hx1 h8
  refine T_sub (E' := [(0, _), (1, _), (2, _), (3, _), (4, _), (5, _), (6, _), (7, _), (8, _), (9, _), (10, _), (11, _), (12, _), (13, _), (14, _), (15, _), (16, _), (17, _), (18, _), (19, _), (20, _), (21, _), (22, _), (23, _), (24, _)]) (aQ rfl (aQ rfl (aQ rfl (aQ rfl (aQ rfl (aZ rfl (slT_of (by rw [hov])) (aQ rfl (aQ rfl (aQ rfl (aQ rfl (aQ rfl (aQ rfl (aQ rfl (aQ rfl (aQ rfl (aQ rfl (aQ rfl (aQ rfl (aQ rfl (aQ rfl (aQ rfl (aQ rfl (aQ rfl (aQ rfl (aQ rfl aX))))))))))))))))))))))))) ?_
  refine cU (ts (rm rfl (ro rfl (eZ fa_30_0 (Ht rfl) rfl) (ro rfl (eY A_27 Z_27 (Ht rfl) (i := 0) rfl rfl) (ro rfl (cZ Tryz.call94 (c_netScaled (m := mulM (plM 1 (-1) s z.length) (invX (plM 1 1 s z.length) z.length) z.length z.length z.length) (z := z) (n := z.length) (L := 8 * (L + 4 + xgr (grow (L + 4) z.length) z.length) + 17) (M := L) (ak := fun i j => i) (op := fun x y => x / y) mulM_shp rfl hpf hfz hp (by omega) hL (by omega) (fun i j hi hj => hi)) ⟨(Ht rfl), (Ht rfl), (Has.fn Tryz.call100 (γ := Nat × Nat) (Ts := fun x => [NT .i64 x.1, NT .i64 x.2]) (U := fun x => NT .i64 x.1) (fun x => c_row)), (Has.fn Tryz.call101 (γ := {p : Qi × Qi // FitC p.1 (8 * (L + 4 + xgr (grow (L + 4) z.length) z.length) + 17) ∧ FitC p.2 L ∧ p.2 ≠ 0}) (Ts := fun p => [NumT p.1.1, NumT p.1.2]) (U := fun p => TupT [NumT (p.1.1 / p.1.2), IntT .i64 0]) (fun p => haveI := p.2.1; haveI := p.2.2.1; (eQ (c_divided (x := p.1.1) (y := p.1.2) (by omega)) (by rw [if_neg (show ¬ p.1.2 = Qi.zero from p.2.2.2)]; exact fun _ _ h => h)))), trivial⟩) ?_)))))
  refine ro rfl (dK (Ht rfl) rfl) (ro rfl (dK (Ht rfl) rfl) (ra rfl (ra rfl (eX (T_ret2 rfl (fX (eU rfl) ?_) (fX (eU rfl) ?_))))))
  ·exact (slT_of (by rw [admX, okL, if_pos (show admE z s = 0 from ho)]; rfl))
  ·exact (int_of ho.symm)
theorem c_FromImpB {z : List Qi} {m : List (List Qi)} {L : Nat} (hf : FitM m L) (hfz : FitL z L) (hL : 1 ≤ L) (hLb : L ≤ 1000000) (hzl : z.length ≤ 1000) (hml : m.length ≤ 1000) (hg : 6 * grow (4 * L + 6) z.length + 4 ≤ 17592186044415) (hx : xgr (grow (4 * L + 6) z.length) (z.length + 1) ≤ 900000000000) : Fun Tryz.prog 22 [NumsT z, NumM m] (TupT [NetT (frZ z m (fiQ z m)) (frS z m (fiQ z m) (plM (-1) 1 (fiQ z m) z.length)), IntT .i64 (frE z m (fiQ z m))]) := by
 refine Fun.intro Tryz.func22 rfl Tryz.ntmps22 rfl (fun cx => (ts (rn rfl (eW (Ts := [Is (.slice none 0 0), Is (.slice none 0 0)]) O_30 rfl (fun V => aW ⟨rfl, trivial⟩ (aW ⟨rfl, trivial⟩ (aG)))) fun B4 => (ro rfl (cQ (cJ 0)) (eX (ts (rm rfl (rm rfl (ro rfl (cZ Tryz.call85 (c_netNew (z := z) (s := m) (L := L) hfz (by omega) hzl hml) ⟨(Ht rfl), (Ht rfl), trivial⟩) (rm rfl (ro rfl (dK (Ht rfl) rfl) (ro rfl (dK (Ht rfl) rfl) (rn rfl (eW (Ts := [Is (.slice none 0 0), Is (.slice none 0 0)]) O_30 rfl (fun V => aW ⟨rfl, trivial⟩ (aW ⟨rfl, trivial⟩ (aG)))) fun B6 => ?_)))))))))))))
 refine gQ Z_30 (Ht rfl) (Ht rfl) rfl (i := 1) rfl (aK rfl) rfl rfl (ra rfl (eX (cK (ts (rm rfl (ro rfl (op_neq (Ht rfl) cV) (eX (dQ (Ht rfl) (fun he => ?_) (fun he => ?_)))))))))
 ·have hn : netErr z m ≠ 0 := by simpa using he
  have hfr := fr_bad (q := fiQ z m) hn
  refine ts (ro rfl (OpTy.imp (bld_30_ ) net_nil) (rm rfl (gQ Z_30 (Ht rfl) (Ht rfl) rfl (i := 0) rfl (aK rfl) rfl rfl (ra rfl (eX (T_ret2 rfl (fX (fK A_30 Z_30 rfl (i := 0) rfl rfl) ?_) (fX (eU rfl) ?_)))))))
  ·exact (fun v V h => by rw [frZ, frS, okL, okL, hfr, if_neg hn, if_neg hn]; exact h)
  ·exact (int_of hfr.symm)
 ·have hn : netErr z m = 0 := by simpa using he
  have hfr := fr_ok (q := fiQ z m) hn
  obtain ⟨h1, h8, hs, hp2⟩ := netErr_ok hn
  have hqs : Shp (fiQ z m) z.length z.length := Shp.tab
  have hqf : FitM (fiQ z m) (4 * L + 2) := ((fiQ_fit hfz hf hL hL hp2)).le (by omega)
  have hok : okL (netErr z m) z = z := by rw [hn]; rfl
  have hokm : okL (netErr z m) m = m := by rw [hn]; rfl
  have hid := idM_shp z.length
  have hif : FitM (idM z.length) 1 := idM_fit (Nat.le_refl 1)
  rw [hok, hokm]
  refine cU (ts (ro rfl (eZ fa_30_1 (Ht rfl) rfl) (ro rfl (eY A_28 Z_28 (Ht rfl) (i := 1) rfl rfl) (ro rfl (eZ fa_30_0 (Ht rfl) rfl) (ro rfl (eY A_27 Z_27 (Ht rfl) (i := 1) rfl rfl) (ro rfl (cZ Tryz.call94 (c_netScaled (m := m) (z := z) (n := z.length) (L := L) (M := L) (ak := fun i j => j) (op := fun x y => x / y) hs rfl hf hfz hp2 hL hL (by omega) (fun i j hi hj => hj)) ⟨(Ht rfl), (Ht rfl), (Has.fn Tryz.call95 (γ := Nat × Nat) (Ts := fun x => [NT .i64 x.1, NT .i64 x.2]) (U := fun x => NT .i64 x.2) (fun x => c_column)), (Has.fn Tryz.call101 (γ := {p : Qi × Qi // FitC p.1 L ∧ FitC p.2 L ∧ p.2 ≠ 0}) (Ts := fun p => [NumT p.1.1, NumT p.1.2]) (U := fun p => TupT [NumT (p.1.1 / p.1.2), IntT .i64 0]) (fun p => haveI := p.2.1; haveI := p.2.2.1; (eQ (c_divided (x := p.1.1) (y := p.1.2) (by omega)) (by rw [if_neg (show ¬ p.1.2 = Qi.zero from p.2.2.2)]; exact fun _ _ h => h)))), trivial⟩) ?_))))))
  refine rm rfl (ro rfl (dK (Ht rfl) rfl) (ro rfl (dK (Ht rfl) rfl) (ra rfl (ra rfl (eX (cK (ts (rm rfl (ro rfl (op_neq (Ht rfl) cV) (eX (T_condF (Ht rfl) (by rfl) ?_)))))))))))
  refine cU (ts (rm rfl (ro rfl (dG U_27 (Ht rfl) len_map) (ro rfl (cZ K_91 (c_Id (n := z.length) (by omega)) ⟨(Ht rfl), trivial⟩) (ra rfl (eX (ts (rm rfl (rm rfl (ro rfl (cZ K_93 (eQ (c_sum (m := false) (n := z.length) (L := 4 * L + 2) (M := 1) hqs hid hqf hif (by omega) (Nat.le_refl 1) (by omega) (by omega)) (by rw [pm_plus2]; exact fun _ _ h => h)) ⟨(Ht rfl), (Ht rfl), cV, trivial⟩) ?_))))))))))
  refine rm rfl (rm rfl (ro rfl (cZ K_93 (eQ (c_sum (m := true) (n := z.length) (L := 4 * L + 2) (M := 1) hqs hid hqf hif (by omega) (Nat.le_refl 1) (by omega) (by omega)) (by rw [pm_minus2]; exact fun _ _ h => h)) ⟨(Ht rfl), (Ht rfl), cV, trivial⟩) ?_))
  refine ro rfl (cZ Tryz.call104 (c_netUnder (M := (plM 1 1 (fiQ z m) z.length)) (Y := (plM (-1) 1 (fiQ z m) z.length)) (n := z.length) (L := 4 * L + 6) (K := 4 * L + 6) (plM_shp _ _ _ _) (plM_shp _ _ _ _) (plM_fit hqf (by omega) fit_m1 fit_p1) (plM_fit hqf (by omega) fit_p1 fit_p1) (by omega) (by omega) (by omega) h1 h8 hg hx) ⟨(Ht rfl), (Ht rfl), trivial⟩) (rm rfl (ro rfl (dK (Ht rfl) rfl) (ro rfl (dK (Ht rfl) rfl) (ro rfl (eZ fa_30_1 (Ht rfl) rfl) (R_st Z_28 (Ht rfl) (Ht rfl) (i := 1) rfl (aK rfl) rfl (ra rfl (eX (cK (ts (rm rfl ?_))))))))))
  refine ro rfl (op_neq (Ht rfl) cV) (eX (dQ (Ht rfl) (fun hf2 => ?_) (fun hf2 => ?_)))
  ·have ho : ovE (plM 1 1 (fiQ z m) z.length) z.length ≠ 0 := by simpa using hf2
   refine ts (ro rfl (OpTy.imp (bld_30_ ) net_nil) (rm rfl (gQ Z_30 (Ht rfl) (Ht rfl) rfl (i := 0) rfl (aK rfl) rfl rfl (ra rfl (eX (T_ret2 rfl (fX (fK A_30 Z_30 rfl (i := 0) rfl rfl) ?_) (fX (eU rfl) ?_)))))))
   ·exact (fun v V h => by rw [frZ, frS, okL, okL, hfr, if_neg ho, if_neg ho]; exact h)
   ·exact (int_of hfr.symm)
  ·have ho : ovE (plM 1 1 (fiQ z m) z.length) z.length = 0 := by simpa using hf2
   refine cU (ts (ro rfl (eJ A_30 Z_30 (Ht rfl) (i := 1) rfl rfl rfl) (gQ Z_30 (Ht rfl) (Ht rfl) rfl (i := 0) rfl (aK rfl) rfl rfl (ro rfl (cQ (cJ 0)) (eX (T_ret2 rfl (fX (fK A_30 Z_30 rfl (i := 0) rfl rfl) ?_) (fX (eU rfl) ?_)))))))
   ·exact (fun v V h => by rw [frZ, frS, okL, okL, hfr, if_pos ho, if_pos ho]; rw [unX, okL, if_pos ho] at h; exact h)
   ·exact (int_of (hfr.trans ho).symm)
theorem c_FromAdmB {z : List Qi} {m : List (List Qi)} {L : Nat} (hf : FitM m L) (hfz : FitL z L) (hL : 1 ≤ L) (hLb : L ≤ 1000000) (hzl : z.length ≤ 1000) (hml : m.length ≤ 1000) (hg : 6 * grow (4 * L + 6) z.length + 4 ≤ 17592186044415) (hx : xgr (grow (4 * L + 6) z.length) (z.length + 1) ≤ 900000000000) : Fun Tryz.prog 28 [NumsT z, NumM m] (TupT [NetT (frZ z m (faQ z m)) (frS z m (faQ z m) (plM 1 (-1) (faQ z m) z.length)), IntT .i64 (frE z m (faQ z m))]) := by
 refine Fun.intro Tryz.func28 rfl Tryz.ntmps28 rfl (fun cx => (ts (rn rfl (eW (Ts := [Is (.slice none 0 0), Is (.slice none 0 0)]) O_30 rfl (fun V => aW ⟨rfl, trivial⟩ (aW ⟨rfl, trivial⟩ (aG)))) fun B4 => (ro rfl (cQ (cJ 0)) (eX (ts (rm rfl (rm rfl (ro rfl (cZ Tryz.call85 (c_netNew (z := z) (s := m) (L := L) hfz (by omega) hzl hml) ⟨(Ht rfl), (Ht rfl), trivial⟩) (rm rfl (ro rfl (dK (Ht rfl) rfl) (ro rfl (dK (Ht rfl) rfl) (rn rfl (eW (Ts := [Is (.slice none 0 0), Is (.slice none 0 0)]) O_30 rfl (fun V => aW ⟨rfl, trivial⟩ (aW ⟨rfl, trivial⟩ (aG)))) fun B6 => ?_)))))))))))))
 refine gQ Z_30 (Ht rfl) (Ht rfl) rfl (i := 1) rfl (aK rfl) rfl rfl (ra rfl (eX (cK (ts (rm rfl (ro rfl (op_neq (Ht rfl) cV) (eX (dQ (Ht rfl) (fun he => ?_) (fun he => ?_)))))))))
 ·have hn : netErr z m ≠ 0 := by simpa using he
  have hfr := fr_bad (q := faQ z m) hn
  refine ts (ro rfl (OpTy.imp (bld_30_ ) net_nil) (rm rfl (gQ Z_30 (Ht rfl) (Ht rfl) rfl (i := 0) rfl (aK rfl) rfl rfl (ra rfl (eX (T_ret2 rfl (fX (fK A_30 Z_30 rfl (i := 0) rfl rfl) ?_) (fX (eU rfl) ?_)))))))
  ·exact (fun v V h => by rw [frZ, frS, okL, okL, hfr, if_neg hn, if_neg hn]; exact h)
  ·exact (int_of hfr.symm)
 ·have hn : netErr z m = 0 := by simpa using he
  have hfr := fr_ok (q := faQ z m) hn
  obtain ⟨h1, h8, hs, hp2⟩ := netErr_ok hn
  have hqs : Shp (faQ z m) z.length z.length := Shp.tab
  have hqf : FitM (faQ z m) (4 * L + 2) := ((faQ_fit hfz hf hL hL)).le (by omega)
  have hok : okL (netErr z m) z = z := by rw [hn]; rfl
  have hokm : okL (netErr z m) m = m := by rw [hn]; rfl
  have hid := idM_shp z.length
  have hif : FitM (idM z.length) 1 := idM_fit (Nat.le_refl 1)
  rw [hok, hokm]
  refine cU (ts (ro rfl (eZ fa_30_1 (Ht rfl) rfl) (ro rfl (eY A_28 Z_28 (Ht rfl) (i := 1) rfl rfl) (ro rfl (eZ fa_30_0 (Ht rfl) rfl) (ro rfl (eY A_27 Z_27 (Ht rfl) (i := 1) rfl rfl) (ro rfl (cZ Tryz.call94 (c_netScaled (m := m) (z := z) (n := z.length) (L := L) (M := L) (ak := fun i j => i) (op := fun x y => y * x) hs rfl hf hfz hp2 hL hL (by omega) (fun i j hi hj => hi)) ⟨(Ht rfl), (Ht rfl), (Has.fn Tryz.call100 (γ := Nat × Nat) (Ts := fun x => [NT .i64 x.1, NT .i64 x.2]) (U := fun x => NT .i64 x.1) (fun x => c_row)), (Has.fn Tryz.call107 (γ := {p : Qi × Qi // FitC p.1 L ∧ FitC p.2 L ∧ p.2 ≠ 0}) (Ts := fun p => [NumT p.1.1, NumT p.1.2]) (U := fun p => TupT [NumT (p.1.2 * p.1.1), IntT .i64 0]) (fun p => haveI := p.2.1; haveI := p.2.2.1; (c_before (x := p.1.1) (y := p.1.2) (by omega)))), trivial⟩) ?_))))))
  refine rm rfl (ro rfl (dK (Ht rfl) rfl) (ro rfl (dK (Ht rfl) rfl) (ra rfl (ra rfl (eX (cK (ts (rm rfl (ro rfl (op_neq (Ht rfl) cV) (eX (T_condF (Ht rfl) (by rfl) ?_)))))))))))
  refine cU (ts (rm rfl (ro rfl (dG U_27 (Ht rfl) len_map) (ro rfl (cZ K_91 (c_Id (n := z.length) (by omega)) ⟨(Ht rfl), trivial⟩) (ra rfl (eX (ts (rm rfl (rm rfl (ro rfl (cZ K_93 (eQ (c_sum (m := false) (n := z.length) (L := 1) (M := 4 * L + 2) hid hqs hif hqf (Nat.le_refl 1) (by omega) (by omega) (by omega)) (by rw [pm_plus]; exact fun _ _ h => h)) ⟨(Ht rfl), (Ht rfl), cV, trivial⟩) ?_))))))))))
  refine rm rfl (rm rfl (ro rfl (cZ K_93 (eQ (c_sum (m := true) (n := z.length) (L := 1) (M := 4 * L + 2) hid hqs hif hqf (Nat.le_refl 1) (by omega) (by omega) (by omega)) (by rw [pm_minus]; exact fun _ _ h => h)) ⟨(Ht rfl), (Ht rfl), cV, trivial⟩) ?_))
  refine ro rfl (cZ Tryz.call104 (c_netUnder (M := (plM 1 1 (faQ z m) z.length)) (Y := (plM 1 (-1) (faQ z m) z.length)) (n := z.length) (L := 4 * L + 6) (K := 4 * L + 6) (plM_shp _ _ _ _) (plM_shp _ _ _ _) (plM_fit hqf (by omega) fit_p1 fit_m1) (plM_fit hqf (by omega) fit_p1 fit_p1) (by omega) (by omega) (by omega) h1 h8 hg hx) ⟨(Ht rfl), (Ht rfl), trivial⟩) (rm rfl (ro rfl (dK (Ht rfl) rfl) (ro rfl (dK (Ht rfl) rfl) (ro rfl (eZ fa_30_1 (Ht rfl) rfl) (R_st Z_28 (Ht rfl) (Ht rfl) (i := 1) rfl (aK rfl) rfl (ra rfl (eX (cK (ts (rm rfl ?_))))))))))
  refine ro rfl (op_neq (Ht rfl) cV) (eX (dQ (Ht rfl) (fun hf2 => ?_) (fun hf2 => ?_)))
  ·have ho : ovE (plM 1 1 (faQ z m) z.length) z.length ≠ 0 := by simpa using hf2
   refine ts (ro rfl (OpTy.imp (bld_30_ ) net_nil) (rm rfl (gQ Z_30 (Ht rfl) (Ht rfl) rfl (i := 0) rfl (aK rfl) rfl rfl (ra rfl (eX (T_ret2 rfl (fX (fK A_30 Z_30 rfl (i := 0) rfl rfl) ?_) (fX (eU rfl) ?_)))))))
   ·exact (fun v V h => by rw [frZ, frS, okL, okL, hfr, if_neg ho, if_neg ho]; exact h)
   ·exact (int_of hfr.symm)
  ·have ho : ovE (plM 1 1 (faQ z m) z.length) z.length = 0 := by simpa using hf2
   refine cU (ts (ro rfl (eJ A_30 Z_30 (Ht rfl) (i := 1) rfl rfl rfl) (gQ Z_30 (Ht rfl) (Ht rfl) rfl (i := 0) rfl (aK rfl) rfl rfl (ro rfl (cQ (cJ 0)) (eX (T_ret2 rfl (fX (fK A_30 Z_30 rfl (i := 0) rfl rfl) ?_) (fX (eU rfl) ?_)))))))
   ·exact (fun v V h => by rw [frZ, frS, okL, okL, hfr, if_pos ho, if_pos ho]; rw [unX, okL, if_pos ho] at h; exact h)
   ·exact (int_of (hfr.trans ho).symm)
end
section
open Go Go.RowKit
structure Perm1 (O : List Nat) (n : Nat) : Prop where
 nd : O.Nodup
 all : ∀ x, x ∈ O ↔ 1 ≤ x ∧ x ≤ n
theorem Perm1.len {O : List Nat} {n : Nat} (h : Perm1 O n) : O.length = n := by
 refine Nat.le_antisymm ?_ ?_
 ·refine pig (n := n) (f := fun i => O.getD i 0 - 1) (fun x hx => ?_) (fun x y hx hy e => ?_)
  ·have := (h.all (O.getD x 0)).1 (by rw [show O.getD x 0 = O[x] by simp [List.getD, hx]]; exact List.getElem_mem hx)
   show O.getD x 0 - 1 < n; omega
  ·have a := (h.all (O.getD x 0)).1 (by rw [show O.getD x 0 = O[x] by simp [List.getD, hx]]; exact List.getElem_mem hx)
   have b := (h.all (O.getD y 0)).1 (by rw [show O.getD y 0 = O[y] by simp [List.getD, hy]]; exact List.getElem_mem hy)
   have e2 : O.getD x 0 = O.getD y 0 := by have : O.getD x 0 - 1 = O.getD y 0 - 1 := e; omega
   rw [show O.getD x 0 = O[x] by simp [List.getD, hx], show O.getD y 0 = O[y] by simp [List.getD, hy]] at e2
   exact (List.getElem_inj h.nd).1 e2
 ·have key : ∀ j, j < n → ∃ i, i < O.length ∧ O.getD i 0 = j + 1 := fun j hj => by
   obtain ⟨i, hi, e⟩ := List.getElem_of_mem ((h.all (j + 1)).2 ⟨by omega, by omega⟩)
   exact ⟨i, hi, by simp [List.getD, hi, e]⟩
  refine pig (n := O.length) (f := fun j => if hj : j < n then Classical.choose (key j hj) else 0) (fun x hx => by simp only [dif_pos hx]; exact (Classical.choose_spec (key x hx)).1) (fun x y hx hy e => ?_)
  simp only [dif_pos hx, dif_pos hy] at e
  have a := (Classical.choose_spec (key x hx)).2
  have b := (Classical.choose_spec (key y hy)).2
  rw [e] at a; omega
section
variable {O : List Nat} {n : Nat}
theorem Perm1.at (h : Perm1 O n) {i : Nat} (hi : i < n) : 1 ≤ O.getD i 0 ∧ O.getD i 0 ≤ n := by
 have hl := h.len
 exact (h.all _).1 (by rw [show O.getD i 0 = O[i] by simp [List.getD, show i < O.length by omega]]; exact List.getElem_mem _)
theorem Perm1.inj (h : Perm1 O n) {i j : Nat} (hi : i < n) (hj : j < n) (e : O.getD i 0 = O.getD j 0) : i = j := by
 have hl := h.len
 rw [show O.getD i 0 = O[i] by simp [List.getD, show i < O.length by omega], show O.getD j 0 = O[j] by simp [List.getD, show j < O.length by omega]] at e
 exact (List.getElem_inj h.nd).1 e
end
end
section
open Go Go.RowKit
section
variable {P : Program} {n : Nat} {E : Env} {H : Hp}
variable {d : Option Tmp} {t : TypeId} {pos : String} {af : Array Edge} {g : Option (Nat × Bool)}
theorem op_lendI {f : FuncId} {xs : List Operand} {tys : Array TypeId} {Ts : List Ty} {U T0 T1 : Ty} {A : SA} {j tt : Nat} (hc : ∀ args w, (callFunc f args).run P w = .ok (.enter f args) w) (hF : Fun P f Ts U)
  (hA : H[j]? = some A) (hl : look E tt = some T0) (hz : ∀ v S V, T0.p v V → A.h S V V → T1.p v V) (hU : ∀ v V V', U.p v V → U.p v V') (ha : Args ((tt, T1) :: E) xs Ts) :
  OpTy P n E H ⟨d, .call ⟨.value (.func f), xs.toArray, tys⟩, t, pos, af, g⟩ U := fun cx X a w V hi hs K Q hK => by
 have hrun : (execOp a.eval ⟨d, .call ⟨.value (.func f), xs.toArray, tys⟩, t, pos, af, g⟩).run P w = .ok (.enter f (xs.map a.eval).toArray) w := by
  simp [execOp, resolve, Act.eval, Deferred.ofValue, invoke, hc]
 simp only [Oper.wp, hrun, Oper.upon_enter]
 obtain ⟨F, h1, h2⟩ := hi.hp
 have hjl := (List.getElem?_eq_some_iff.1 hA).1
 obtain ⟨k1, k2⟩ := h1 j A (by rw [List.getElem?_append_left hjl]; exact hA)
 let V1 : View := fun b => if b ∈ F j then w.heap[b]? else V b
 have hle : VLe V V1 := fun b o hb => by
  have : b ∉ F j := fun hf => by have := (k2 b hf).1; rw [hb] at this; cases this
  simp only [V1, if_neg this]; exact hb
 have hon : ∀ b o, V1 b = some o → w.heap[b]? = some o := fun b o hb => by
  by_cases hf : b ∈ F j
  ·simp only [V1, if_pos hf] at hb; exact hb
  ·simp only [V1, if_neg hf] at hb; exact hi.on b o hb
 have hA1 : A.h (F j) V1 V1 := A.mono (A.loc k1 fun b hb => by simp only [V1, if_pos hb]; rfl) hle
 have hsl : Slots n ((tt, T1) :: E) V1 a := by
  have hs' := hs.mono hle
  refine ⟨hs'.1, hs'.2.1, fun t' T hT => ?_⟩
  rw [look_cons] at hT
  by_cases e : tt = t'
  ·subst e
   rw [if_pos rfl] at hT; obtain rfl := Option.some.inj hT
   obtain ⟨v, q1, q2⟩ := hs'.2.2 _ _ hl
   exact ⟨v, q1, hz v (F j) V1 q2 hA1⟩
  ·rw [if_neg e] at hT; exact hs'.2.2 t' T hT
 refine (hF _ V1 w hon (Args.all hsl ha)).mono ?_
 rintro e w' ⟨v, V', rfl, m1, m2, m3, m4, m5⟩
 exact hK v w' V (hi.after (VLe.refl V) (fun b o hb => m2 b o (m1 b o (hle b o hb))) (fun b o hb h0 => by rw [hb] at h0; cases h0) m4) (VLe.refl V) (hU v V' V m5)
theorem op_indexA {x i : Operand} {q : Nat} {Ts : List Ty} {T : Ty} {kd : IntKind} {e : TypeId} {len : Nat} (hU : ∀ w, (underlying t).run P w = .ok (.array len e) w) (hS : ∀ w, (sizeOf e).run P w = .ok 1 w) (hg : ∀ w, (isAgg e).run P w = .ok false w)
  (hx : Has E x (AggT Ts)) (hi : Has E i (NT kd q)) (hl : q < len) (hT : Ts[q]? = some T) {t' : TypeId} : OpTy P n E H ⟨d, .index t x i, t', pos, af, g⟩ T :=
 op_pure fun a V w hs => by
  obtain ⟨vs, e1, e4⟩ := hx n V a hs
  have ei : a.eval i = .int kd (q : Int) := hi n V a hs
  obtain ⟨u, e5, e6⟩ := e4.all.get hT
  exact ⟨u, by simp [execOp, e1, ei, Instr.index, asIntOf, Sem.run_bind, hU, hS, hg, part, Result.andThen, hl, e5], e6⟩
end
end
section
open Go Go.RowKit
section
variable {P : Program} {R : Post} {cx : Cx} {n : Nat} {k : List It} {E : Env} {H : Hp}
theorem HH.two {base : Nat} {w : World} {V : View} {Z : SA} {X : Hp} (h : HH base w V (Z :: X)) : HH base w V [Z, starSA (SA.emp :: X)] := by
 have h1 : HH base w V ((Z :: X).set 0 SA.emp ++ [Z]) := h.last rfl
 have h2 : HH base w V (starSA (SA.emp :: X) :: [Z]) := HH.repack h1
 exact h2.pick (is := [1, 0]) ⟨⟨_, rfl, fun _ _ _ h => h⟩, ⟨_, rfl, fun _ _ _ h => h⟩, trivial⟩ (by decide)
theorem FunO.pack {f : FuncId} {Ts : List Ty} {γ : Type} {U : γ → Ty} {X : γ → Hp} {Q : γ → Prop} (h : FunO P f Ts [] γ U X Q) : FunO P f Ts [] γ U (fun x => [starSA (SA.emp :: X x)]) Q :=
 fun cx Z vs V w h1 h2 => (h cx Z vs V w h1 h2).mono fun e w' ⟨v, V', x, a, b, c, d, e'⟩ => ⟨v, V', x, a, b, c.withHH c.hp.two, d, e'⟩
theorem T_star {X Y : Hp} (h : Tr P R cx n k E (X ++ Y)) : Tr P R cx n k E (starSA X :: Y) := fun a w ⟨V, hin, hs⟩ => h a w ⟨V, hin.withHH hin.hp.unpack, hs⟩
theorem P_at {o : Oper} {A B : SA} {j : Nat} {H' : Hp} (h : W.PutTy P n E [A] [B] o) (hH : H[j]? = some A) (hH' : H.set j B = H') : W.PutTy P n E H H' o := fun cx X a w V hi hs => by
 subst hH'
 obtain ⟨w', e1, e2⟩ := Go.Proofs.YteimkhgiekndjaaGreat.putAt h hi (get_app hH) hs
 rw [set_app hH] at e2
 exact ⟨w', e1, e2⟩
end
namespace W
variable {P : Program} {R : Post} {cx : Cx} {n : Nat} {k : List It} {E : Env} {H : Hp} {Hf : Bool → Hp} {p : Nat}
theorem D_both {ops l : List Oper} {m : Nat} {o : Oper} {acc : List (Nat × Ob)} {d : Nat} {T : Ty} {Ei : Env} (hd : o.dst = some d) (hn : Nat.blt d n = true) (hs : Srcs ops m E acc o Ei) (hp : Nat.beq acc.length p = false) (hst : ∀ b, StepTy P n ops.toArray Ei (Hf b) o T)
  (h : Dr P R cx n ops m k E Hf p l ((d, .val T) :: acc)) : Dr P R cx n ops m k E Hf p (o :: l) acc := fun hops hobs => by
 have hlen : acc.length ≤ ops.length := by
  have := congrArg List.length hops
  simp at this; omega
 have ho : ops[acc.length]? = some o := by
  rw [hops, List.getElem?_append_right (by simp; omega)]
  simp [Nat.min_eq_left hlen]
 have hlt : acc.length < ops.length := (List.getElem?_eq_some_iff.1 ho).1
 refine h ?_ ⟨⟨o, ho, ⟨hd, aK hn, fun e => by rw [e] at hp; simp at hp⟩, Ei, hs, .inl hst⟩, hobs⟩
 rw [List.length_cons, List.take_succ_eq_append_getElem hlt]
 have : ops[acc.length] = o := by simpa [hlt] using ho
 rw [this]
 simpa using hops
end W
end
section
open Go Go.RowKit
section
variable {P : Program} {n : Nat} {E : Env} {H : Hp}
variable {d : Option Tmp} {t : TypeId} {pos : String} {af : Array Edge} {g : Option (Nat × Bool)}
theorem op_idxAB {x i : Operand} {B o q r s : Nat} {kd : IntKind} {j : Int} {e : TypeId} {len : Nat} (hU : ∀ w, (underlying t).run P w = .ok (.array len e) w) (hS : ∀ w, (sizeOf e).run P w = .ok s w)
  (hx : Has E x (PtrB B o)) (hi : Has E i (IntT kd j)) (hj : j = (q : Int)) (hl : q < len) (hr : o + q * s = r) {t' : TypeId} : OpTy P n E H ⟨d, .indexAddr t x i, t', pos, af, g⟩ (PtrB B r) :=
 op_pure fun a V w hs => by
  have e1 : a.eval x = .pointer (some ⟨B, o, none⟩) := hx n V a hs
  have ei : a.eval i = .int kd j := hi n V a hs
  subst hj hr
  exact ⟨.pointer (some ⟨B, o + q * s, none⟩), by simp [execOp, e1, ei, Instr.indexAt, Instr.sureAddr, asIntOf, Sem.run_bind, hU, hS, Result.andThen, hl, add_plain], rfl⟩
end
end
section
open Go Go.RowKit
theorem c_same {z z' : List Qi} {s s' : List (List Qi)} {e e' : Int} {L : Nat} (hz : FitL z L) (hz2 : FitL z' L) (hs : FitM s L) (hs2 : FitM s' L) (hL : 1 ≤ L) (hK : L ≤ 8796093022208) (hsh : Shp s z.length z.length) (hsh2 : Shp s' z'.length z'.length) (hl : z.length ≤ 1000) (hl2 : z'.length ≤ 1000) : Fun Tryz.prog 40 [NetT z s, IntT .i64 e, NetT z' s', IntT .i64 e'] (BoolT (decide (e = 0) && decide (e' = 0) && netEq z z' s s')) := by
 refine Fun.intro Tryz.func40 rfl Tryz.ntmps40 rfl (fun cx => (ts (rn rfl (fG (Ht rfl)) fun B4 => (rn rfl (fG (Ht rfl)) fun B6 => (ro rfl (cQ cV) (eX (ts (rm rfl (ro rfl (op_eql (Ht rfl) cV) (rm rfl (fQ rfl rfl (eK rfl rfl (Ht rfl) (fun h => cX (Ht rfl))) (fQ rfl rfl (eK rfl rfl (Ht rfl) (fun h => op_eql (fJ rfl h) cV)) (ro rfl (op_and (Ht rfl) (fun h => (fJ rfl h))) (rm rfl (fQ rfl rfl (eK rfl rfl (Ht rfl) (fun h => eJ A_30 Z_30 (Ht rfl) (i := 0) rfl rfl rfl)) (fQ rfl rfl (eK rfl rfl (Ht rfl) (fun h => eJ A_30 Z_30 (Ht rfl) (i := 1) rfl rfl rfl)) ?_))))))))))))))))
 refine fQ rfl rfl (eK rfl rfl (Ht rfl) (fun h => cZ Tryz.call36 (c_netEqual (L := L) hz hz2 hs hs2 hL hK hsh hsh2 hl hl2) ⟨(fJ rfl h), (fJ rfl h), trivial⟩)) (ro rfl (op_and (Ht rfl) (fun h => (fJ rfl h))) (ra rfl (eX ?_)))
 exact fW rfl (eU rfl)
end
section
open Go Go.RowKit
theorem c_areT {l : List Qi} {L : Nat} (hf : FitL l L) (hL : 1 ≤ L) (hK : L ≤ 8796093022208) (hl : l.length ≤ 1000) : Fun Tryz.prog 62 [NumsT l, NumsT l] (BoolT true) := by
 refine Fun.intro Tryz.func62 rfl Tryz.ntmps62 rfl (fun cx => (ts (ro rfl (cQ cV) (eX (cK (ts (rm rfl (ro rfl (dG U_27 (Ht rfl) len_map) (rm rfl (ro rfl (dG U_27 (Ht rfl) len_map) (ro rfl (op_neqN (Ht rfl) (Ht rfl)) (eX (T_condF (Ht rfl) (by simp) ?_)))))))))))))
 refine cU (cK (ts (rm rfl (ro rfl (dG U_27 (Ht rfl) len_map) (ro rfl (cX (cJ 0)) (eX (eG ?_)))))))
 refine T_loop (fun (i : Nat) => i ≤ l.length) (fun (i : Nat) => l.length - i) (fun (i : Nat) => [(0, NumsT l), (1, NumsT l), (12, NT .i64 l.length), (13, NT .i64 i)]) (fun (i : Nat) => []) 0 (Nat.zero_le _)
  (aQ rfl (aQ rfl (aZ rfl (nt_of (by simp)) (aQ rfl aX)))) aY (fun i hi => ?_)
 refine ts (ro rfl (gX (Ht rfl) (Ht rfl)) (eX (cK (dQ (Ht rfl) (fun hc => ?_) (fun hc => ?_)))))
 ·have hin : i < l.length := by simp only [decide_eq_true_eq] at hc; omega
  haveI g1 : FitC (gv l i) L := hf.get hL i
  refine cU (cK (eG (ts (rm rfl (ra rfl (eX (cK (fZ (m := 8) (dp 0 rfl (cX (Ht rfl)) (dp 5 rfl (cX (Ht rfl)) (dqq 16 0 17 1 rfl (dZ U_27 Z_45 (Ht rfl) (Ht rfl) rfl (dY (dU (d := Qi.zero) (by omega)))) (dq 18 2 rfl (dJ A_45 Z_45 (Ht rfl)) (dp 1 rfl (cX (Ht rfl)) (dp 5 rfl (cX (Ht rfl)) (dqq 20 4 21 5 rfl (dZ U_27 Z_45 (Ht rfl) (Ht rfl) rfl (dY (dU (d := Qi.zero) (by omega)))) (dq 22 6 rfl (dJ A_45 Z_45 (Ht rfl)) (fV mixed rfl (by kernel_rfl) (aJ (aJ (aJ (aJ (aJ (aJ (aJ (aJ (aV ?_))))))))))))))))))))))))))
  refine ro rfl (cZ Tryz.call109 (c_Same (x := gv l i) (y := gv l i) (L := L) (M := L) (by omega) (by omega)) ⟨(Ht rfl), (Ht rfl), trivial⟩) (ro rfl (op_not (Ht rfl)) (eX (T_condF (Ht rfl) (by simp) ?_)))
  refine cU (T_blk (cY (ro rfl (dV (Ht rfl) (cJ 1) (by show _ < 9223372036854775808; first | omega | (simp only [lim]; omega))) (rm rfl (eX (fU (i + 1) hin (by omega) (aQ rfl (aQ rfl (aQ rfl (aQ rfl aX)))) aY))))))
 ·refine gV rfl (ts (ro rfl (cQ cV) (eX ?_)))
  exact fW rfl (eU rfl)
theorem c_equalT {m : List (List Qi)} {n k L : Nat} (hs : Shp m n k) (hf : FitM m L) (hL : 1 ≤ L) (hK : L ≤ 8796093022208) (hl : n ≤ 1000) (hk : k ≤ 1000) : Fun Tryz.prog 79 [NumM m, NumM m] (BoolT true) := by
 have hml := hs.1
 refine Fun.intro Tryz.func79 rfl Tryz.ntmps79 rfl (fun cx => (ts (ro rfl (cQ cV) (eX (cK (ts (rm rfl (ro rfl (dG U_28 (Ht rfl) len_map) (rm rfl (ro rfl (dG U_28 (Ht rfl) len_map) (ro rfl (op_neqN (Ht rfl) (Ht rfl)) (eX (T_condF (Ht rfl) (by simp) ?_)))))))))))))
 refine cU (cK (ts (rm rfl (ro rfl (dG U_28 (Ht rfl) len_map) (ro rfl (cX (cJ 0)) (eX (eG ?_)))))))
 refine T_loop (fun (i : Nat) => i ≤ m.length) (fun (i : Nat) => m.length - i) (fun (i : Nat) => [(0, NumM m), (1, NumM m), (12, NT .i64 m.length), (13, NT .i64 i)]) (fun (i : Nat) => []) 0 (Nat.zero_le _)
  (aQ rfl (aQ rfl (aZ rfl (nt_of (by simp)) (aQ rfl aX)))) aY (fun i hi => ?_)
 refine ts (ro rfl (gX (Ht rfl) (Ht rfl)) (eX (cK (dQ (Ht rfl) (fun hc => ?_) (fun hc => ?_)))))
 ·have hin : i < m.length := by simp only [decide_eq_true_eq] at hc; omega
  have hrl : (m.getD i []).length = k := hs.row (by omega)
  refine cU (cK (eG (ts (rm rfl (ra rfl (eX (cK (fZ (m := 8) (dp 0 rfl (cX (Ht rfl)) (dp 5 rfl (cX (Ht rfl)) (dqq 16 0 17 1 rfl (dZ U_28 Z_27 (Ht rfl) (Ht rfl) rfl (dY (dU (d := []) (by omega)))) (dq 18 2 rfl (dJ A_27 Z_27 (Ht rfl)) (dp 1 rfl (cX (Ht rfl)) (dp 5 rfl (cX (Ht rfl)) (dqq 20 4 21 5 rfl (dZ U_28 Z_27 (Ht rfl) (Ht rfl) rfl (dY (dU (d := []) (by omega)))) (dq 22 6 rfl (dJ A_27 Z_27 (Ht rfl)) (fV mixed rfl (by kernel_rfl) (aJ (aJ (aJ (aJ (aJ (aJ (aJ (aJ (aV ?_))))))))))))))))))))))))))
  refine ro rfl (cZ Tryz.call62 (c_areT (l := m.getD i []) (L := L) (hf.row i) hL hK (by omega)) ⟨(Ht rfl), (Ht rfl), trivial⟩) (ro rfl (op_not (Ht rfl)) (eX (T_condF (Ht rfl) (by simp) ?_)))
  refine cU (T_blk (cY (ro rfl (dV (Ht rfl) (cJ 1) (by show _ < 9223372036854775808; first | omega | (simp only [lim]; omega))) (rm rfl (eX (fU (i + 1) hin (by omega) (aQ rfl (aQ rfl (aQ rfl (aQ rfl aX)))) aY))))))
 ·refine gV rfl (ts (ro rfl (cQ cV) (eX ?_)))
  exact fW rfl (eU rfl)
theorem c_identity {n : Nat} (hn : n ≤ 32) : Fun Tryz.prog 77 [NumM (idM n)] (BoolT true) := by
 have hil := (idM_shp n).1
 have hid : Fun Tryz.prog 91 [NT .i64 (idM n).length] (NumM (idM n)) := by rw [hil]; exact c_Id hn
 refine Fun.intro Tryz.func77 rfl Tryz.ntmps77 rfl (fun cx => (ts (ro rfl (cQ cV) (eX (ts (rm rfl (rm rfl (ro rfl (dG U_28 (Ht rfl) len_map) (ro rfl (cZ K_91 hid ⟨(Ht rfl), trivial⟩) (ro rfl (cZ Tryz.call79 (c_equalT (m := idM n) (n := n) (k := n) (L := 1) (idM_shp n) (idM_fit (Nat.le_refl 1)) (Nat.le_refl 1) (by decide) (by omega) (by omega)) ⟨(Ht rfl), (Ht rfl), trivial⟩) (ra rfl (eX ?_))))))))))))
 exact fW rfl (eU rfl)
theorem c_alike {a : Nat} {zl sl : List Rt} {r : Rt} (ha : a < 256) : Fun Tryz.prog 69 [PartT a zl sl, RatT r] (TupT [NetT ((plZ a [r]).map Rt.q) (rq (plS a sl)), BoolT true]) := by
 have hB := c_Build (a := a) (zl := [r]) (sl := sl) ha
 refine Fun.intro Tryz.func69 rfl Tryz.ntmps69 rfl (fun cx => (ts (rn rfl (fG (Ht rfl)) fun B2 => (rn rfl (fG (Ht rfl)) fun B3 => (rn rfl (eW (Ts := [Is (.slice none 0 0), Is (.slice none 0 0)]) O_30 rfl (fun V => aW ⟨rfl, trivial⟩ (aW ⟨rfl, trivial⟩ (aG)))) fun B4 => (ro rfl (cQ cV) (eX (ts (ro rfl (eJ A_91 Z_91 (Ht rfl) (i := 1) rfl rfl rfl) (ro rfl (op_bslice (xs := [.tmp 9]) U_22 Z_91 O_91 (cW (Ht rfl) cG) rfl rfl rfl) (ro rfl (eZ fa_24_1 (Ht rfl) rfl) ?_)))))))))))
 refine R_st Z_22 (Ht rfl) (Ht rfl) (i := 0) rfl (aK rfl) rfl (eX (ts (ro rfl (eJ Tryz.isAgg24 Tryz.sizeOf24 (Ht rfl) (i := 0) rfl rfl rfl) (ro rfl (cZ Tryz.call16 hB ⟨(Ht rfl), trivial⟩) (rm rfl (ro rfl (dK (Ht rfl) rfl) (ro rfl (dK (Ht rfl) rfl) (ro rfl (dK (Ht rfl) rfl) (rn rfl (eW (Ts := [Is (.slice none 0 0), Is (.slice none 0 0)]) O_30 rfl (fun V => aW ⟨rfl, trivial⟩ (aW ⟨rfl, trivial⟩ (aG)))) fun B6 => (rn rfl (eW (Ts := [Is (.slice none 0 0), Is (.slice none 0 0)]) O_34 rfl (fun V => aW ⟨rfl, trivial⟩ (aW ⟨rfl, trivial⟩ (aG)))) fun B7 => ?_))))))))))
 refine gQ Z_30 (Ht rfl) (Ht rfl) rfl (i := 3) rfl (aK rfl) rfl rfl (gQ Z_34 (Ht rfl) (Ht rfl) rfl (i := 4) rfl (aK rfl) rfl rfl (ra rfl (eX (ts (ro rfl (eJ A_30 Z_30 (Ht rfl) (i := 3) rfl rfl rfl) (rm rfl (gQ Z_30 (Ht rfl) (Ht rfl) rfl (i := 2) rfl (aK rfl) rfl rfl (ra rfl (eX ?_)))))))))
 exact T_ret2 rfl (fK A_30 Z_30 rfl (i := 2) rfl rfl) (eU rfl)
end
section
open Go Go.RowKit
theorem c_fresh {z : List Qi} {s : List (List Qi)} {q : Int} {o : List Int} (hl : z.length ≤ 1000) (ho : o.length ≤ 1000) : Fun Tryz.prog 127 [NetT z s, IntT .i64 q, SlT 1 (o.map (IntT .i64))] (IntT .i64 (freshE z.length q o)) := by
 refine Fun.intro Tryz.func127 rfl Tryz.ntmps127 rfl (fun cx => (ts (rn rfl (fG (Ht rfl)) fun B3 => (ro rfl (cQ (cJ 0)) (eX (cK (eG (ts (ro rfl (eJ A_30 Z_30 (Ht rfl) (i := 0) rfl rfl rfl) (rm rfl (ro rfl (cZ Tryz.call171 c_has ⟨(Ht rfl), (Ht rfl), trivial⟩) (ro rfl (op_not (Ht rfl)) (ra rfl (eX (dQ (Ht rfl) (fun hb1 => ?_) (fun hb1 => ?_))))))))))))))))
 ·have h2 : ¬ (1 ≤ q ∧ q ≤ (z.length : Int)) := by simpa only [Bool.not_eq_true', decide_eq_false_iff_not] using hb1
  refine ts (ro rfl (cQ (cJ 1)) (eX (fW rfl (fX (eU rfl) ?_))))
  exact (int_of (if_pos h2).symm)
 ·have h2 : 1 ≤ q ∧ q ≤ (z.length : Int) := by simpa using hb1
  refine ts (rm rfl (rm rfl (ro rfl (cZ Tryz.call178 (c_ContainsInt (l := o) (v := q) (by omega)) ⟨(Ht rfl), (Ht rfl), trivial⟩) (ra rfl (eX (dQ (Ht rfl) (fun hb2 => ?_) (fun hb2 => ?_)))))))
  ·refine ts (ro rfl (cQ (cJ 8)) (eX (fW rfl (fX (eU rfl) ?_))))
   exact (int_of (by rw [freshE, if_neg (fun k => k h2), if_pos hb2]; rfl))
  ·refine cU (T_blk (ts (ro rfl (cQ (cJ 0)) (eX (fW rfl (fX (eU rfl) ?_))))))
   exact (int_of (by rw [freshE, if_neg (fun k => k h2), if_neg (by rw [hb2]; decide)]; rfl))
end
section
open Go Go.RowKit
theorem bld_120_0_1 {n : Nat} {E : Env} {H : Hp} {d : Option Tmp} {t : TypeId} {pos : String} {af : Array Edge} {g : Option (Nat × Bool)} {x0 x1 : Operand} {T0 T1 : Ty} [s0 : Shape T0 1 false] (h0 : Has E x0 T0) [s1 : Shape T1 1 false] (h1 : Has E x1 T1) :
  OpTy Tryz.prog n E H ⟨d, .build 120 #[(0, x0), (1, x1)], t, pos, af, g⟩ (AggT [T0, T1]) :=
 op_build (parts := [(0, x0), (1, x1)]) fun a V w hs => by
  have p0 := h0 n V a hs
  generalize e0 : a.eval x0 = v0 at p0
  have q0 := (s0.ok v0 V p0).2.2 rfl
  have p1 := h1 n V a hs
  generalize e1 : a.eval x1 = v1 at p1
  have q1 := (s1.ok v1 V p1).2.2 rfl
  refine ⟨.agg #[v0, v1], ?_, [v0, v1], rfl, aW (⟨p0, q0⟩) (aW (⟨p1, q1⟩) (aG))⟩
  simp [e0, e1, Instr.build, Instr.fill, Sem.run_bind, Result.andThen, cells_agg, q0.cells, q1.cells, O_120, U_120, Z_3]
end
section
open Go Go.RowKit
theorem c_paired {φ : Qi → Qi → Bool} {z : List Qi} {S : List (List Qi)} {js : List (Int × Int)} {L : Nat} (hfz : FitL z L) (hL : 1 ≤ L) (hLb : L ≤ 1000000) (hz : z.length ≤ 1000) (hj : js.length ≤ 100) : Fun Tryz.prog 108 [NetT z S, JsT js, ClT Tryz.prog (FQ L) (fun x => [NumT x.1.1, NumT x.1.2]) (fun x => BoolT (φ x.1.1 x.1.2))] (IntT .i64 (moE φ z js)) := by
 refine Fun.intro Tryz.func108 rfl Tryz.ntmps108 rfl (fun cx => (ts (rn rfl (fG (Ht rfl)) fun B3 => (ro rfl (cQ (cJ 0)) (eX (ts (ro rfl (cQ cV) (eX (cK (cK (T_row 3 1 (cY (rm rfl (ro rfl (dG U_59 (Ht rfl) len_map) (ro rfl (cX (cJ 0)) (eX (eG ?_)))))))))))))))))
 refine T_loop2 (fun (k : Nat) (vG : Value) => k ≤ js.length ∧ ∀ j, j < k → moE1 φ z js j = 0) (fun (k : Nat) (vG : Value) => js.length - k) (fun (k : Nat) (vG : Value) => [(1, JsT js), (2, ClT Tryz.prog (FQ L) (fun x => [NumT x.1.1, NumT x.1.2]) (fun x => BoolT (φ x.1.1 x.1.2))), (3, PtrB B3 0), (7, Is vG), (13, JsT js), (14, NT .i64 js.length), (15, NT .i64 k)]) (fun (k : Nat) (vG : Value) => [box B3 30 [NumsT z, NumM S], rowO 3 1 vG ((jfl (js.take k)).map (IntT .i64))]) 0 _ ⟨Nat.zero_le _, fun j h => by omega⟩
  (aQ rfl (aQ rfl (aQ rfl (aQ rfl (aQ rfl (aQ rfl (aQ rfl aX))))))) (aU (box_of rfl) (aU (rowO_of rfl) aY)) (fun k vG ⟨hk, h0⟩ => ?_)
 refine ts (ro rfl (gX (Ht rfl) (Ht rfl)) (eX (cK (dQ (Ht rfl) (fun hd => ?_) (fun hd => ?_)))))
 ·have hkn : k < js.length := by simp only [decide_eq_true_eq] at hd; omega
  have hjk := jfl_len (js.take k)
  refine cU (cK (eG (ts (ro rfl (dZ U_59 Z_120 (Ht rfl) (Ht rfl) rfl (dY (dU (d := (0, 0)) hkn))) (ro rfl (dJ Tryz.isAgg120 Z_120 (Ht rfl)) (rn rfl (eW (Ts := [Is (.int .i64 0), Is (.int .i64 0)]) O_120 rfl (fun V => aW ⟨rfl, trivial⟩ (aW ⟨rfl, trivial⟩ (aG)))) fun B9 => (gQ Z_120 (Ht rfl) (Ht rfl) rfl (i := 2) rfl (aK rfl) rfl rfl (eX (cK (cK (gJ (i := 2) (tt := 9) rfl rfl frz_ptr (cY (ro rfl (dJ Tryz.isAgg120 Z_120 (Ht rfl)) ?_)))))))))))))
  refine ro rfl (cX (cJ 0)) (eX (eG (T_keep [0, 1] rfl (by decide) ?_)))
  refine T_loop2 (fun (i : Nat) (vI : Value) => i ≤ 2 ∧ ∀ x, x < i → jpE z js k x = 0) (fun (i : Nat) (vI : Value) => 2 - i) (fun (i : Nat) (vI : Value) => [(1, JsT js), (2, ClT Tryz.prog (FQ L) (fun x => [NumT x.1.1, NumT x.1.2]) (fun x => BoolT (φ x.1.1 x.1.2))), (3, PtrB B3 0), (7, Is vI), (9, PT (JT (jat js k))), (13, JsT js), (14, NT .i64 js.length), (15, NT .i64 k), (19, JT (jat js k)), (20, NT .i64 i)]) (fun (i : Nat) (vI : Value) => [box B3 30 [NumsT z, NumM S], rowO 3 1 vI ((jfl (js.take k) ++ (pl2 (jat js k)).take i).map (IntT .i64))]) 0 _ ⟨Nat.zero_le _, fun x h => by omega⟩
   (aQ rfl (aQ rfl (aQ rfl (aQ rfl (aQ rfl (aQ rfl (aQ rfl (aQ rfl (aQ rfl (aQ rfl aX)))))))))) (aU (box_of rfl) (aU (rowO_of (by rw [List.take_zero, List.append_nil])) aY)) (fun i vI ⟨hi, h1⟩ => ?_)
  refine ts (ro rfl (gX (Ht rfl) (cJ 2)) (eX (cK (dQ (Ht rfl) (fun he => ?_) (fun he => ?_)))))
  ·have hi2 : i < 2 := by simp only [decide_eq_true_eq] at he; omega
   have hol : (jfl (js.take k) ++ (pl2 (jat js k)).take i).length ≤ 300 := by rw [List.length_append, hjk, List.length_take, List.length_take]; omega
   refine cU (cK (eG (ts (ro rfl (op_indexA U_120 Z_3 A_3 (Ht rfl) (Ht rfl) (by omega) (pl2_get hi2)) (ra rfl (eX (cK (ts (ro rfl (eJ A_30 Z_30 (Ht rfl) (i := 0) rfl rfl rfl) (rm rfl (rm rfl (ro rfl (op_lendI Tryz.call127 (c_fresh (z := z) (s := S) (q := (pl2 (jat js k)).getD i 0) (o := jfl (js.take k) ++ (pl2 (jat js k)).take i) hz (by omega)) (j := 1) (tt := 25) rfl rfl frz_row (fun _ _ _ h => h) ⟨(Ht rfl), (Ht rfl), (Ht rfl), trivial⟩) (ra rfl (eX (ts (rm rfl (ro rfl (op_neq (Ht rfl) cV) (eX (dQ (Ht rfl) (fun hf => ?_) (fun hf => ?_))))))))))))))))))))
   ·have h3 : jpE z js k i ≠ 0 := by simp only [Bool.not_eq_true', decide_eq_false_iff_not] at hf; exact hf
    have h4 : moE1 φ z js k = jpE z js k i := mo_a hi2 h1 h3
    have h5 : moE φ z js = jpE z js k i := (firstE_at h0 (by rw [h4]; exact h3) hkn).trans h4
    refine ts (rm rfl (ra rfl (eX (fW rfl (fX (eU rfl) ?_)))))
    exact (int_of h5.symm)
   ·have h3 : jpE z js k i = 0 := by simp only [Bool.not_eq_false', decide_eq_true_eq] at hf; exact hf
    refine cU (cY (rm rfl (rm rfl (ro rfl (op_bslice (xs := [.tmp 31]) U_69 Z_3 O_3 (cW (Ht rfl) cG) rfl rfl rfl) (R_append (inf := Tryz.t3) und_69 info_3 rfl rfl rfl (Ht rfl) (Ht rfl) (i := 1) rfl (by simp) (fun T hT => by simp at hT; subst hT; exact El.one) (by show _ * 8 ≤ _; simp only [List.length_map, List.length_cons, List.length_nil]; omega) (by simp only [List.length_map, List.length_cons, List.length_nil]; omega) rfl (fun v2 => ?_))))))
    refine ra rfl (eX (T_blk (cY (ro rfl (dV (Ht rfl) (cJ 1) (by show _ < 9223372036854775808; first | omega | (simp only [lim]; omega))) (rm rfl (eX ?_))))))
    refine fU (i + 1, v2) ⟨hi2, fun x hx => by
     by_cases e : x = i
     ·rw [e]; exact h3
     ·exact h1 x (by omega)⟩ (by dsimp only; omega) (aQ rfl (aQ rfl (aQ rfl (aQ rfl (aQ rfl (aQ rfl (aQ rfl (aQ rfl (aQ rfl (aQ rfl aX)))))))))) (aU (box_of rfl) (aU (rowO_of (by rw [pl2_take hi2, ← List.append_assoc, List.map_append (l₁ := jfl (js.take k) ++ (pl2 (jat js k)).take i)]; rfl)) aY))
  ·obtain rfl : i = 2 := by simp only [decide_eq_false_iff_not] at he; omega
   obtain ⟨⟨p1, p2⟩, ⟨p3, p4⟩, h3⟩ := mo_b (φ := φ) h1
   have hrow : jfl (js.take (k + 1)) = jfl (js.take k) ++ (pl2 (jat js k)).take 2 := jfl_take hkn
   have g1 : FitC (gv z ((jat js k).1 - 1).toNat) L := hfz.get hL _
   have g2 : FitC (gv z ((jat js k).2 - 1).toNat) L := hfz.get hL _
   refine gV rfl (cK (fZ (m := 15) (dp 2 rfl (cX (Ht rfl)) (dp 3 rfl (eZ fa_30_0 (Ht rfl) rfl) (dq 36 1 rfl (eY A_27 Z_27 (Ht rfl) (i := 0) rfl rfl) (dp 9 rfl (op_idxA U_120 Z_3 (Ht rfl) cV rfl (by decide) rfl) (dq 38 3 rfl (dJ A_3 Z_3 (Ht rfl)) (dq 39 4 rfl (op_sub (Ht rfl) cV (r := ((((jat js k).1 - 1).toNat : Nat) : Int)) ((w64 (z := (jat js k).1 - 1) (by omega)).trans (by omega))) ?_))))))))
   refine dqq 37 2 40 5 rfl (dZ U_27 Z_45 (Ht rfl) (Ht rfl) rfl (dY (dU (d := Qi.zero) (by omega)))) (dq 41 6 rfl (dJ A_45 Z_45 (Ht rfl)) (dp 3 rfl (eZ fa_30_0 (Ht rfl) rfl) (dq 43 8 rfl (eY A_27 Z_27 (Ht rfl) (i := 0) rfl rfl) (dp 9 rfl (op_idxA U_120 Z_3 (Ht rfl) cV rfl (by decide) rfl) (dq 45 10 rfl (dJ A_3 Z_3 (Ht rfl)) (dq 46 11 rfl (op_sub (Ht rfl) cV (r := ((((jat js k).2 - 1).toNat : Nat) : Int)) ((w64 (z := (jat js k).2 - 1) (by omega)).trans (by omega))) ?_))))))
   refine dqq 44 9 47 12 rfl (dZ U_27 Z_45 (Ht rfl) (Ht rfl) rfl (dY (dU (d := Qi.zero) (by omega)))) (dq 48 13 rfl (dJ A_45 Z_45 (Ht rfl)) (fV mixed rfl (by kernel_rfl) (aJ (aJ (aJ (aJ (aJ (aJ (aJ (aJ (aJ (aJ (aJ (aJ (aJ (aJ (aJ (aV (ro rfl (op_callV (Ts := fun x : FQ L => [NumT x.1.1, NumT x.1.2]) ⟨(gv z ((jat js k).1 - 1).toNat, gv z ((jat js k).2 - 1).toNat), g1, g2⟩ (Ht rfl) ⟨(Ht rfl), (Ht rfl), trivial⟩) (ro rfl (op_not (Ht rfl)) ?_))))))))))))))))))))
   refine eX (dQ (Ht rfl) (fun hg => ?_) (fun hg => ?_))
   ·have h4 : moE1 φ z js k = 40 := by rw [h3, if_neg (by simpa using hg)]
    have h5 : moE φ z js = 40 := (firstE_at h0 (by rw [h4]; decide) hkn).trans h4
    refine ts (ro rfl (cQ (cJ 40)) (eX (fW rfl (fX (eU rfl) ?_))))
    exact (int_of h5.symm)
   ·have h4 : moE1 φ z js k = 0 := by rw [h3, if_pos (by simpa using hg)]
    refine cU (T_blk (cY (ro rfl (dV (Ht rfl) (cJ 1) (by show _ < 9223372036854775808; first | omega | (simp only [lim]; omega))) (rm rfl (eX ?_)))))
    refine fU (k + 1, vI) ⟨hkn, fun j h => by
     by_cases e : j = k
     ·rw [e]; exact h4
     ·exact h0 j (by omega)⟩ (by dsimp only; omega) (aQ rfl (aQ rfl (aQ rfl (aQ rfl (aQ rfl (aQ rfl (aQ rfl aX))))))) (aU (box_of rfl) (aU (rowO_of (by rw [hrow])) aY))
 ·obtain rfl : k = js.length := by simp only [decide_eq_false_iff_not] at hd; omega
  have h2 : moE φ z js = 0 := firstE_none h0
  refine gV rfl (ts (ro rfl (cQ (cJ 0)) (eX (fW rfl (fX (eU rfl) ?_)))))
  exact (int_of h2.symm)
theorem c_partZ {z : List Qi} {s : List (List Qi)} {Q : List Nat} {m : Nat} (hs : Shp s z.length z.length) (hQ : ∀ x, x ∈ Q → x < z.length) (hm : Q.length = m) (hm2 : m ≤ 1000) (hl : z.length ≤ 1000) : FunO Tryz.prog 111 [NetT z s, IntsT (Q.map Nat.succ)] [] (Nat × Nat) (fun B => AggT [Is (.slice (some ⟨B.1, 0, none⟩) m m), Is (.slice (some ⟨B.2, 0, none⟩) m m)]) (fun B => [rowO 45 5 (.slice (some ⟨B.1, 0, none⟩) m m) ((subZ z Q).map NumT), matO B.2 27 45 5 (FRow NumT (subM s Q))]) (fun _ => True) := by
 have hll : (Q.map Nat.succ).length = m := by rw [List.length_map]; exact hm
 refine FunO.intro Tryz.func111 rfl Tryz.ntmps111 rfl (fun cx Z => (ts (rn rfl (fG (Ht rfl)) fun B2 => (rn rfl (new_box1 (Ht rfl)) fun B3 => (rn rfl (eW (Ts := [Is (.slice none 0 0), Is (.slice none 0 0)]) O_30 rfl (fun V => aW ⟨rfl, trivial⟩ (aW ⟨rfl, trivial⟩ (aG)))) fun B4 => (eX (cK (gJ (i := 1) (tt := 2) rfl rfl frz_ptr (gJ (i := 2) (tt := 3) rfl rfl frz_ptr1 (cY (ro rfl (dJ A_69 Z_69 (Ht rfl)) (ro rfl (dG U_69 (Ht rfl) (by rw [List.length_map, hll])) ?_))))))))))))
 refine rn rfl (new_makeS (T := NumT Qi.zero) (i := Tryz.t45) und_27 info_45 rfl rfl (Ht rfl) rfl num_zero_p (El.ag rfl) (by show 88 * _ ≤ _; omega) (by omega)) fun B10 => ra rfl (eX (cK (ts (ro rfl (dJ A_69 Z_69 (Ht rfl)) (ro rfl (dG U_69 (Ht rfl) (by rw [List.length_map, hll])) ?_)))))
 refine ro rfl (cX (cJ 0)) (eX (eG (T_keep [0, 3, 4] rfl (by decide) ?_)))
 refine T_loop (fun (i : Nat) => i ≤ m) (fun (i : Nat) => m - i) (fun (i : Nat) => [(2, PT (NetT z s)), (3, PT (IntsT (Q.map Nat.succ))), (4, PtrB B4 0), (5, Is (.slice (some ⟨B10, 0, none⟩) m m)), (11, IntsT (Q.map Nat.succ)), (12, NT .i64 m), (13, NT .i64 i)]) (fun (i : Nat) => [Z, box B4 30 [Is (.slice none 0 0), Is (.slice none 0 0)], rowO 45 5 (.slice (some ⟨B10, 0, none⟩) m m) ((mixT (fun i => gv z (qat Q i)) Qi.zero m i).map NumT)]) 0 (Nat.zero_le _)
  (aQ rfl (aQ rfl (aQ rfl (aQ rfl (aQ rfl (aQ rfl (aQ rfl aX))))))) (aU (fun _ _ _ h => h) (aU (fun _ _ _ h => h) (aU (rowO_of (by rw [← mix_zero]; exact tab_rep NumT m)) aY))) (fun i hi => ?_)
 refine ts (ro rfl (gX (Ht rfl) (Ht rfl)) (eX (cK (dQ (Ht rfl) (fun hd => ?_) (fun hd => ?_)))))
 ·simp only [decide_eq_true_eq] at hd
  have hki : qat Q i < z.length := qat_lt hQ (by omega)
  refine cU (cK (eG (ts (rm rfl (ro rfl (dZ U_69 Z_3 (Ht rfl) (Ht rfl) rfl (dY (suc_get (by omega)))) (ro rfl (dJ A_3 Z_3 (Ht rfl)) (ra rfl (ra rfl (eX (cY (rm rfl (rm rfl (ro rfl (op_fld1 fa_30_0 (Ht rfl) rfl) (ro rfl (dJ A_27 Z_27 (Ht rfl)) (rm rfl (ro rfl (OpTy.nat (dW (Ht rfl) (cJ 1) (by omega) (by show _ < 9223372036854775808; first | omega | (simp only [lim]; omega))) (show qat Q i + 1 - 1 = qat Q i by omega)) (ro rfl (dZ U_27 Z_45 (Ht rfl) (Ht rfl) rfl (dY (dU (d := Qi.zero) hki))) ?_)))))))))))))))))
  refine ro rfl (dJ A_45 Z_45 (Ht rfl)) (ro rfl (op_idxO U_27 Z_45 (Ht rfl) (Ht rfl) rfl (i := 2) rfl (by rw [List.length_map, mix_len]; omega) rfl) ?_)
  refine R_stO Z_45 (Ht rfl) (Ht rfl) (El.ag rfl) (i := 2) rfl rfl (by rw [List.length_map, mix_len]; omega) rfl ?_
  refine eX (T_blk (cY (ro rfl (dV (Ht rfl) (cJ 1) (by show _ < 9223372036854775808; first | omega | (simp only [lim]; omega))) (rm rfl (eX (fU (i + 1) hd (by omega) (aQ rfl (aQ rfl (aQ rfl (aQ rfl (aQ rfl (aQ rfl (aQ rfl aX))))))) (aU (fun _ _ _ h => h) (aU (fun _ _ _ h => h) (aU (rowO_of (by rw [set_mapF, ← mix_set (f := (fun i => gv z (qat Q i)))])) aY)))))))))
 ·simp only [decide_eq_false_iff_not] at hd
  obtain rfl : m = i := Nat.le_antisymm (by omega) hi
  rw [mix_fin]
  rw [show subZ z Q = tab m fun i => gv z (qat Q i) from by rw [subZ, hm], show subM s Q = tab m fun i => tab m fun j => gm s (qat Q i) (qat Q j) from by rw [subM, hm]]
  refine gV rfl (ts (rm rfl (ro rfl (dJ A_69 Z_69 (Ht rfl)) (ro rfl (dG U_69 (Ht rfl) (by rw [List.length_map, hll])) ?_))))
  refine ro rfl (op_clos (γ := Fin m × Fin m) (Ts := fun x => [NT .i64 x.1.1, NT .i64 x.2.1]) (U := fun x => NumT (gm s (qat Q x.1.1) (qat Q x.2.1))) Tryz.call210 (fun x => c_part1 hs hQ hm hm2 hl x.1.2 x.2.2) ⟨(Ht rfl), (Ht rfl), trivial⟩) (R_call0 K_119 (c_fillO (n := m) (f := fun i j => gm s (qat Q i) (qat Q j)) (by omega)) ⟨(Ht rfl), (Ht rfl), trivial⟩ rfl (fun B32 _ => (ro rfl (bld_30_0_1 (Ht rfl) (Ht rfl)) (gQ Z_30 (Ht rfl) (Ht rfl) rfl (i := 1) rfl (aK rfl) rfl rfl (eX ?_)))))
  exact T_retO (B10, B32) trivial [0, 2, 3] ⟨⟨_, rfl, fun _ _ _ h => h⟩, ⟨_, rfl, fun _ _ _ h => h⟩, ⟨_, rfl, fun _ _ _ h => h⟩, trivial⟩ (by decide) (rvs1 rfl (fK A_30 Z_30 rfl (i := 1) rfl rfl))
end
end Go.Proofs.YteimkhgiekndjaaGreat
