/- What functions of the program compute, proved by walks over their code, and the plain mathematics of it; a part of the proof in the last text. -/
import Derived.Test.YtbnpmobaglfcbaaGreatP05
set_option linter.unusedVariables false
set_option linter.unusedSimpArgs false
namespace Go.Proofs.YtbnpmobaglfcbaaGreat
section
open Go Go.RowKit
def gq (ps : List (Nat × Nat)) (x : Nat) : Nat := if x % 2 = 0 then pA ps (x / 2) else pB ps (x / 2)
def prt (x : Nat) : Nat := if x % 2 = 0 then x + 1 else x - 1
theorem prt_lt {x k : Nat} (h : x < 2 * k) : prt x < 2 * k := by unfold prt; split <;> omega
theorem gq_even (ps : List (Nat × Nat)) (k : Nat) : gq ps (2 * k) = pA ps k := by unfold gq; rw [if_pos (by omega), show 2 * k / 2 = k by omega]
theorem gq_odd (ps : List (Nat × Nat)) (k : Nat) : gq ps (2 * k + 1) = pB ps k := by unfold gq; rw [if_neg (by omega), show (2 * k + 1) / 2 = k by omega]
structure Jn (ps : List (Nat × Nat)) (n K : Nat) : Prop where
  lt : ∀ x, x < 2 * K → gq ps x < n
  inj : ∀ x y, x < 2 * K → y < 2 * K → gq ps x = gq ps y → x = y
theorem Jn.le {ps : List (Nat × Nat)} {n K k : Nat} (h : Jn ps n K) (hk : k ≤ K) : Jn ps n k := ⟨fun x hx => h.lt x (by omega), fun x y hx hy => h.inj x y (by omega) (by omega)⟩
theorem tv_set {l : List Int} {t j : Nat} {v : Int} (ht : t < l.length) : tv (l.set t v) j = if j = t then v else tv l j := by
  simp only [tv, List.getD]
  by_cases e : j = t
  · subst e; rw [if_pos rfl, List.getElem?_set_self ht]; rfl
  · rw [if_neg e, List.getElem?_set_ne (Ne.symm e)]
theorem jn_tv {ps : List (Nat × Nat)} {n : Nat} : ∀ {k : Nat}, Jn ps n k → (∀ x, x < 2 * k → tv (toL n ps k) (gq ps x) = (gq ps (prt x) : Int)) ∧ ∀ j, j < n → (∀ x, x < 2 * k → gq ps x ≠ j) → tv (toL n ps k) j = -1
  | 0, _ => ⟨fun x h => by omega, fun j hj _ => by rw [toL, tv, List.getD, tab_get hj]; rfl⟩
  | k + 1, h => by
    obtain ⟨i1, i2⟩ := jn_tv (h.le (Nat.le_succ k))
    have hl := toL_len n ps k
    have ha := h.lt (2 * k) (by omega)
    have hb := h.lt (2 * k + 1) (by omega)
    rw [gq_even] at ha
    rw [gq_odd] at hb
    have key : ∀ j, tv (toL n ps (k + 1)) j = if j = pB ps k then (pA ps k : Int) else if j = pA ps k then (pB ps k : Int) else tv (toL n ps k) j := fun j => by
      rw [toL, tv_set (by rw [List.length_set]; omega), tv_set (by omega)]
    refine ⟨fun x hx => ?_, fun j hj hx => ?_⟩
    · rw [key]
      by_cases e1 : x = 2 * k + 1
      · subst e1
        rw [if_pos (gq_odd ps k), show prt (2 * k + 1) = 2 * k by unfold prt; split <;> omega, gq_even]
      · have n1 : ¬ gq ps x = pB ps k := fun e => e1 (h.inj x (2 * k + 1) hx (by omega) (by rw [e, gq_odd]))
        rw [if_neg n1]
        by_cases e2 : x = 2 * k
        · subst e2
          rw [if_pos (gq_even ps k), show prt (2 * k) = 2 * k + 1 by unfold prt; split <;> omega, gq_odd]
        · have n2 : ¬ gq ps x = pA ps k := fun e => e2 (h.inj x (2 * k) hx (by omega) (by rw [e, gq_even]))
          rw [if_neg n2]; exact i1 x (by omega)
    · rw [key, if_neg (fun e => hx (2 * k + 1) (by omega) (by rw [gq_odd]; exact e.symm)), if_neg (fun e => hx (2 * k) (by omega) (by rw [gq_even]; exact e.symm))]
      exact i2 j hj fun x hx2 => hx x (by omega)
theorem jn_to {ps : List (Nat × Nat)} {n K : Nat} (h : Jn ps n K) {j : Nat} (hj : j < n) : tv (toL n ps K) j < n := by
  obtain ⟨i1, i2⟩ := jn_tv h
  by_cases e : ∃ x, x < 2 * K ∧ gq ps x = j
  · obtain ⟨x, hx, rfl⟩ := e
    rw [i1 x hx]; have := h.lt (prt x) (prt_lt hx); omega
  · rw [i2 j hj fun x hx hxj => e ⟨x, hx, hxj⟩]; omega
theorem jn_sum {ps : List (Nat × Nat)} {n K : Nat} (h : Jn ps n K) (S : List (List Qi)) (x : Nat → Qi) (i : Nat) : sumN n (cnT S (toL n ps K) x i) = sumN (2 * K) fun y => gm S i (gq ps y) * x (gq ps (prt y)) := by
  obtain ⟨i1, i2⟩ := jn_tv h
  have e1 : sumN n (cnT S (toL n ps K) x i) = sumN n fun j => sumN (2 * K) fun y => if gq ps y = j then gm S i (gq ps y) * x (gq ps (prt y)) else 0 := sumN_congr fun j hj => by
    by_cases e : ∃ y, y < 2 * K ∧ gq ps y = j
    · obtain ⟨y, hy, rfl⟩ := e
      rw [sumN_single hy (fun k hk hky => if_neg fun e => hky (h.inj k y hk hy e)), if_pos rfl, cnT, i1 y hy, if_neg (by omega), Int.toNat_natCast]
    · rw [sumN_all0 (fun y hy => if_neg fun e2 => e ⟨y, hy, e2⟩), cnT, i2 j hj fun y hy e2 => e ⟨y, hy, e2⟩, if_pos (by omega)]
  rw [e1, sumN_swap]
  exact sumN_congr fun y hy => by rw [sumN_single (h.lt y hy) (fun j _ hj => if_neg (Ne.symm hj)), if_pos rfl]
def jnM (S : List (List Qi)) (ps : List (Nat × Nat)) (m : Nat) : List (List Qi) := tab m fun x => tab m fun y => (if x = y then Qi.ofInt 1 else Qi.ofInt 0) - gm S (gq ps (prt x)) (gq ps y)
def jnB (S : List (List Qi)) (ps : List (Nat × Nat)) (m b : Nat) : List Qi := tab m fun x => gm S (gq ps (prt x)) b
theorem jnM_shp (S : List (List Qi)) (ps : List (Nat × Nat)) (m : Nat) : Shp (jnM S ps m) m m := Shp.tab
theorem jnM_row {S : List (List Qi)} {ps : List (Nat × Nat)} {m x : Nat} (hx : x < m) (v : Nat → Qi) : sumN m (fun y => gm (jnM S ps m) x y * v y) = v x - sumN m fun y => gm S (gq ps (prt x)) (gq ps y) * v y := by
  have e : ∀ y, y < m → gm (jnM S ps m) x y * v y = (if y = x then v x else 0) - 1 * (gm S (gq ps (prt x)) (gq ps y) * v y) := fun y hy => by
    have : gm (jnM S ps m) x y = (if x = y then Qi.ofInt 1 else Qi.ofInt 0) - gm S (gq ps (prt x)) (gq ps y) := by
      show gv ((jnM S ps m).getD x []) y = _
      rw [jnM, tab_getD hx, gv_tab hy]
    rw [this]
    by_cases c : y = x
    · subst c; rw [if_pos rfl, if_pos rfl, q1]; grind
    · rw [if_neg c, if_neg (Ne.symm c), show Qi.ofInt 0 = (0 : Qi) from rfl]; grind
  rw [sumN_congr e, sumN_sub, sumN_single hx (fun k _ hk => if_neg hk), if_pos rfl]; grind
theorem jnB_at {S : List (List Qi)} {ps : List (Nat × Nat)} {m b x : Nat} (hx : x < m) : gv (jnB S ps m b) x = gm S (gq ps (prt x)) b := gv_tab hx
def jnX (S : List (List Qi)) (ps : List (Nat × Nat)) (m a b : Nat) : Qi := gm S a b + sumN m fun y => gm S a (gq ps y) * gv (slvX (jnM S ps m) (jnB S ps m b) m) y
theorem jn_ker {ps : List (Nat × Nat)} {n K : Nat} (h : Jn ps n K) {S : List (List Qi)} {v : Nat → Qi} (hv : ∀ x, x < 2 * K → sumN (2 * K) (fun y => gm (jnM S ps (2 * K)) x y * v y) = 0) :
    Cyc S (toL n ps K) n (fun i => sumN (2 * K) fun y => gm S i (gq ps y) * v y) := fun i hi => by
  have e : ∀ x, x < 2 * K → sumN (2 * K) (fun y => gm S (gq ps (prt x)) (gq ps y) * v y) = v x := fun x hx => by
    have := hv x hx
    rw [jnM_row hx] at this
    grind
  rw [jn_sum h, sumN_congr (g := fun y => gm S i (gq ps y) * v y) (fun y hy => by rw [e y hy])]; grind
theorem jn_bad {ps : List (Nat × Nat)} {n K : Nat} (h : Jn ps n K) {S : List (List Qi)} {lf : List Nat} {b : List Qi} (hl : 1 ≤ lf.length) (hE : slvE (jnM S ps (2 * K)) b (2 * K) ≠ 0) : cnE S (toL n ps K) n lf = 6 := by
  obtain ⟨v, h1, k, h2, h3⟩ := slv_none (jnM_shp S ps (2 * K)) hE
  refine cn_bad (fun j hj => jn_to h hj) hl (jn_ker h h1) (h.lt (prt k) (prt_lt h2)) ?_
  have := h1 k h2
  rw [jnM_row h2] at this
  intro e
  exact h3 (by grind)
theorem jn_ok {ps : List (Nat × Nat)} {n K : Nat} (h : Jn ps n K) {S : List (List Qi)} {lf : List Nat} (hl : ∀ y, y < lf.length → lf.getD y 0 < n) (h1 : 1 ≤ lf.length) (hE : ∀ y, y < lf.length → slvE (jnM S ps (2 * K)) (jnB S ps (2 * K) (lf.getD y 0)) (2 * K) = 0) :
    cnE S (toL n ps K) n lf = 0 ∧ ∀ x y, x < lf.length → y < lf.length → cnV S (toL n ps K) n lf x y = jnX S ps (2 * K) (lf.getD x 0) (lf.getD y 0) := by
  have hs := jnM_shp S ps (2 * K)
  have e : ∀ y, y < lf.length → ∀ x, x < 2 * K → jnX S ps (2 * K) (gq ps (prt x)) (lf.getD y 0) = gv (slvX (jnM S ps (2 * K)) (jnB S ps (2 * K) (lf.getD y 0)) (2 * K)) x := fun y hy x hx => by
    have := (slv_some hs (hE y hy)).1 x hx
    rw [jnM_row hx, jnB_at hx] at this
    rw [jnX]; grind
  obtain ⟨c1, c2⟩ := cn_ok (S := S) (to := toL n ps K) (n := n) (lf := lf) (u := fun y i => jnX S ps (2 * K) i (lf.getD y 0)) (fun j hj => jn_to h hj)
    (fun y hy i hi => by
      rw [jn_sum h, sumN_congr (g := fun k => gm S i (gq ps k) * gv (slvX (jnM S ps (2 * K)) (jnB S ps (2 * K) (lf.getD y 0)) (2 * K)) k) (fun k hk => by rw [e y hy k hk])]
      show jnX S ps (2 * K) i (lf.getD y 0) - _ = _
      rw [jnX]; grind)
    (fun x hx k hk => by
      have hv := (slv_some hs (hE 0 h1)).2 (fun y => x (gq ps (prt y))) (fun z hz => by
        rw [jnM_row hz]
        have := hx (gq ps (prt z)) (h.lt _ (prt_lt hz))
        rw [jn_sum h] at this
        exact this)
      have := hx k hk
      rw [jn_sum h, sumN_all0 (fun y hy => by rw [hv y hy]; grind)] at this
      grind)
  exact ⟨c1, fun x y hx hy => c2 x y hy (hl x hx)⟩
theorem jn_left {ps : List (Nat × Nat)} {n K : Nat} (h : Jn ps n K) {G : List Nat} (hG : ∀ j, j ∈ G ↔ ∃ x, x < 2 * K ∧ gq ps x = j) : ∀ k, k ≤ n → lfL (toL n ps K) k = lfG G k
  | 0, _ => rfl
  | k + 1, hk => by
    obtain ⟨i1, i2⟩ := jn_tv h
    rw [lfL, lfG, jn_left h hG k (by omega)]
    congr 1
    by_cases e : k ∈ G
    · obtain ⟨x, hx, rfl⟩ := (hG k).1 e
      rw [i1 x hx, if_neg (by omega), if_pos e]
    · rw [i2 k (by omega) fun x hx hxk => e ((hG k).2 ⟨x, hx, hxk⟩), if_pos (by omega), if_neg e]
end
section
open Go Go.RowKit
def jfl (js : List (Int × Int)) : List Int := js.flatMap fun q => [q.1, q.2]
def jps (js : List (Int × Int)) : List (Nat × Nat) := js.map fun q => ((q.1 - 1).toNat, (q.2 - 1).toNat)
abbrev jat (js : List (Int × Int)) (k : Nat) : Int × Int := js.getD k (0, 0)
theorem jfl_app (a b : List (Int × Int)) : jfl (a ++ b) = jfl a ++ jfl b := by simp [jfl]
theorem jfl_take {js : List (Int × Int)} {k : Nat} (h : k < js.length) : jfl (js.take (k + 1)) = jfl (js.take k) ++ [(jat js k).1, (jat js k).2] := by
  rw [List.take_succ_eq_append_getElem h, jfl_app]
  simp [jfl, jat, List.getD, h]
theorem jfl_len : ∀ (js : List (Int × Int)), (jfl js).length = 2 * js.length
  | [] => rfl
  | q :: r => by
    have := jfl_len r
    have e : jfl (q :: r) = q.1 :: q.2 :: jfl r := rfl
    rw [e, List.length_cons, List.length_cons, List.length_cons, this]; omega
theorem jfl_get : ∀ (js : List (Int × Int)) {x : Nat}, x < 2 * js.length → (jfl js).getD x 0 = if x % 2 = 0 then (jat js (x / 2)).1 else (jat js (x / 2)).2
  | [], x, h => by simp at h
  | q :: r, 0, _ => rfl
  | q :: r, 1, _ => rfl
  | q :: r, x + 2, h => by
    have ih := jfl_get r (x := x) (by simp only [List.length_cons] at h; omega)
    have e : jfl (q :: r) = q.1 :: q.2 :: jfl r := rfl
    rw [e]
    show (jfl r).getD x 0 = _
    rw [ih, show (x + 2) % 2 = x % 2 by omega, show (x + 2) / 2 = x / 2 + 1 by omega]
    rfl
theorem jps_at {js : List (Int × Int)} {k : Nat} (h : k < js.length) : pA (jps js) k = ((jat js k).1 - 1).toNat ∧ pB (jps js) k = ((jat js k).2 - 1).toNat := by
  simp [pA, pB, jps, jat, List.getD, h]
theorem jgq {js : List (Int × Int)} {x : Nat} (h : x < 2 * js.length) : gq (jps js) x = ((jfl js).getD x 0 - 1).toNat := by
  have h2 : x / 2 < js.length := by omega
  rw [jfl_get js h, gq, (jps_at h2).1, (jps_at h2).2]
  split <;> rfl
theorem prtE_app {n : Nat} {A : List Int} (h : prtE n A = 0) (a : Int) : prtE n (A ++ [a]) = freshE n a A := by
  rw [prtE, List.length_append, List.length_singleton]
  have e : firstE (fun i => freshE n ((A ++ [a]).getD i 0) ((A ++ [a]).take i)) A.length = 0 := firstE_none fun i hi => by
    have := firstE_zero h i hi
    rw [List.take_append_of_le_length (by omega)]
    have e2 : (A ++ [a]).getD i 0 = A.getD i 0 := by simp [List.getD, List.getElem?_append_left hi]
    rw [e2]; exact this
  rw [firstE, e, if_neg (by simp), List.take_append_of_le_length (Nat.le_refl _), List.take_length]
  congr 1
  simp [List.getD]
theorem prtE_app2 {n : Nat} {A : List Int} (h : prtE n A = 0) (a b : Int) : prtE n (A ++ [a, b]) = if freshE n a A ≠ 0 then freshE n a A else freshE n b (A ++ [a]) := by
  have e : A ++ [a, b] = (A ++ [a]) ++ [b] := by simp
  by_cases c : freshE n a A = 0
  · rw [if_neg (fun k => k c), e, prtE_app (by rw [prtE_app h]; exact c)]
  · rw [if_pos c]
    have h1 : firstE (fun i => freshE n ((A ++ [a, b]).getD i 0) ((A ++ [a, b]).take i)) A.length = 0 := firstE_none fun i hi => by
      have := firstE_zero h i hi
      rw [List.take_append_of_le_length (by omega)]
      have e2 : (A ++ [a, b]).getD i 0 = A.getD i 0 := by simp [List.getD, List.getElem?_append_left hi]
      rw [e2]; exact this
    have h2 : freshE n ((A ++ [a, b]).getD A.length 0) ((A ++ [a, b]).take A.length) = freshE n a A := by
      rw [List.take_append_of_le_length (Nat.le_refl _), List.take_length]
      congr 1
      simp [List.getD]
    rw [prtE, firstE_at (k := A.length) (fun i hi => firstE_zero h1 i hi) (by rw [h2]; exact c) (by simp)]
    exact h2
def jstE (z : List Qi) (js : List (Int × Int)) (k : Nat) : Int :=
  if freshE z.length (jat js k).1 (jfl (js.take k)) ≠ 0 then freshE z.length (jat js k).1 (jfl (js.take k))
  else if freshE z.length (jat js k).2 (jfl (js.take k) ++ [(jat js k).1]) ≠ 0 then freshE z.length (jat js k).2 (jfl (js.take k) ++ [(jat js k).1])
  else if gv z ((jat js k).1 - 1).toNat = gv z ((jat js k).2 - 1).toNat then 0 else 40
def jdE (z : List Qi) (js : List (Int × Int)) : Int := firstE (jstE z js) js.length
theorem jst_zero {z : List Qi} {js : List (Int × Int)} {k : Nat} (h : jstE z js k = 0) : freshE z.length (jat js k).1 (jfl (js.take k)) = 0 ∧ freshE z.length (jat js k).2 (jfl (js.take k) ++ [(jat js k).1]) = 0 ∧ gv z ((jat js k).1 - 1).toNat = gv z ((jat js k).2 - 1).toNat := by
  unfold jstE at h
  by_cases c1 : freshE z.length (jat js k).1 (jfl (js.take k)) = 0
  · rw [if_neg (fun k => k c1)] at h
    by_cases c2 : freshE z.length (jat js k).2 (jfl (js.take k) ++ [(jat js k).1]) = 0
    · rw [if_neg (fun k => k c2)] at h
      by_cases c3 : gv z ((jat js k).1 - 1).toNat = gv z ((jat js k).2 - 1).toNat
      · exact ⟨c1, c2, c3⟩
      · rw [if_neg c3] at h; omega
    · rw [if_pos c2] at h; exact absurd h c2
  · rw [if_pos c1] at h; exact absurd h c1
theorem jpr {z : List Qi} {js : List (Int × Int)} : ∀ {k : Nat}, k ≤ js.length → (∀ j, j < k → jstE z js j = 0) → prtE z.length (jfl (js.take k)) = 0
  | 0, _, _ => rfl
  | k + 1, hk, h => by
    have ih := jpr (z := z) (js := js) (k := k) (by omega) fun j hj => h j (by omega)
    obtain ⟨h1, h2, _⟩ := jst_zero (h k (by omega))
    rw [jfl_take (by omega), prtE_app2 ih, if_neg (fun k => k h1)]; exact h2
theorem jst_prt {z : List Qi} {js : List (Int × Int)} {k : Nat} (hk : k < js.length) (h : ∀ j, j < k → jstE z js j = 0) : jstE z js k = if prtE z.length (jfl (js.take (k + 1))) ≠ 0 then prtE z.length (jfl (js.take (k + 1))) else if gv z ((jat js k).1 - 1).toNat = gv z ((jat js k).2 - 1).toNat then 0 else 40 := by
  have hp := jpr (z := z) (Nat.le_of_lt hk) h
  rw [jfl_take hk, prtE_app2 hp, jstE]
  by_cases c1 : freshE z.length (jat js k).1 (jfl (js.take k)) = 0
  · simp only [c1, ne_eq, not_true_eq_false, if_false, ite_false]
  · simp only [c1, ne_eq, not_false_eq_true, if_true, ite_true]
theorem jd_prt {z : List Qi} {js : List (Int × Int)} (h : jdE z js = 0) : prtE z.length (jfl js) = 0 := by
  have := jpr (z := z) (Nat.le_refl js.length) (firstE_zero h)
  rwa [List.take_length] at this
theorem fresh_not {n : Nat} {p : Int} {o : List Int} (h : freshE n p o = 0) : p ∉ o := fun hm => by
  have h1 := fresh_ok h
  unfold freshE at h
  rw [if_neg (fun k => k h1), if_pos (List.any_eq_true.2 ⟨p, hm, by simp⟩)] at h
  omega
theorem prt_inj {n : Nat} {l : List Int} (h : prtE n l = 0) {x y : Nat} (hx : x < l.length) (hy : y < l.length) (e : l.getD x 0 = l.getD y 0) : x = y := by
  have key : ∀ x y, x < y → y < l.length → l.getD x 0 ≠ l.getD y 0 := fun x y hxy hy e => by
    refine fresh_not (firstE_zero h y hy) ?_
    rw [← e]
    have e2 : l.getD x 0 = l[x]'(by omega) := by simp [List.getD, show x < l.length by omega]
    rw [e2]
    exact List.mem_take_iff_getElem.2 ⟨x, by omega, rfl⟩
  rcases Nat.lt_trichotomy x y with c | c | c
  · exact absurd e (key x y c hy)
  · exact c
  · exact absurd e.symm (key y x c hx)
theorem jn_of {z : List Qi} {js : List (Int × Int)} (h : jdE z js = 0) : Jn (jps js) z.length js.length := by
  have hp := jd_prt h
  have hl := jfl_len js
  have hr : ∀ x, x < 2 * js.length → 1 ≤ (jfl js).getD x 0 ∧ (jfl js).getD x 0 ≤ z.length := fun x hx => prt_in hp _ (by
    rw [show (jfl js).getD x 0 = (jfl js)[x]'(by omega) by simp [List.getD, show x < (jfl js).length by omega]]; exact List.getElem_mem _)
  refine ⟨fun x hx => ?_, fun x y hx hy e => ?_⟩
  · rw [jgq hx]; have := hr x hx; omega
  · rw [jgq hx, jgq hy] at e
    have h1 := hr x hx; have h2 := hr y hy
    exact prt_inj hp (by omega) (by omega) (by omega)
def jnL (js : List (Int × Int)) : List Nat := (jfl js).map fun p => (p - 1).toNat
def jnF (z : List Qi) (js : List (Int × Int)) : List Nat := lfG (jnL js) z.length
def jslE (z : List Qi) (S : List (List Qi)) (js : List (Int × Int)) : Int := firstE (fun y => slvE (jnM S (jps js) (2 * js.length)) (jnB S (jps js) (2 * js.length) ((jnF z js).getD y 0)) (2 * js.length)) (jnF z js).length
def jnE (z : List Qi) (S : List (List Qi)) (js : List (Int × Int)) : Int :=
  if jdE z js ≠ 0 then jdE z js else if js.length = 0 then 0 else if 2 * js.length = z.length then 4 else if jslE z S js = 0 then 0 else 6
def jnZ0 (z : List Qi) (js : List (Int × Int)) : List Qi := subZ z (jnF z js)
def jnS0 (z : List Qi) (S : List (List Qi)) (js : List (Int × Int)) : List (List Qi) := tab (jnF z js).length fun x => tab (jnF z js).length fun y => jnX S (jps js) (2 * js.length) (qat (jnF z js) x) (qat (jnF z js) y)
def jnZ (z : List Qi) (S : List (List Qi)) (js : List (Int × Int)) : List Qi := okL (jnE z S js) (if js.length = 0 then z else jnZ0 z js)
def jnS (z : List Qi) (S : List (List Qi)) (js : List (Int × Int)) : List (List Qi) := okL (jnE z S js) (if js.length = 0 then S else jnS0 z S js)
theorem jnL_len (js : List (Int × Int)) : (jnL js).length = 2 * js.length := by rw [jnL, List.length_map, jfl_len]
theorem jnL_mem {js : List (Int × Int)} {j : Nat} : j ∈ jnL js ↔ ∃ x, x < 2 * js.length ∧ gq (jps js) x = j := by
  constructor
  · intro h
    obtain ⟨p, hp, rfl⟩ := List.mem_map.1 h
    obtain ⟨x, hx, e⟩ := List.getElem_of_mem hp
    have hl := jfl_len js
    refine ⟨x, by omega, ?_⟩
    rw [jgq (by omega), show (jfl js).getD x 0 = p by rw [← e]; simp [List.getD, hx]]
  · rintro ⟨x, hx, rfl⟩
    have hl := jfl_len js
    rw [jgq hx]
    refine List.mem_map.2 ⟨(jfl js).getD x 0, ?_, rfl⟩
    rw [show (jfl js).getD x 0 = (jfl js)[x]'(by omega) by simp [List.getD, show x < (jfl js).length by omega]]; exact List.getElem_mem _
theorem jnF_lfL {z : List Qi} {js : List (Int × Int)} (h : jdE z js = 0) : lfL (toL z.length (jps js) js.length) z.length = jnF z js := jn_left (jn_of h) (fun j => jnL_mem) z.length (Nat.le_refl _)
theorem jnF_lt {z : List Qi} {js : List (Int × Int)} {y : Nat} (hy : y < (jnF z js).length) : (jnF z js).getD y 0 < z.length := lfG_lt (by
  rw [show (jnF z js).getD y 0 = (jnF z js)[y] by simp [List.getD, hy]]; exact List.getElem_mem hy)
end
section
open Go Go.RowKit
theorem slvX_len (M : List (List Qi)) (b : List Qi) (n : Nat) : (slvX M b n).length = n := bkS_len _ _ _
theorem slv_fit {M : List (List Qi)} {b : List Qi} {n L : Nat} (h : Shp M n n) (hM : FitM M L) (hb : FitL b L) (hL : 1 ≤ L) (hE : slvE M b n = 0) : FitL (slvX M b n) (xgr (grow L n) n) := slvX_fit h hM hb hL (by
  unfold slvE at hE
  by_cases e : 0 ≤ (slvU M b n).2.2
  · rw [if_pos e] at hE; omega
  · omega)
theorem xgr_monoL {G H : Nat} (h : G ≤ H) : ∀ j, xgr G j ≤ xgr H j
  | 0 => h
  | j + 1 => by
    have := xgr_monoL h j
    have h2 : j * (xgr G j + G + 2) ≤ j * (xgr H j + H + 2) := Nat.mul_le_mul_left _ (by omega)
    simp only [xgr]; omega
end
section
open Go Go.RowKit
def pl2 (q : Int × Int) : List Int := [q.1, q.2]
abbrev JT (q : Int × Int) : Ty := AggT [IntT .i64 q.1, IntT .i64 q.2]
abbrev JsT (js : List (Int × Int)) : Ty := SlT 2 (js.map JT)
theorem pl2_get {q : Int × Int} : ∀ {i : Nat}, i < 2 → ([IntT .i64 q.1, IntT .i64 q.2] : List Ty)[i]? = some (IntT .i64 ((pl2 q).getD i 0))
  | 0, _ => rfl
  | 1, _ => rfl
theorem pl2_take {q : Int × Int} : ∀ {i : Nat}, i < 2 → (pl2 q).take (i + 1) = (pl2 q).take i ++ [(pl2 q).getD i 0]
  | 0, _ => rfl
  | 1, _ => rfl
abbrev jpE (z : List Qi) (js : List (Int × Int)) (k i : Nat) : Int := freshE z.length ((pl2 (jat js k)).getD i 0) (jfl (js.take k) ++ (pl2 (jat js k)).take i)
theorem jst_a {z : List Qi} {js : List (Int × Int)} {k : Nat} : ∀ {i : Nat}, i < 2 → (∀ x, x < i → jpE z js k x = 0) → jpE z js k i ≠ 0 → jstE z js k = jpE z js k i
  | 0, _, _, h => by
    have e : jpE z js k 0 = freshE z.length (jat js k).1 (jfl (js.take k)) := by simp [jpE, pl2]
    rw [e] at h ⊢
    rw [jstE, if_pos h]
  | 1, _, h0, h => by
    have e0 : jpE z js k 0 = freshE z.length (jat js k).1 (jfl (js.take k)) := by simp [jpE, pl2]
    have e : jpE z js k 1 = freshE z.length (jat js k).2 (jfl (js.take k) ++ [(jat js k).1]) := by simp [jpE, pl2]
    have h1 := h0 0 (by omega)
    rw [e0] at h1
    rw [e] at h ⊢
    rw [jstE, if_neg (fun k => k h1), if_pos h]
theorem jst_b {z : List Qi} {js : List (Int × Int)} {k : Nat} (h : ∀ x, x < 2 → jpE z js k x = 0) : (1 ≤ (jat js k).1 ∧ (jat js k).1 ≤ z.length) ∧ (1 ≤ (jat js k).2 ∧ (jat js k).2 ≤ z.length) ∧
    jstE z js k = if gv z ((jat js k).1 - 1).toNat = gv z ((jat js k).2 - 1).toNat then 0 else 40 := by
  have e0 : jpE z js k 0 = freshE z.length (jat js k).1 (jfl (js.take k)) := by simp [jpE, pl2]
  have e : jpE z js k 1 = freshE z.length (jat js k).2 (jfl (js.take k) ++ [(jat js k).1]) := by simp [jpE, pl2]
  have h0 := h 0 (by omega)
  have h1 := h 1 (by omega)
  rw [e0] at h0
  rw [e] at h1
  exact ⟨fresh_ok h0, fresh_ok h1, by rw [jstE, if_neg (fun k => k h0), if_neg (fun k => k h1)]⟩
def jeE (z : List Qi) (js : List (Int × Int)) : Int := if jdE z js ≠ 0 then jdE z js else if 0 < 2 * js.length ∧ 2 * js.length = z.length then 4 else 0
def jeL (z : List Qi) (js : List (Int × Int)) : List Int := okL (jeE z js) (jfl js)
theorem je_bad {z : List Qi} {js : List (Int × Int)} (h : jdE z js ≠ 0) : jeE z js = jdE z js := if_pos h
theorem je_size {z : List Qi} {js : List (Int × Int)} (h : jdE z js = 0) (h2 : 0 < 2 * js.length ∧ 2 * js.length = z.length) : jeE z js = 4 := by rw [jeE, if_neg (fun k => k h), if_pos h2]
theorem je_ok {z : List Qi} {js : List (Int × Int)} (h : jdE z js = 0) (h2 : ¬ (0 < 2 * js.length ∧ 2 * js.length = z.length)) : jeE z js = 0 := by rw [jeE, if_neg (fun k => k h), if_neg h2]
theorem je_zero {z : List Qi} {js : List (Int × Int)} (h : jeE z js = 0) : jdE z js = 0 ∧ ¬ (0 < 2 * js.length ∧ 2 * js.length = z.length) := by
  unfold jeE at h
  by_cases c : jdE z js = 0
  · refine ⟨c, fun h2 => ?_⟩
    rw [if_neg (fun k => k c), if_pos h2] at h
    omega
  · rw [if_pos c] at h; exact absurd h c
theorem jn_je {z : List Qi} {S : List (List Qi)} {js : List (Int × Int)} (h : jeE z js ≠ 0) : jnE z S js = jeE z js := by
  unfold jnE jeE at *
  by_cases c : jdE z js ≠ 0
  · rw [if_pos c, if_pos c]
  · rw [if_neg c] at h
    rw [if_neg c, if_neg c]
    by_cases d : 0 < 2 * js.length ∧ 2 * js.length = z.length
    · rw [if_neg (by omega), if_pos d.2, if_pos d]
    · rw [if_neg d] at h; exact absurd rfl h
theorem jn_zero {z : List Qi} {S : List (List Qi)} {js : List (Int × Int)} (h : jeE z js = 0) (h2 : js.length = 0) : jnE z S js = 0 := by
  obtain ⟨h1, _⟩ := je_zero h
  rw [jnE, if_neg (fun k => k h1), if_pos h2]
theorem jn_sol {z : List Qi} {S : List (List Qi)} {js : List (Int × Int)} (h : jeE z js = 0) (h2 : js.length ≠ 0) : jnE z S js = if jslE z S js = 0 then 0 else 6 := by
  obtain ⟨h1, h3⟩ := je_zero h
  rw [jnE, if_neg (fun k => k h1), if_neg h2, if_neg (by omega)]
theorem pig : ∀ {n m : Nat} {f : Nat → Nat}, (∀ x, x < m → f x < n) → (∀ x y, x < m → y < m → f x = f y → x = y) → m ≤ n
  | 0, m, f, h, _ => by
    cases m with
    | zero => exact Nat.le_refl 0
    | succ m => exact absurd (h 0 (by omega)) (by omega)
  | n + 1, 0, _, _, _ => by omega
  | n + 1, k + 1, f, h, i => by
    have := pig (n := n) (m := k) (f := fun x => if f x = n then f k else f x) (fun x hx => by
      have h1 := h x (by omega)
      have h2 := h k (by omega)
      by_cases c : f x = n
      · simp only [if_pos c]
        have : f k ≠ n := fun e => by have := i x k (by omega) (by omega) (by rw [c, e]); omega
        omega
      · simp only [if_neg c]; omega) (fun x y hx hy e => by
      by_cases c : f x = n <;> by_cases d : f y = n
      · exact i x y (by omega) (by omega) (by rw [c, d])
      · simp only [if_pos c, if_neg d] at e
        have := i k y (by omega) (by omega) e; omega
      · simp only [if_neg c, if_pos d] at e
        have := i x k (by omega) (by omega) e; omega
      · simp only [if_neg c, if_neg d] at e
        exact i x y (by omega) (by omega) e)
    omega
theorem jn_le {z : List Qi} {js : List (Int × Int)} (h : jdE z js = 0) : 2 * js.length ≤ z.length := by
  have hj := jn_of h
  exact pig (f := gq (jps js)) hj.lt hj.inj
theorem jfl_ints {z : List Qi} {js : List (Int × Int)} (h : jdE z js = 0) : (jfl js).map (IntT .i64) = ((jnL js).map Nat.succ).map (NT .i64) := pos_ints (jd_prt h)
theorem jnL_at {js : List (Int × Int)} {x : Nat} (h : x < 2 * js.length) : (jnL js).getD x 0 = gq (jps js) x := by
  have hl := jfl_len js
  rw [jgq h, jnL]
  simp [List.getD, show x < (jfl js).length by omega]
theorem gnI_ints (G : List Nat) : (gnI G).map (IntT .i64) = (G.map Nat.succ).map (NT .i64) := by
  simp only [gnI, List.map_map]
  refine List.map_congr_left fun x _ => ?_
  simp [Function.comp, NT]
theorem jps_len (js : List (Int × Int)) : (jps js).length = js.length := by simp [jps]
theorem jps_take {js : List (Int × Int)} {k : Nat} (h : k < js.length) : (jps js).take (k + 1) = (jps js).take k ++ [(((jat js k).1 - 1).toNat, ((jat js k).2 - 1).toNat)] := by
  rw [List.take_succ_eq_append_getElem (by rw [jps_len]; exact h)]
  simp [jps, List.getD, h]
theorem jr_in {js : List (Int × Int)} {n k : Nat} (h : prtE n (jfl (js.take (k + 1))) = 0) (hk : k < js.length) : (1 ≤ (jat js k).1 ∧ (jat js k).1 ≤ n) ∧ (1 ≤ (jat js k).2 ∧ (jat js k).2 ≤ n) := by
  rw [jfl_take hk] at h
  exact ⟨prt_in h _ (by simp), prt_in h _ (by simp)⟩
theorem lfG_mem {G : List Nat} {j : Nat} (h : j ∉ G) : ∀ {k : Nat}, j < k → j ∈ lfG G k
  | k + 1, hk => by
    rw [lfG, List.mem_append]
    by_cases e : j = k
    · subst e; exact .inr (by rw [if_neg h]; simp)
    · exact .inl (lfG_mem h (by omega))
theorem jF_pos {z : List Qi} {js : List (Int × Int)} (h : jdE z js = 0) (h2 : 2 * js.length ≠ z.length) : 1 ≤ (jnF z js).length := by
  by_cases c : (jnF z js).length = 0
  · have hn : jnF z js = [] := List.eq_nil_of_length_eq_zero c
    have hm : ∀ j, j < z.length → ∃ x, x < 2 * js.length ∧ gq (jps js) x = j := fun j hj => by
      by_cases d : j ∈ jnL js
      · exact jnL_mem.1 d
      · have := lfG_mem d hj
        rw [show lfG (jnL js) z.length = [] from hn] at this
        cases this
    have := jn_le h
    have h3 : z.length ≤ 2 * js.length := pig (f := fun j => if hj : j < z.length then Classical.choose (hm j hj) else 0) (fun j hj => by
      simp only [dif_pos hj]; exact (Classical.choose_spec (hm j hj)).1) (fun x y hx hy e => by
      simp only [dif_pos hx, dif_pos hy] at e
      rw [← (Classical.choose_spec (hm x hx)).2, ← (Classical.choose_spec (hm y hy)).2, e])
    omega
  · omega
theorem firstE_some {f : Nat → Int} {n : Nat} (h : firstE f n ≠ 0) : ∃ y, y < n ∧ f y ≠ 0 := by
  by_cases c : ∃ y, y < n ∧ f y ≠ 0
  · exact c
  · exact absurd (firstE_none fun y hy => by
      by_cases d : f y = 0
      · exact d
      · exact absurd ⟨y, hy, d⟩ c) h
theorem jn_ref {z : List Qi} {S : List (List Qi)} {js : List (Int × Int)} (h : jdE z js = 0) (h0 : js.length ≠ 0) (h2 : 2 * js.length ≠ z.length) :
    (cnE S (toL z.length (jps js) (jps js).length) z.length (lfL (toL z.length (jps js) (jps js).length) z.length) = jnE z S js) ∧
    (okL (jnE z S js) ((lfL (toL z.length (jps js) (jps js).length) z.length).map fun l => gv z l) = jnZ z S js) ∧
    (okL (jnE z S js) (tab (lfL (toL z.length (jps js) (jps js).length) z.length).length fun x => tab (lfL (toL z.length (jps js) (jps js).length) z.length).length fun y => cnV S (toL z.length (jps js) (jps js).length) z.length (lfL (toL z.length (jps js) (jps js).length) z.length) x y) = jnS z S js) := by
  rw [jps_len, jnF_lfL h]
  have hp := jF_pos h h2
  have hj := jn_of h
  have hs : jnE z S js = if jslE z S js = 0 then 0 else 6 := jn_sol (je_ok h (by omega)) h0
  by_cases e : jslE z S js = 0
  · rw [if_pos e] at hs
    obtain ⟨c1, c2⟩ := jn_ok (S := S) hj (fun y hy => jnF_lt hy) hp (fun y hy => firstE_zero e y hy)
    refine ⟨c1.trans hs.symm, ?_, ?_⟩
    · rw [jnZ, hs, if_neg h0, jnZ0, subZ]
      exact congrArg _ (tab_list (jnF z js) (gv z)).symm
    · rw [jnS, hs, if_neg h0, jnS0]
      exact congrArg _ (tab_congr fun x hx => tab_congr fun y hy => c2 x y hx hy)
  · rw [if_neg e] at hs
    obtain ⟨y, hy, h3⟩ := firstE_some e
    refine ⟨(jn_bad hj hp h3).trans hs.symm, ?_, ?_⟩
    · rw [jnZ, hs]; rfl
    · rw [jnS, hs]; rfl
theorem dot_sum (x : Qi) (l m : List Qi) : ∀ k, dotF x l m k = x + sumN k fun y => gv l y * gv m y
  | 0 => by rw [dotF, sumN, show Qi.zero = (0 : Qi) from rfl]; grind
  | k + 1 => by rw [dotF, dot_sum x l m k, sumN]; grind
theorem dot_jn {S : List (List Qi)} {ps : List (Nat × Nat)} {m a b : Nat} : dotF (gm S a b) (tab m fun x => gm S a (gq ps x)) (slvX (jnM S ps m) (jnB S ps m b) m) m = jnX S ps m a b := by
  rw [dot_sum, jnX]
  congr 1
  exact sumN_congr fun y hy => by rw [gv_tab hy]
theorem jnM_fit {S : List (List Qi)} {ps : List (Nat × Nat)} {m L : Nat} (hf : FitM S L) (hL : 1 ≤ L) : FitM (jnM S ps m) (L + 2) := FitM.tab fun x y _ _ => by
  haveI h1 := hf.get hL (gq ps (prt x)) (gq ps y)
  haveI h2 : FitC (if x = y then Qi.ofInt 1 else Qi.ofInt 0) 1 := by
    split
    · exact fit_one
    · exact (FitC.zero (Nat.le_refl 1) : FitC Qi.zero 1)
  exact (fitSub : FitC (_ - _) (1 + L + 1)).le (by omega)
theorem jnB_fit {S : List (List Qi)} {ps : List (Nat × Nat)} {m b L : Nat} (hf : FitM S L) (hL : 1 ≤ L) : FitL (jnB S ps m b) L := FitL.tab fun x _ => hf.get hL _ _
theorem jnX_fit {S : List (List Qi)} {ps : List (Nat × Nat)} {m a b L G : Nat} (hf : FitM S L) (hL : 1 ≤ L) (hG : xgr (grow (L + 2) m) m ≤ G) (hE : slvE (jnM S ps m) (jnB S ps m b) m = 0) : FitC (jnX S ps m a b) (L + m * (2 * G + 2)) := by
  have h1 : L + 2 ≤ G := Nat.le_trans (Nat.le_trans (grow_le (L + 2) m) (xgr_ge _ _)) hG
  rw [← dot_jn]
  exact dotF_fit (hf.get hL a b) (FitL.tab fun x _ => (hf.get hL a (gq ps x)).le (by omega)) ((slv_fit (jnM_shp S ps m) (jnM_fit hf hL) ((jnB_fit hf hL).le (by omega)) (by omega) hE).le hG) (by omega) m
theorem jnS_fit {z : List Qi} {S : List (List Qi)} {js : List (Int × Int)} {L G : Nat} (hf : FitM S L) (hL : 1 ≤ L) (hG : jeE z js = 0 → xgr (grow (L + 2) (2 * js.length)) (2 * js.length) ≤ G) (hB : ∀ m, m = 2 * js.length → jeE z js = 0 → L + m * (2 * G + 2) ≤ 900000000000) : FitM (jnS z S js) 900000000000 := by
  by_cases h : jnE z S js = 0
  · have hj : jeE z js = 0 := by
      by_cases c : jeE z js = 0
      · exact c
      · rw [jn_je c] at h; exact absurd h c
    by_cases h0 : js.length = 0
    · rw [jnS, okL, if_pos h, if_pos h0]
      exact hf.le (Nat.le_trans (Nat.le_add_right _ _) (hB _ rfl hj))
    · have hs := jn_sol (S := S) hj h0
      rw [h] at hs
      have he : jslE z S js = 0 := by
        by_cases c : jslE z S js = 0
        · exact c
        · rw [if_neg c] at hs; omega
      rw [jnS, okL, if_pos h, if_neg h0, jnS0]
      refine FitM.tab fun i j _ hj2 => (jnX_fit hf hL (hG hj) (firstE_zero he j hj2)).le (hB _ rfl hj)
  · rw [jnS, okL, if_neg h]
    exact fun r hr => by cases hr
theorem jnZ_fit {z : List Qi} {S : List (List Qi)} {js : List (Int × Int)} {L M : Nat} (h : FitL z L) (hL : 1 ≤ L) (hM : L ≤ M) : FitL (jnZ z S js) M := by
  refine okL_fit ?_
  split
  · exact h.le hM
  · exact (subZ_fit h hL).le hM
theorem jn_shp {z : List Qi} {S : List (List Qi)} {js : List (Int × Int)} (hS : Shp S z.length z.length) : Shp (jnS z S js) (jnZ z S js).length (jnZ z S js).length ∧ (jnZ z S js).length ≤ z.length := by
  by_cases h : jnE z S js = 0
  · by_cases h0 : js.length = 0
    · rw [jnS, jnZ, okL, okL, if_pos h, if_pos h, if_pos h0, if_pos h0]; exact ⟨hS, Nat.le_refl _⟩
    · rw [jnS, jnZ, okL, okL, if_pos h, if_pos h, if_neg h0, if_neg h0, jnZ0, subZ_len]; exact ⟨Shp.tab, lfG_len _ _⟩
  · rw [jnS, jnZ, okL, okL, if_neg h, if_neg h]; exact ⟨⟨rfl, fun r hr => by cases hr⟩, Nat.zero_le _⟩
end
section
open Go Go.RowKit
section
variable {P : Program} {n : Nat} {E : Env} {H : Hp}
variable {d : Option Tmp} {t : TypeId} {pos : String} {af : Array Edge} {g : Option (Nat × Bool)}
theorem op_lendI {f : FuncId} {xs : List Operand} {tys : Array TypeId} {Ts : List Ty} {U T0 T1 : Ty} {A : SA} {j tt : Nat} (hc : ∀ args w, (callFunc f args).run P w = .ok (.enter f args) w) (hF : Fun P f Ts U)
    (hA : H[j]? = some A) (hl : look E tt = some T0) (hz : ∀ v S V, T0.p v V → A.h S V V → T1.p v V) (hU : ∀ v V V', U.p v V → U.p v V') (ha : Args ((tt, T1) :: E) xs Ts) :
    OpTy P n E H ⟨d, .call ⟨.value (.func f), xs.toArray, tys⟩, t, pos, af, g⟩ U := fun cx X a w V hi hs K Q hK => by
  have hrun : (execOp a.eval ⟨d, .call ⟨.value (.func f), xs.toArray, tys⟩, t, pos, af, g⟩).run P w = .ok (.enter f (xs.map a.eval).toArray) w := by
    simp [execOp, resolve, Act.eval, Deferred.ofValue, invoke, hc]
  simp only [Oper.wp, hrun, Oper.upon_enter]
  obtain ⟨F, h1, h2⟩ := hi.hp
  have hjl := (List.getElem?_eq_some_iff.1 hA).1
  obtain ⟨k1, k2⟩ := h1 j A (by rw [List.getElem?_append_left hjl]; exact hA)
  let V1 : View := fun b => if b ∈ F j then w.heap[b]? else V b
  have hle : VLe V V1 := fun b o hb => by
    have : b ∉ F j := fun hf => by have := (k2 b hf).1; rw [hb] at this; cases this
    simp only [V1, if_neg this]; exact hb
  have hon : ∀ b o, V1 b = some o → w.heap[b]? = some o := fun b o hb => by
    by_cases hf : b ∈ F j
    · simp only [V1, if_pos hf] at hb; exact hb
    · simp only [V1, if_neg hf] at hb; exact hi.on b o hb
  have hA1 : A.h (F j) V1 V1 := A.mono (A.loc k1 fun b hb => by simp only [V1, if_pos hb]; rfl) hle
  have hsl : Slots n ((tt, T1) :: E) V1 a := by
    have hs' := hs.mono hle
    refine ⟨hs'.1, hs'.2.1, fun t' T hT => ?_⟩
    rw [look_cons] at hT
    by_cases e : tt = t'
    · subst e
      rw [if_pos rfl] at hT; obtain rfl := Option.some.inj hT
      obtain ⟨v, q1, q2⟩ := hs'.2.2 _ _ hl
      exact ⟨v, q1, hz v (F j) V1 q2 hA1⟩
    · rw [if_neg e] at hT; exact hs'.2.2 t' T hT
  refine (hF _ V1 w hon (Args.all hsl ha)).mono ?_
  rintro e w' ⟨v, V', rfl, m1, m2, m3, m4, m5⟩
  exact hK v w' V (hi.after (VLe.refl V) (fun b o hb => m2 b o (m1 b o (hle b o hb))) (fun b o hb h0 => by rw [hb] at h0; cases h0) m4) (VLe.refl V) (hU v V' V m5)
theorem op_indexA {x i : Operand} {q : Nat} {Ts : List Ty} {T : Ty} {kd : IntKind} {e : TypeId} {len : Nat} (hU : ∀ w, (underlying t).run P w = .ok (.array len e) w) (hS : ∀ w, (sizeOf e).run P w = .ok 1 w) (hg : ∀ w, (isAgg e).run P w = .ok false w)
    (hx : Has E x (AggT Ts)) (hi : Has E i (NT kd q)) (hl : q < len) (hT : Ts[q]? = some T) {t' : TypeId} : OpTy P n E H ⟨d, .index t x i, t', pos, af, g⟩ T :=
  op_pure fun a V w hs => by
    obtain ⟨vs, e1, e4⟩ := hx n V a hs
    have ei : a.eval i = .int kd (q : Int) := hi n V a hs
    obtain ⟨u, e5, e6⟩ := e4.all.get hT
    exact ⟨u, by simp [execOp, e1, ei, Instr.index, asIntOf, Sem.run_bind, hU, hS, hg, part, Result.andThen, hl, e5], e6⟩
end
end
section
open Go Go.RowKit
theorem bld_169_0_1 {n : Nat} {E : Env} {H : Hp} {d : Option Tmp} {t : TypeId} {pos : String} {af : Array Edge} {g : Option (Nat × Bool)} {x0 x1 : Operand} {T0 T1 : Ty} [s0 : Shape T0 1 false] (h0 : Has E x0 T0) [s1 : Shape T1 1 false] (h1 : Has E x1 T1) :
    OpTy Tryz.prog n E H ⟨d, .build 169 #[(0, x0), (1, x1)], t, pos, af, g⟩ (AggT [T0, T1]) :=
  op_build (parts := [(0, x0), (1, x1)]) fun a V w hs => by
    have p0 := h0 n V a hs
    generalize e0 : a.eval x0 = v0 at p0
    have q0 := (s0.ok v0 V p0).2.2 rfl
    have p1 := h1 n V a hs
    generalize e1 : a.eval x1 = v1 at p1
    have q1 := (s1.ok v1 V p1).2.2 rfl
    refine ⟨.agg #[v0, v1], ?_, [v0, v1], rfl, aW (⟨p0, q0⟩) (aW (⟨p1, q1⟩) (aG))⟩
    simp [e0, e1, Instr.build, Instr.fill, Sem.run_bind, Result.andThen, cells_agg, q0.cells, q1.cells, O_169, U_169, Z_3]
end
section
open Go Go.RowKit
theorem info_169 : Tryz.prog.info? 169 = some Tryz.t169 := by kernel_rfl
theorem und_102 : Tryz.prog.underlying 102 = some (.slice 169) := by kernel_rfl
end
section
open Go Go.RowKit
set_option maxHeartbeats 2000000 in
set_option maxRecDepth 20000 in
theorem c_joined {z : List Qi} {S : List (List Qi)} {js : List (Int × Int)} {L : Nat} (hfz : FitL z L) (hL : 1 ≤ L) (hLb : L ≤ 1000000) (hz : z.length ≤ 1000) (hj : js.length ≤ 100) : Fun Tryz.prog 175 [NetT z S, JsT js] (TupT [SlT 1 ((jeL z js).map (IntT .i64)), IntT .i64 (jeE z js)]) := by
 refine Fun.intro Tryz.func175 rfl Tryz.ntmps175 rfl (fun cx => (ts (rn rfl (new_box (Ht rfl)) fun B2 => (ro rfl (bY cJ) (ro rfl (bY (cZ 0)) (R_nil (ts (ro rfl (bY cJ) (R_nil (cG (cG (T_row 3 1 (cU (rm rfl (ro rfl (dW U_102 (Ht rfl) len_map) (ro rfl (cQ (cZ 0)) (R_nil (T_block ?_))))))))))))))))))
 refine T_loop2 (fun (k : Nat) (vG : Value) => k ≤ js.length ∧ ∀ j, j < k → jstE z js j = 0) (fun (k : Nat) (vG : Value) => js.length - k) (fun (k : Nat) (vG : Value) => [(1, JsT js), (2, PtrB B2 0), (6, Is vG), (12, JsT js), (13, NT .i64 js.length), (14, NT .i64 k)]) (fun (k : Nat) (vG : Value) => [box B2 30 [NumsT z, NumM S], rowO 3 1 vG ((jfl (js.take k)).map (IntT .i64))]) 0 _ ⟨Nat.zero_le _, fun j h => by omega⟩
  (aQ rfl (aQ rfl (aQ rfl (aQ rfl (aQ rfl (aQ rfl aX)))))) (aK (box_of rfl) (aK (rowO_of rfl) aU)) (fun k vG ⟨hk, h0⟩ => ?_)
 refine ts (ro rfl (op_lssN (Ht rfl) (Ht rfl)) (R_nil (cG (cY (Ht rfl) (fun hd => ?_) (fun hd => ?_)))))
 ·have hkn : k < js.length := by simp only [decide_eq_true_eq] at hd; omega
  have hjk := jfl_len (js.take k)
  refine cK (cG (T_block (ts (ro rfl (dX U_102 Z_169 (Ht rfl) (Ht rfl) rfl (dU (dK (d := (0, 0)) hkn))) (ro rfl (dZ Tryz.isAgg169 Z_169 (Ht rfl)) (rn rfl (new_alloc (Ts := [Is (.int .i64 0), Is (.int .i64 0)]) O_169 rfl (fun V => aW ⟨rfl, trivial⟩ (aW ⟨rfl, trivial⟩ (aG)))) fun B8 => (R_stA Z_169 (Ht rfl) (Ht rfl) rfl (i := 2) rfl (Nat.le_of_ble_eq_true rfl) rfl rfl (R_nil (cG (cG (T_freeze (i := 2) (tt := 8) rfl rfl frz_ptr (cU (ro rfl (dZ Tryz.isAgg169 Z_169 (Ht rfl)) ?_)))))))))))))
  refine ro rfl (cQ (cZ 0)) (R_nil (T_block (T_keep [0, 1] rfl (by decide) ?_)))
  refine T_loop2 (fun (i : Nat) (vI : Value) => i ≤ 2 ∧ ∀ x, x < i → jpE z js k x = 0) (fun (i : Nat) (vI : Value) => 2 - i) (fun (i : Nat) (vI : Value) => [(1, JsT js), (2, PtrB B2 0), (6, Is vI), (8, PT (JT (jat js k))), (12, JsT js), (13, NT .i64 js.length), (14, NT .i64 k), (18, JT (jat js k)), (19, NT .i64 i)]) (fun (i : Nat) (vI : Value) => [box B2 30 [NumsT z, NumM S], rowO 3 1 vI ((jfl (js.take k) ++ (pl2 (jat js k)).take i).map (IntT .i64))]) 0 _ ⟨Nat.zero_le _, fun x h => by omega⟩
   (aQ rfl (aQ rfl (aQ rfl (aQ rfl (aQ rfl (aQ rfl (aQ rfl (aQ rfl (aQ rfl aX))))))))) (aK (box_of rfl) (aK (rowO_of (by rw [List.take_zero, List.append_nil])) aU)) (fun i vI ⟨hi, h1⟩ => ?_)
  refine ts (ro rfl (op_lssN (Ht rfl) (cZ 2)) (R_nil (cG (cY (Ht rfl) (fun he => ?_) (fun he => ?_)))))
  ·have hi2 : i < 2 := by simp only [decide_eq_true_eq] at he; omega
   have hol : (jfl (js.take k) ++ (pl2 (jat js k)).take i).length ≤ 300 := by rw [List.length_append, hjk, List.length_take, List.length_take]; omega
   refine cK (cG (T_block (ts (ro rfl (op_indexA U_169 Z_3 A_3 (Ht rfl) (Ht rfl) (by omega) (pl2_get hi2)) (ra rfl (R_nil (cG (ts (ro rfl (op_ldBA A_30 Z_30 (Ht rfl) (i := 0) rfl rfl rfl) (rm rfl (rm rfl (ro rfl (op_lendI Tryz.call146 (c_fresh (z := z) (s := S) (q := (pl2 (jat js k)).getD i 0) (o := jfl (js.take k) ++ (pl2 (jat js k)).take i) hz (by omega)) (j := 1) (tt := 24) rfl rfl frz_row (fun _ _ _ h => h) ⟨(Ht rfl), (Ht rfl), (Ht rfl), trivial⟩) (ra rfl (R_nil (ts (rm rfl (ro rfl (op_neq (Ht rfl) cJ) (R_nil (cY (Ht rfl) (fun hf => ?_) (fun hf => ?_))))))))))))))))))))
   ·have h3 : jpE z js k i ≠ 0 := by simp only [Bool.not_eq_true', decide_eq_false_iff_not] at hf; exact hf
    have h4 := jst_a hi2 h1 h3
    have h5 : jdE z js = jpE z js k i := (firstE_at h0 (by rw [h4]; exact h3) hkn).trans h4
    have h6 : jeE z js = jpE z js k i := (je_bad (by rw [h5]; exact h3)).trans h5
    refine ts (rm rfl (ro rfl (bY cJ) (ra rfl (R_nil (T_ret2 rfl (rv_to (rv_tmp rfl) ?_) (rv_to (rv_tmp rfl) ?_))))))
    ·exact (fun v V h => by rw [jeL, okL, h6, if_neg h3]; exact nil_slT v V h)
    ·exact (int_of h6.symm)
   ·have h3 : jpE z js k i = 0 := by simp only [Bool.not_eq_false', decide_eq_true_eq] at hf; exact hf
    refine cK (cU (rm rfl (rm rfl (ro rfl (op_bslice (xs := [.tmp 30]) U_91 Z_3 O_3 (cV (Ht rfl) cW) rfl rfl rfl) (R_append (inf := Tryz.t3) und_91 info_3 rfl rfl rfl (Ht rfl) (Ht rfl) (i := 1) rfl (by simp) (fun T hT => by simp at hT; subst hT; exact El.one) (by show _ * 8 ≤ _; simp only [List.length_map, List.length_cons, List.length_nil]; omega) (by simp only [List.length_map, List.length_cons, List.length_nil]; omega) rfl (fun v2 => ?_))))))
    refine ra rfl (R_nil (T_blk (cU (ro rfl (dJ (Ht rfl) (cZ 1) (by show _ < 9223372036854775808; first | omega | (simp only [lim]; omega))) (rm rfl (R_nil ?_))))))
    refine T_again (i + 1, v2) ⟨hi2, fun x hx => by
      by_cases e : x = i
      ·rw [e]; exact h3
      ·exact h1 x (by omega)⟩ (by dsimp only; omega) (aQ rfl (aQ rfl (aQ rfl (aQ rfl (aQ rfl (aQ rfl (aQ rfl (aQ rfl (aQ rfl aX))))))))) (aK (box_of rfl) (aK (rowO_of (by rw [pl2_take hi2, ← List.append_assoc, List.map_append (l₁ := jfl (js.take k) ++ (pl2 (jat js k)).take i)]; rfl)) aU))
  ·obtain rfl : i = 2 := by simp only [decide_eq_false_iff_not] at he; omega
   obtain ⟨⟨p1, p2⟩, ⟨p3, p4⟩, h3⟩ := jst_b h1
   have hrow : jfl (js.take (k + 1)) = jfl (js.take k) ++ (pl2 (jat js k)).take 2 := jfl_take hkn
   haveI g1 := hfz.get hL ((jat js k).1 - 1).toNat
   haveI g2 := hfz.get hL ((jat js k).2 - 1).toNat
   refine T_exit rfl (cG (C.D_start (m := 14) (dp 2 rfl (op_fldB fa_30_0 (Ht rfl) rfl) (dq 34 0 rfl (op_ldB A_27 Z_27 (Ht rfl) (i := 0) rfl rfl) (dp 8 rfl (op_idxA U_169 Z_3 (Ht rfl) cJ rfl (by decide) rfl) (dq 36 2 rfl (dZ A_3 Z_3 (Ht rfl)) (dq 37 3 rfl (op_sub (Ht rfl) cJ (r := ((((jat js k).1 - 1).toNat : Nat) : Int)) ((w64 (z := (jat js k).1 - 1) (by omega)).trans (by omega))) ?_)))))))
   refine dqq 35 1 38 4 rfl (dX U_27 Z_49 (Ht rfl) (Ht rfl) rfl (dU (dK (d := Qi.zero) (by omega)))) (dq 39 5 rfl (dZ A_49 Z_49 (Ht rfl)) (dp 2 rfl (op_fldB fa_30_0 (Ht rfl) rfl) (dq 41 7 rfl (op_ldB A_27 Z_27 (Ht rfl) (i := 0) rfl rfl) (dp 8 rfl (op_idxA U_169 Z_3 (Ht rfl) cJ rfl (by decide) rfl) (dq 43 9 rfl (dZ A_3 Z_3 (Ht rfl)) (dq 44 10 rfl (op_sub (Ht rfl) cJ (r := ((((jat js k).2 - 1).toNat : Nat) : Int)) ((w64 (z := (jat js k).2 - 1) (by omega)).trans (by omega))) ?_))))))
   refine dqq 42 8 45 11 rfl (dX U_27 Z_49 (Ht rfl) (Ht rfl) rfl (dU (dK (d := Qi.zero) (by omega)))) (dq 46 12 rfl (dZ A_49 Z_49 (Ht rfl)) (C.D_done mixed rfl (by kernel_rfl) (aJ (aJ (aJ (aJ (aJ (aJ (aJ (aJ (aJ (aJ (aJ (aJ (aJ (aJ (aV (ro rfl (cX Tryz.call92 (c_Same (x := gv z ((jat js k).1 - 1).toNat) (y := gv z ((jat js k).2 - 1).toNat) (L := L) (M := L) (by omega) (by omega)) ⟨(Ht rfl), (Ht rfl), trivial⟩) (ro rfl (op_not (Ht rfl)) (R_nil ?_))))))))))))))))))))
   refine cY (Ht rfl) (fun hg => ?_) (fun hg => ?_)
   ·have h4 : jstE z js k = 40 := by rw [h3, if_neg (by simpa using hg)]
    have h5 : jdE z js = 40 := (firstE_at h0 (by rw [h4]; decide) hkn).trans h4
    have h6 : jeE z js = 40 := (je_bad (by rw [h5]; decide)).trans h5
    refine ts (ro rfl (bY cJ) (ro rfl (bY (cZ 40)) (R_nil (T_ret2 rfl (rv_to (rv_tmp rfl) ?_) (rv_to (rv_tmp rfl) ?_)))))
    ·exact (fun v V h => by rw [jeL, okL, h6]; exact nil_slT v V h)
    ·exact (int_of h6.symm)
   ·have h4 : jstE z js k = 0 := by rw [h3, if_pos (by simpa using hg)]
    refine cK (T_blk (cU (ro rfl (dJ (Ht rfl) (cZ 1) (by show _ < 9223372036854775808; first | omega | (simp only [lim]; omega))) (rm rfl (R_nil ?_)))))
    refine T_again (k + 1, vI) ⟨hkn, fun j h => by
      by_cases e : j = k
      ·rw [e]; exact h4
      ·exact h0 j (by omega)⟩ (by dsimp only; omega) (aQ rfl (aQ rfl (aQ rfl (aQ rfl (aQ rfl (aQ rfl aX)))))) (aK (box_of rfl) (aK (rowO_of (by rw [hrow])) aU))
 ·obtain rfl : k = js.length := by simp only [decide_eq_false_iff_not] at hd; omega
  have h2 : jdE z js = 0 := firstE_none h0
  have hll := jfl_len js
  rw [List.take_length]
  refine T_exit rfl (cG (ts (rm rfl (ro rfl (op_lenO U_91 (Ht rfl) (i := 1) rfl len_map) (ro rfl (op_gtrN (Ht rfl) (cZ 0)) (rm rfl (R_step rfl rfl (S_when rfl rfl (Ht rfl) (fun h => cQ (Ht rfl))) (R_step rfl rfl (S_when rfl rfl (Ht rfl) (fun h => op_lenO U_91 (Has.w rfl h) (i := 1) rfl len_map)) (R_step rfl rfl (S_when rfl rfl (Ht rfl) (fun h => op_fldB fa_30_0 (Ht rfl) rfl)) (R_step rfl rfl (S_when rfl rfl (Ht rfl) (fun h => op_ldB A_27 Z_27 (Has.w rfl h) (i := 0) rfl rfl)) (R_step rfl rfl (S_when rfl rfl (Ht rfl) (fun h => dW U_27 (Has.w rfl h) len_map)) ?_)))))))))))
  refine R_step rfl rfl (S_when rfl rfl (Ht rfl) (fun h => op_eqlN (Has.w rfl h) (Has.w rfl h))) (ro rfl (op_and (Ht rfl) (fun h => (Has.w rfl h))) (R_nil (cY (Ht rfl) (fun hc => ?_) (fun hc => ?_))))
  ·have h3 : 0 < 2 * js.length ∧ 2 * js.length = z.length := by simpa [hll] using hc
   have h6 : jeE z js = 4 := je_size h2 h3
   refine ts (ro rfl (bY cJ) (ro rfl (bY (cZ 4)) (R_nil (T_ret2 rfl (rv_to (rv_tmp rfl) ?_) (rv_to (rv_tmp rfl) ?_)))))
   ·exact (fun v V h => by rw [jeL, okL, h6]; exact nil_slT v V h)
   ·exact (int_of h6.symm)
  ·have h3 : ¬ (0 < 2 * js.length ∧ 2 * js.length = z.length) := by simpa [hll] using hc
   have h6 : jeE z js = 0 := je_ok h2 h3
   refine T_freeze (i := 1) (tt := 6) rfl rfl frz_row (cK (ts (rm rfl (ra rfl (ro rfl (bY (cZ 0)) (R_nil (T_ret2 rfl (rv_to (rv_tmp rfl) ?_) (rv_to (rv_tmp rfl) ?_))))))))
   ·exact (slT_of (by rw [jeL, okL, h6]; rfl))
   ·exact (int_of h6.symm)
set_option maxHeartbeats 2000000 in
set_option maxRecDepth 20000 in
theorem c_rjoined {z : List Qi} {S : List (List Qi)} {js : List (Int × Int)} {L : Nat} (hfz : FitL z L) (hL : 1 ≤ L) (hLb : L ≤ 1000000) (hz : z.length ≤ 1000) (hj : js.length ≤ 100) : Fun Tryz.prog 180 [RNetT z S, JsT js] (TupT [PrsT (okL (jdE z js) (jps js)), IntT .i64 (jdE z js)]) := by
 have hpl := jps_len js
 refine Fun.intro Tryz.func180 rfl Tryz.ntmps180 rfl (fun cx => (ts (rn rfl (new_box (Ht rfl)) fun B2 => (ro rfl (bY cJ) (ro rfl (bY (cZ 0)) (R_nil (ts (rn rfl (new_bslice0 U_91 Z_3 O_3) fun B12 => (ra rfl (R_nil (ts (rn rfl (new_bslice0 U_102 Z_169 O_169) fun B13 => (ra rfl (R_nil (cG (ts (ro rfl (bY (cZ 0)) (R_nil (T_block ?_)))))))))))))))))))
 refine T_loop3 (fun (k : Nat) (vG : Value) (vP : Value) => k ≤ js.length ∧ ∀ j, j < k → jstE z js j = 0) (fun (k : Nat) (vG : Value) (vP : Value) => js.length - k) (fun (k : Nat) (vG : Value) (vP : Value) => [(1, JsT js), (2, PtrB B2 0), (6, Is vG), (7, Is vP), (8, NT .i64 k)]) (fun (k : Nat) (vG : Value) (vP : Value) => [box B2 34 [QsT z, QM S], rowO 3 1 vG ((jfl (js.take k)).map (IntT .i64)), rowO 169 2 vP (((jps js).take k).map PrT)]) 0 _ _ ⟨Nat.zero_le _, fun j h => by omega⟩
  (aQ rfl (aQ rfl (aQ rfl (aQ rfl (aQ rfl aX))))) (aK (box_of rfl) (aK (rowO_of rfl) (aK (rowO_of rfl) aU))) (fun k vG vP ⟨hk, h0⟩ => ?_)
 refine cG (ts (rm rfl (rm rfl (ro rfl (dW U_102 (Ht rfl) len_map) (ro rfl (op_lssN (Ht rfl) (Ht rfl)) (R_nil (cY (Ht rfl) (fun hd => ?_) (fun hd => ?_))))))))
 ·have hkn : k < js.length := by simp only [decide_eq_true_eq] at hd; omega
  have hjk := jfl_len (js.take k)
  have hjt : (js.take k).length ≤ 100 := by rw [List.length_take]; omega
  have hkt : ((jps js).take k).length ≤ 100 := by rw [List.length_take]; omega
  have hjk2 : (jfl (js.take (k + 1))).length ≤ 1000 := by rw [jfl_len, List.length_take]; omega
  have hrow : jfl (js.take (k + 1)) = jfl (js.take k) ++ [(jat js k).1, (jat js k).2] := jfl_take hkn
  refine cK (cG (T_block (cG (C.D_start (m := 12) (dp 6 rfl (cQ (Ht rfl)) (dp 1 rfl (cQ (Ht rfl)) (dp 8 rfl (cQ (Ht rfl)) (dqq 21 1 22 2 rfl (dX U_102 Z_169 (Ht rfl) (Ht rfl) rfl (dU (dK (d := (0, 0)) hkn))) (dq 23 3 rfl (op_idxA U_169 Z_3 (Ht rfl) cJ rfl (by decide) rfl) (dq 24 4 rfl (dZ A_3 Z_3 (Ht rfl)) (dp 1 rfl (cQ (Ht rfl)) (dp 8 rfl (cQ (Ht rfl)) (dqq 26 6 27 7 rfl (dX U_102 Z_169 (Ht rfl) (Ht rfl) rfl (dU (dK (d := (0, 0)) hkn))) ?_)))))))))))))
  refine dq 28 8 rfl (op_idxA U_169 Z_3 (Ht rfl) cJ rfl (by decide) rfl) (dq 29 9 rfl (dZ A_3 Z_3 (Ht rfl)) (dqq 25 5 30 10 rfl (op_bslice (xs := [.tmp 25, .tmp 30]) U_91 Z_3 O_3 (cV (Ht rfl) (cV (Ht rfl) cW)) rfl rfl rfl) (C.D_done mixed rfl (by kernel_rfl) (aJ (aJ (aJ (aJ (aJ (aJ (aJ (aJ (aJ (aJ (aJ (aJ (aV (R_append (inf := Tryz.t3) und_91 info_3 rfl rfl rfl (Ht rfl) (Ht rfl) (i := 1) rfl (by simp) (fun T hT => by simp at hT; rcases hT with rfl | rfl <;> exact El.one) (by show _ * 8 ≤ _; simp only [List.length_map, List.length_cons, List.length_nil]; omega) (by simp only [List.length_map, List.length_cons, List.length_nil]; omega) rfl (fun v2 => ?_))))))))))))))))))
  refine ra rfl (R_nil (cG (cG (T_conv 1 rfl (rowO_of (e := 3) (s := 1) (by rw [hrow, List.map_append]; rfl : _ = (jfl (js.take (k + 1))).map (IntT .i64))) ?_))))
  refine cU (ro rfl (op_fldB fa_34_0 (Ht rfl) rfl) (ro rfl (op_ldB A_31 Z_31 (Ht rfl) (i := 0) rfl rfl) (ro rfl (dW U_31 (Ht rfl) len_map) (rm rfl (ro rfl (op_lendI Tryz.call148 (c_rPorts (n := z.length) (l := jfl (js.take (k + 1))) hjk2) (j := 1) (tt := 36) rfl rfl frz_row (fun _ _ _ h => h) ⟨(Ht rfl), (Ht rfl), trivial⟩) (ra rfl (R_nil (ts (rm rfl (ro rfl (op_neq (Ht rfl) cJ) (R_nil (cY (Ht rfl) (fun hf => ?_) (fun hf => ?_)))))))))))))
  ·have h3 : prtE z.length (jfl (js.take (k + 1))) ≠ 0 := by simpa using hf
   have h4 : jstE z js k = prtE z.length (jfl (js.take (k + 1))) := by rw [jst_prt hkn h0, if_pos h3]
   have h5 : jdE z js = prtE z.length (jfl (js.take (k + 1))) := (firstE_at h0 (by rw [h4]; exact h3) hkn).trans h4
   refine ts (rm rfl (ro rfl (bY cJ) (ra rfl (R_nil (T_ret2 rfl (rv_to (rv_tmp rfl) ?_) (rv_to (rv_tmp rfl) ?_))))))
   ·exact (fun v V h => by rw [okL, h5, if_neg h3]; exact nil_slT v V h)
   ·exact (int_of h5.symm)
  ·have h3 : prtE z.length (jfl (js.take (k + 1))) = 0 := by simpa using hf
   have h4 : jstE z js k = if gv z ((jat js k).1 - 1).toNat = gv z ((jat js k).2 - 1).toNat then 0 else 40 := by rw [jst_prt hkn h0, if_neg (fun k => k h3)]
   obtain ⟨⟨p1, p2⟩, p3, p4⟩ := jr_in h3 hkn
   haveI g1 := hfz.get hL ((jat js k).1 - 1).toNat
   haveI g2 := hfz.get hL ((jat js k).2 - 1).toNat
   refine cK (cG (C.D_start (m := 13) (dp 1 rfl (cQ (Ht rfl)) (dp 8 rfl (cQ (Ht rfl)) (dqq 41 0 42 1 rfl (dX U_102 Z_169 (Ht rfl) (Ht rfl) rfl (dU (dK (d := (0, 0)) hkn))) (dq 43 2 rfl (op_idxA U_169 Z_3 (Ht rfl) cJ rfl (by decide) rfl) (dq 44 3 rfl (dZ A_3 Z_3 (Ht rfl)) (dq 45 4 rfl (op_sub (Ht rfl) cJ (r := ((((jat js k).1 - 1).toNat : Nat) : Int)) ((w64 (z := (jat js k).1 - 1) (by omega)).trans (by omega))) ?_))))))))
   refine dp 1 rfl (cQ (Ht rfl)) (dp 8 rfl (cQ (Ht rfl)) (dqq 47 6 48 7 rfl (dX U_102 Z_169 (Ht rfl) (Ht rfl) rfl (dU (dK (d := (0, 0)) hkn))) (dq 49 8 rfl (op_idxA U_169 Z_3 (Ht rfl) cJ rfl (by decide) rfl) (dq 50 9 rfl (dZ A_3 Z_3 (Ht rfl)) (dq 51 10 rfl (op_sub (Ht rfl) cJ (r := ((((jat js k).2 - 1).toNat : Nat) : Int)) ((w64 (z := (jat js k).2 - 1) (by omega)).trans (by omega))) ?_)))))
   refine dq 46 5 rfl (bY (Ht rfl)) (C.D_done mixed rfl (by kernel_rfl) (aJ (aJ (aJ (aJ (aJ (aJ (aJ (aJ (aJ (aJ (aJ (aJ (aJ (aV (ra rfl (R_nil (cG (cG (C.D_start (m := 10) (dp 2 rfl (op_fldB fa_34_0 (Ht rfl) rfl) (dq 53 0 rfl (op_ldB A_31 Z_31 (Ht rfl) (i := 0) rfl rfl) (dp 10 rfl (cQ (Ht rfl)) (dqq 54 1 55 2 rfl (dX U_31 Z_81 (Ht rfl) (Ht rfl) rfl (dU (dK (d := Qi.zero) (by omega)))) (dq 56 3 rfl (dZ A_81 Z_81 (Ht rfl)) ?_)))))))))))))))))))))))))
   refine dp 2 rfl (op_fldB fa_34_0 (Ht rfl) rfl) (dq 58 5 rfl (op_ldB A_31 Z_31 (Ht rfl) (i := 0) rfl rfl) (dp 11 rfl (cQ (Ht rfl)) (dqq 59 6 60 7 rfl (dX U_31 Z_81 (Ht rfl) (Ht rfl) rfl (dU (dK (d := Qi.zero) (by omega)))) (dq 61 8 rfl (dZ A_81 Z_81 (Ht rfl)) (C.D_done mixed rfl (by kernel_rfl) (aJ (aJ (aJ (aJ (aJ (aJ (aJ (aJ (aJ (aJ (aV (ro rfl (cX Tryz.call94 (c_rSame (x := gv z ((jat js k).1 - 1).toNat) (y := gv z ((jat js k).2 - 1).toNat) (L := L) (M := L) (by omega) (by omega)) ⟨(Ht rfl), (Ht rfl), trivial⟩) ?_)))))))))))))))))
   refine ro rfl (op_not (Ht rfl)) (R_nil (cY (Ht rfl) (fun hg => ?_) (fun hg => ?_)))
   ·have h5 : jstE z js k = 40 := by rw [h4, if_neg (by simpa using hg)]
    have h6 : jdE z js = 40 := (firstE_at h0 (by rw [h5]; decide) hkn).trans h5
    refine ts (ro rfl (bY cJ) (ro rfl (bY (cZ 40)) (R_nil (T_ret2 rfl (rv_to (rv_tmp rfl) ?_) (rv_to (rv_tmp rfl) ?_)))))
    ·exact (fun v V h => by rw [okL, h6]; exact nil_slT v V h)
    ·exact (int_of h6.symm)
   ·have h5 : jstE z js k = 0 := by rw [h4, if_pos (by simpa using hg)]
    refine cK (cU (rm rfl (rm rfl (rm rfl (ro rfl (bld_169_0_1 (Ht rfl) (Ht rfl)) (ro rfl (op_bslice (xs := [.tmp 68]) U_102 Z_169 O_169 (cV (Ht rfl) cW) rfl rfl rfl) (R_append (inf := Tryz.t169) und_102 info_169 rfl rfl rfl (Ht rfl) (Ht rfl) (i := 2) rfl (by simp) (fun T hT => by simp at hT; subst hT; exact El.ag rfl) (by show _ * 16 ≤ _; simp only [List.length_map, List.length_cons, List.length_nil]; omega) (by simp only [List.length_map, List.length_cons, List.length_nil]; omega) rfl (fun v3 => ?_))))))))
    refine ra rfl (R_nil (T_blk (cU (rm rfl (ro rfl (dJ (Ht rfl) (cZ 1) (by show _ < 9223372036854775808; first | omega | (simp only [lim]; omega))) (ra rfl (R_nil ?_)))))))
    refine T_again (k + 1, v2, v3) ⟨hkn, fun j h => by
      by_cases e : j = k
      ·rw [e]; exact h5
      ·exact h0 j (by omega)⟩ (by dsimp only; omega) (aQ rfl (aQ rfl (aQ rfl (aQ rfl (aQ rfl aX))))) (aK (box_of rfl) (aK (fun _ _ _ h => h) (aK (rowO_of (by rw [jps_take hkn, List.map_append]; rfl)) aU)))
 ·obtain rfl : k = js.length := by simp only [decide_eq_false_iff_not] at hd; omega
  have h2 : jdE z js = 0 := firstE_none h0
  rw [show (jps js).take js.length = jps js by rw [← hpl, List.take_length]]
  refine T_freeze (i := 2) (tt := 7) rfl rfl frz_row (T_exit rfl (ts (rm rfl (ra rfl (ro rfl (bY (cZ 0)) (R_nil (T_ret2 rfl (rv_to (rv_tmp rfl) ?_) (rv_to (rv_tmp rfl) ?_))))))))
  ·exact (slT_of (by rw [okL, if_pos h2]))
  ·exact (int_of h2.symm)
set_option maxHeartbeats 1000000 in
set_option maxRecDepth 20000 in
theorem c_rJoin {z : List Qi} {S : List (List Qi)} {js : List (Int × Int)} {L : Nat} (hS : Shp S z.length z.length) (hf : FitM S L) (hfz : FitL z L) (hL : 1 ≤ L) (hLb : L ≤ 1000) (h1 : 1 ≤ z.length) (hz : z.length ≤ 9) (hj : js.length ≤ 100) : Fun Tryz.prog 79 [RNetT z S, JsT js] (TupT [RNetT (jnZ z S js) (jnS z S js), IntT .i64 (jnE z S js)]) := by
 refine Fun.intro Tryz.func79 rfl Tryz.ntmps79 rfl (fun cx => (ts (rn rfl (new_box (Ht rfl)) fun B2 => (rn rfl (new_alloc (Ts := [Is (.slice none 0 0), Is (.slice none 0 0)]) O_34 rfl (fun V => aW ⟨rfl, trivial⟩ (aW ⟨rfl, trivial⟩ (aG)))) fun B4 => (ro rfl (bY (cZ 0)) (R_nil (ts (ro rfl (op_ldBA A_34 Z_34 (Ht rfl) (i := 0) rfl rfl rfl) (rm rfl (ro rfl (cX Tryz.call180 (c_rjoined (z := z) (S := S) (js := js) (L := L) hfz hL (by omega) (by omega) hj) ⟨(Ht rfl), (Ht rfl), trivial⟩) (rm rfl (ro rfl (dG (Ht rfl) rfl) ?_))))))))))))
 refine ro rfl (dG (Ht rfl) rfl) (ra rfl (ra rfl (R_nil (cG (ts (rm rfl (ro rfl (op_neq (Ht rfl) cJ) (R_nil (cY (Ht rfl) (fun hc => ?_) (fun hc => ?_))))))))))
 ·have h3 : jdE z js ≠ 0 := by simpa using hc
  have he : jnE z S js = jdE z js := (jn_je (by rw [je_bad h3]; exact h3)).trans (je_bad h3)
  refine ts (ro rfl (OpTy.imp (bld_34_ ) rnet_nil) (rm rfl (R_stA Z_34 (Ht rfl) (Ht rfl) rfl (i := 1) rfl (Nat.le_of_ble_eq_true rfl) rfl rfl (ra rfl (R_nil (T_ret2 rfl (rv_to (rv_cell A_34 Z_34 rfl (i := 1) rfl rfl) ?_) (rv_to (rv_tmp rfl) ?_)))))))
  ·exact (fun v V h => by rw [jnZ, jnS, okL, okL, he, if_neg h3, if_neg h3]; exact h)
  ·exact (int_of he.symm)
 ·have h3 : jdE z js = 0 := by simpa using hc
  refine cK (cG (ts (rm rfl (ro rfl (dW U_102 (Ht rfl) len_map) (ro rfl (op_eqlN (Ht rfl) (cZ 0)) (R_nil (cY (Ht rfl) (fun hc2 => ?_) (fun hc2 => ?_))))))))
  ·have h4 : js.length = 0 := by simpa using hc2
   have he : jnE z S js = 0 := jn_zero (je_ok h3 (by omega)) h4
   refine ts (ro rfl (op_ldBA A_34 Z_34 (Ht rfl) (i := 0) rfl rfl rfl) (R_stA Z_34 (Ht rfl) (Ht rfl) rfl (i := 1) rfl (Nat.le_of_ble_eq_true rfl) rfl rfl (ro rfl (bY (cZ 0)) (R_nil (T_ret2 rfl (rv_to (rv_cell A_34 Z_34 rfl (i := 1) rfl rfl) ?_) (rv_to (rv_tmp rfl) ?_))))))
   ·exact (fun v V h => by rw [jnZ, jnS, okL, okL, he, if_pos h4, if_pos h4]; exact h)
   ·exact (int_of he.symm)
  ·have h4 : js.length ≠ 0 := by simpa using hc2
   refine cK (cG (ts (rm rfl (ro rfl (dW U_102 (Ht rfl) len_map) (ro rfl (op_mulN (cZ 2) (Ht rfl) (by show _ < 9223372036854775808; first | omega | (simp only [lim]; omega))) (ro rfl (op_fldB fa_34_0 (Ht rfl) rfl) (ro rfl (op_ldB A_31 Z_31 (Ht rfl) (i := 0) rfl rfl) (ro rfl (dW U_31 (Ht rfl) len_map) (ro rfl (op_eqlN (Ht rfl) (Ht rfl)) (R_nil (cY (Ht rfl) (fun hc3 => ?_) (fun hc3 => ?_))))))))))))
   ·have h5 : 2 * js.length = z.length := by simpa using hc3
    have h6 : jeE z js = 4 := je_size h3 (by omega)
    have he : jnE z S js = 4 := (jn_je (by rw [h6]; decide)).trans h6
    refine ts (ro rfl (OpTy.imp (bld_34_ ) rnet_nil) (R_stA Z_34 (Ht rfl) (Ht rfl) rfl (i := 1) rfl (Nat.le_of_ble_eq_true rfl) rfl rfl (ro rfl (bY (cZ 4)) (R_nil (T_ret2 rfl (rv_to (rv_cell A_34 Z_34 rfl (i := 1) rfl rfl) ?_) (rv_to (rv_tmp rfl) ?_))))))
    ·exact (fun v V h => by rw [jnZ, jnS, okL, okL, he]; exact h)
    ·exact (int_of he.symm)
   ·have h5 : 2 * js.length ≠ z.length := by simpa using hc3
    obtain ⟨q1, q2, q3⟩ := jn_ref (S := S) h3 h4 h5
    have hjn := jn_of h3
    have hjl := jn_le h3
    have hcc := c_connect (z := z) (S := S) (n := z.length) (L := L) (ps := jps js) hS rfl hf hL hLb h1 hz (fun j hj => by
     rw [jps_len] at hj
     have a1 := hjn.lt (2 * j) (by omega)
     have a2 := hjn.lt (2 * j + 1) (by omega)
     rw [gq_even] at a1
     rw [gq_odd] at a2
     exact ⟨a1, a2⟩) (by rw [jps_len]; omega)
    rw [q1, q2, q3] at hcc
    have hok : okL (jdE z js) (jps js) = jps js := by rw [okL, if_pos h3]
    rw [hok]
    refine cK (ts (ro rfl (op_ldBA A_34 Z_34 (Ht rfl) (i := 0) rfl rfl rfl) (rm rfl (ro rfl (cX Tryz.call172 hcc ⟨(Ht rfl), (Ht rfl), trivial⟩) (rm rfl (ro rfl (dG (Ht rfl) rfl) (ro rfl (dG (Ht rfl) rfl) (rn rfl (new_alloc (Ts := [Is (.slice none 0 0), Is (.slice none 0 0)]) O_34 rfl (fun V => aW ⟨rfl, trivial⟩ (aW ⟨rfl, trivial⟩ (aG)))) fun B8 => (R_stA Z_34 (Ht rfl) (Ht rfl) rfl (i := 2) rfl (Nat.le_of_ble_eq_true rfl) rfl rfl (ra rfl (R_nil (cG (ts (rm rfl (ro rfl (op_not (Ht rfl)) (R_nil ?_))))))))))))))))
    refine cY (Ht rfl) (fun hc4 => ?_) (fun hc4 => ?_)
    ·have h6 : jnE z S js ≠ 0 := by simpa using hc4
     have he : jnE z S js = 6 := by
      have := jn_sol (S := S) (je_ok h3 (by omega)) h4
      rw [this] at h6 ⊢
      split at h6
      ·exact absurd rfl h6
      ·rename_i hh; rw [if_neg hh]
     refine ts (ro rfl (OpTy.imp (bld_34_ ) rnet_nil) (R_stA Z_34 (Ht rfl) (Ht rfl) rfl (i := 1) rfl (Nat.le_of_ble_eq_true rfl) rfl rfl (ro rfl (bY (cZ 6)) (R_nil (T_ret2 rfl (rv_to (rv_cell A_34 Z_34 rfl (i := 1) rfl rfl) ?_) (rv_to (rv_tmp rfl) ?_))))))
     ·exact (fun v V h => by rw [jnZ, jnS, okL, okL, he]; exact h)
     ·exact (int_of he.symm)
    ·have he : jnE z S js = 0 := by simpa using hc4
     refine cK (ts (ro rfl (op_ldBA A_34 Z_34 (Ht rfl) (i := 2) rfl rfl rfl) (R_stA Z_34 (Ht rfl) (Ht rfl) rfl (i := 1) rfl (Nat.le_of_ble_eq_true rfl) rfl rfl (ro rfl (bY (cZ 0)) (R_nil (T_ret2 rfl (rv_cell A_34 Z_34 rfl (i := 1) rfl rfl) (rv_to (rv_tmp rfl) ?_)))))))
     exact (int_of he.symm)
end
section
open Go Go.RowKit
theorem xor1 {x : Nat} (h : x < 20) : IntKind.wrap .i64 ((BitVec.ofInt (IntKind.bits .i64) (x : Int) ^^^ BitVec.ofInt (IntKind.bits .i64) ((1 : Nat) : Int)).toNat : Nat) = ((prt x : Nat) : Int) :=
  (by decide +kernel : ∀ x : Nat, x < 20 → IntKind.wrap .i64 ((BitVec.ofInt (IntKind.bits .i64) (x : Int) ^^^ BitVec.ofInt (IntKind.bits .i64) ((1 : Nat) : Int)).toNat : Nat) = ((prt x : Nat) : Int)) x h
set_option maxRecDepth 20000 in
theorem c_join1 {z : List Qi} {S : List (List Qi)} {js : List (Int × Int)} {x : Nat} (hS : Shp S z.length z.length) (hd : jdE z js = 0) (hx : x < 2 * js.length) (hm : 2 * js.length ≤ 18) (hz : z.length ≤ 1000) : Fun Tryz.prog 176 [NT .i64 x, PT (NetT z S), PT (IntsT ((jnL js).map Nat.succ))] (NumsT (S.getD (gq (jps js) (prt x)) [])) := by
 have hpx : prt x < 2 * js.length := prt_lt hx
 have hgq := (jn_of hd).lt (prt x) hpx
 have hSl := hS.1
 have hJl := jnL_len js
 have hat : qat (jnL js) (prt x) = gq (jps js) (prt x) := jnL_at hpx
 refine Fun.intro Tryz.func176 rfl Tryz.ntmps176 rfl (fun cx => (ts (ro rfl (bY cJ) (R_nil (cG (C.D_start (m := 8) (dp 1 rfl (op_fld1 fa_30_1 (Ht rfl) rfl) (dq 5 0 rfl (dZ A_28 Z_28 (Ht rfl)) (dp 2 rfl (dZ A_91 Z_91 (Ht rfl)) (dp 0 rfl (cQ (Ht rfl)) (dq 8 3 rfl (op_ixor (Ht rfl) (cZ 1) (xor1 (by omega))) (dqq 7 2 9 4 rfl (dX U_91 Z_3 (Ht rfl) (Ht rfl) rfl (dU (suc_get (by omega)))) (dq 10 5 rfl (dZ A_3 Z_3 (Ht rfl)) (dq 11 6 rfl (OpTy.nat (dV (Ht rfl) (cZ 1) (by omega) (by show _ < 9223372036854775808; first | omega | (simp only [lim]; omega))) (show qat (jnL js) (prt x) + 1 - 1 = gq (jps js) (prt x) by omega)) ?_))))))))))))))
 refine C.D_done mixed rfl (by kernel_rfl) (aJ (aJ (aJ (aJ (aJ (aJ (aJ (aJ (aV (ro rfl (dX U_28 Z_27 (Ht rfl) (Ht rfl) rfl (dU (dK (d := []) (by omega)))) (ro rfl (dZ A_27 Z_27 (Ht rfl)) (ra rfl (R_nil ?_)))))))))))))
 exact T_ret1 rfl (rv_tmp rfl)
set_option maxRecDepth 20000 in
theorem c_unit {x y : Nat} : Fun Tryz.prog 178 [NT .i64 x, NT .i64 y] (NumT (if x = y then Qi.ofInt 1 else Qi.ofInt 0)) := by
 refine Fun.intro Tryz.func178 rfl Tryz.ntmps178 rfl (fun cx => (ts (rn rfl (new_alloc (Ts := [Is (.bool false), Is (.slice none 0 0), Is (.bool false), Is (.slice none 0 0), Is (.slice none 0 0)]) O_49 rfl (fun V => aW ⟨rfl, trivial⟩ (aW ⟨rfl, trivial⟩ (aW ⟨rfl, trivial⟩ (aW ⟨rfl, trivial⟩ (aW ⟨rfl, trivial⟩ (aG))))))) fun B4 => (R_nil (cG (ts (rm rfl (rm rfl (ro rfl (op_eqlN (Ht rfl) (Ht rfl)) (R_nil (cY (Ht rfl) (fun hb => ?_) (fun hb => ?_))))))))))))
 ·have h2 : x = y := by simpa using hb
  refine ts (ro rfl (cX Tryz.call99 (c_whole (n := 1) (by decide) (by decide)) ⟨(cZ 1), trivial⟩) (R_stA Z_49 (Ht rfl) (Ht rfl) rfl (i := 0) rfl (Nat.le_of_ble_eq_true rfl) rfl rfl (R_nil (T_ret1 rfl (rv_to (rv_cell A_49 Z_49 rfl (i := 0) rfl rfl) ?_)))))
  exact (num_of (if_pos h2).symm)
 ·have h2 : ¬ x = y := by simpa using hb
  refine cK (ts (ro rfl (cX Tryz.call99 (c_whole (n := 0) (by decide) (by decide)) ⟨(cZ 0), trivial⟩) (R_stA Z_49 (Ht rfl) (Ht rfl) rfl (i := 0) rfl (Nat.le_of_ble_eq_true rfl) rfl rfl (R_nil (T_ret1 rfl (rv_to (rv_cell A_49 Z_49 rfl (i := 0) rfl rfl) ?_))))))
  exact (num_of (if_neg h2).symm)
set_option maxRecDepth 20000 in
theorem c_join2 {z : List Qi} {S : List (List Qi)} {js : List (Int × Int)} {x y L : Nat} (hS : Shp S z.length z.length) (hf : FitM S L) (hL : 1 ≤ L) (hLb : L ≤ 1000) (hd : jdE z js = 0) (hx : x < 2 * js.length) (hy : y < 2 * js.length) (hm : 2 * js.length ≤ 18) (hz : z.length ≤ 1000) : Fun Tryz.prog 177 [NT .i64 x, NT .i64 y, PT (ClT Tryz.prog (Fin (2 * js.length)) (fun x => [NT .i64 x.1]) (fun x => NumsT (S.getD (gq (jps js) (prt x.1)) []))), PT (IntsT ((jnL js).map Nat.succ))] (NumT ((if x = y then Qi.ofInt 1 else Qi.ofInt 0) - gm S (gq (jps js) (prt x)) (gq (jps js) y))) := by
 have hpx : prt x < 2 * js.length := prt_lt hx
 have hgx := (jn_of hd).lt (prt x) hpx
 have hgy := (jn_of hd).lt y hy
 have hSl := hS.1
 have hSr := hS.row hgx
 have hJl := jnL_len js
 have hat : qat (jnL js) y = gq (jps js) y := jnL_at hy
 haveI g1 : FitC (gm S (gq (jps js) (prt x)) (gq (jps js) y)) L := hf.get hL _ _
 haveI g2 : FitC (if x = y then Qi.ofInt 1 else Qi.ofInt 0) 1 := by
  split
  ·exact fit_one
  ·exact (FitC.zero (Nat.le_refl 1) : FitC Qi.zero 1)
 refine Fun.intro Tryz.func177 rfl Tryz.ntmps177 rfl (fun cx => (ts (rn rfl (new_alloc (Ts := [Is (.bool false), Is (.slice none 0 0), Is (.bool false), Is (.slice none 0 0), Is (.slice none 0 0)]) O_49 rfl (fun V => aW ⟨rfl, trivial⟩ (aW ⟨rfl, trivial⟩ (aW ⟨rfl, trivial⟩ (aW ⟨rfl, trivial⟩ (aW ⟨rfl, trivial⟩ (aG))))))) fun B6 => (R_nil (cG (C.D_start (m := 14) (dp 0 rfl (cQ (Ht rfl)) (dp 1 rfl (cQ (Ht rfl)) (dqq 7 0 8 1 rfl (cX Tryz.call178 (c_unit (x := x) (y := y)) ⟨(Ht rfl), (Ht rfl), trivial⟩) (dq 9 2 rfl (op_iface mkif_49 (Ht rfl)) ?_))))))))))
 refine dp 2 rfl (dZ Tryz.isAgg213 Tryz.sizeOf213 (Ht rfl)) (dp 0 rfl (cQ (Ht rfl)) (dqq 11 4 12 5 rfl (op_callV (Ts := fun x : Fin (2 * js.length) => [NT .i64 x.1]) ⟨x, hx⟩ (Ht rfl) ⟨(Ht rfl), trivial⟩) (dp 3 rfl (dZ A_91 Z_91 (Ht rfl)) (dp 1 rfl (cQ (Ht rfl)) (dqq 14 7 15 8 rfl (dX U_91 Z_3 (Ht rfl) (Ht rfl) rfl (dU (suc_get (by omega)))) (dq 16 9 rfl (dZ A_3 Z_3 (Ht rfl)) (dq 17 10 rfl (OpTy.nat (dV (Ht rfl) (cZ 1) (by omega) (by show _ < 9223372036854775808; first | omega | (simp only [lim]; omega))) (show qat (jnL js) y + 1 - 1 = gq (jps js) y by omega)) ?_)))))))
 refine dqq 13 6 18 11 rfl (dX U_27 Z_49 (Ht rfl) (Ht rfl) rfl (dU (dK (d := Qi.zero) (show gq (jps js) y < (S.getD (gq (jps js) (prt x)) []).length by omega)))) (dq 19 12 rfl (dZ A_49 Z_49 (Ht rfl)) (C.D_done mixed rfl (by kernel_rfl) (aJ (aJ (aJ (aJ (aJ (aJ (aJ (aJ (aJ (aJ (aJ (aJ (aJ (aJ (aV (ro rfl (op_invoke meth_49_Sub Tryz.call68 (c_Sub (x := if x = y then Qi.ofInt 1 else Qi.ofInt 0) (y := gm S (gq (jps js) (prt x)) (gq (jps js) y)) (L := 1) (M := L) (by omega)) (Ht rfl) ⟨(Ht rfl), trivial⟩) ?_))))))))))))))))))
 refine R_stA Z_49 (Ht rfl) (Ht rfl) rfl (i := 0) rfl (Nat.le_of_ble_eq_true rfl) rfl rfl (R_nil ?_)
 exact T_ret1 rfl (rv_cell A_49 Z_49 rfl (i := 0) rfl rfl)
set_option maxHeartbeats 4000000 in
set_option maxRecDepth 20000 in
theorem c_Join {z : List Qi} {S : List (List Qi)} {js : List (Int × Int)} {L : Nat} (hS : Shp S z.length z.length) (hf : FitM S L) (hfz : FitL z L) (hL : 1 ≤ L) (hLb : L ≤ 1000) (hz : z.length ≤ 18) (hj : js.length ≤ 100) (hg : ∀ k, 2 * k < z.length → 6 * grow (L + 2) (2 * k) + 4 ≤ 17592186044415) (hx : ∀ k, 2 * k < z.length → xgr (grow (L + 2) (2 * k)) (2 * k + 1) ≤ 100000000000) : Fun Tryz.prog 78 [NetT z S, JsT js] (TupT [NetT (jnZ z S js) (jnS z S js), IntT .i64 (jnE z S js)]) := by
 have hll := jfl_len js
 have hJl := jnL_len js
 have hSl := hS.1
 refine Fun.intro Tryz.func78 rfl Tryz.ntmps78 rfl (fun cx => (ts (rn rfl (new_box (Ht rfl)) fun B2 => (rn rfl (new_alloc (Ts := [Is (.slice none 0 0), Is (.slice none 0 0)]) O_30 rfl (fun V => aW ⟨rfl, trivial⟩ (aW ⟨rfl, trivial⟩ (aG)))) fun B4 => (ro rfl (bY (cZ 0)) (R_nil (ts (ro rfl (op_ldBA A_30 Z_30 (Ht rfl) (i := 0) rfl rfl rfl) (rm rfl (ro rfl (cX Tryz.call175 (c_joined (z := z) (S := S) (js := js) (L := L) hfz hL (by omega) (by omega) hj) ⟨(Ht rfl), (Ht rfl), trivial⟩) (rm rfl (ro rfl (dG (Ht rfl) rfl) ?_))))))))))))
 refine ro rfl (dG (Ht rfl) rfl) (rn rfl (new_alloc (Ts := [Is (.slice none 0 0)]) Tryz.zeroValue91 rfl (fun V => aW ⟨rfl, trivial⟩ (aG))) fun B6 => (R_st Z_91 (Ht rfl) (Ht rfl) (i := 2) rfl (Nat.le_of_ble_eq_true rfl) rfl (ra rfl (R_nil (cG (ts (rm rfl (ro rfl (op_neq (Ht rfl) cJ) (R_nil (cY (Ht rfl) (fun hc => ?_) (fun hc => ?_)))))))))))
 ·have h3 : jeE z js ≠ 0 := by simpa using hc
  have he : jnE z S js = jeE z js := jn_je h3
  refine ts (ro rfl (OpTy.imp (bld_30_ ) net_nil) (rm rfl (R_stA Z_30 (Ht rfl) (Ht rfl) rfl (i := 1) rfl (Nat.le_of_ble_eq_true rfl) rfl rfl (ra rfl (R_nil (T_ret2 rfl (rv_to (rv_cell A_30 Z_30 rfl (i := 1) rfl rfl) ?_) (rv_to (rv_tmp rfl) ?_)))))))
  ·exact (fun v V h => by rw [jnZ, jnS, okL, okL, he, if_neg h3, if_neg h3]; exact h)
  ·exact (int_of he.symm)
 ·have h3 : jeE z js = 0 := by simpa using hc
  obtain ⟨hd, hne⟩ := je_zero h3
  have hok : jeL z js = jfl js := by rw [jeL, okL, if_pos h3]
  rw [hok]
  refine cK (cG (ts (ro rfl (op_ldB A_91 Z_91 (Ht rfl) (i := 2) rfl rfl) (ro rfl (dW U_91 (Ht rfl) (by rw [List.length_map, hll])) ?_))))
  refine ro rfl (op_eqlN (Ht rfl) (cZ 0)) (R_nil (cY (Ht rfl) (fun hc2 => ?_) (fun hc2 => ?_)))
  ·have h4 : js.length = 0 := by simp only [decide_eq_true_eq] at hc2; omega
   have he : jnE z S js = 0 := jn_zero h3 h4
   refine ts (ro rfl (op_ldBA A_30 Z_30 (Ht rfl) (i := 0) rfl rfl rfl) (R_stA Z_30 (Ht rfl) (Ht rfl) rfl (i := 1) rfl (Nat.le_of_ble_eq_true rfl) rfl rfl (ro rfl (bY (cZ 0)) (R_nil (T_ret2 rfl (rv_to (rv_cell A_30 Z_30 rfl (i := 1) rfl rfl) ?_) (rv_to (rv_tmp rfl) ?_))))))
   ·exact (fun v V h => by rw [jnZ, jnS, okL, okL, he, if_pos h4, if_pos h4]; exact h)
   ·exact (int_of he.symm)
  ·have h4 : js.length ≠ 0 := by simp only [decide_eq_false_iff_not] at hc2; omega
   have hj := jn_of hd
   have hjl := jn_le hd
   have hm1 : 2 * js.length < z.length := by omega
   obtain ⟨m, hm⟩ : ∃ m, m = 2 * js.length := ⟨_, rfl⟩
   have hg2 := hg js.length hm1
   have hx2 := hx js.length hm1
   have hxn := Nat.le_trans (xgr_step (grow (L + 2) (2 * js.length)) (2 * js.length)) hx2
   have hlf := c_leftG (z := z) (s := S) (G := jnL js) (by omega) (by omega)
   rw [gnI_ints] at hlf
   have hfl : (jnF z js).length ≤ z.length := lfG_len _ _
   have hfx : ∀ x, x ∈ jnF z js → x < z.length := fun x h => lfG_lt h
   rw [jfl_ints hd]
   refine cK (cG (T_freeze (i := 0) (tt := 2) rfl rfl frz_ptr (T_freeze (i := 2) (tt := 6) rfl rfl frz_ptr1 (cU (ro rfl (op_clos (γ := Fin (2 * js.length)) (Ts := fun x => [NT .i64 x.1]) (U := fun x => NumsT (S.getD (gq (jps js) (prt x.1)) [])) Tryz.call176 (fun x => c_join1 hS hd x.2 (by omega) (by omega)) ⟨(Ht rfl), (Ht rfl), trivial⟩) (rn rfl (new_alloc (Ts := [Is (.nilFunc)]) Tryz.zeroValue213 rfl (fun V => aW ⟨rfl, trivial⟩ (aG))) fun B8 => (R_st Tryz.sizeOf213 (Ht rfl) (Ht rfl) (i := 3) rfl (Nat.le_of_ble_eq_true rfl) rfl (R_nil (cG (T_freeze (i := 3) (tt := 8) rfl rfl frz_ptr1 ?_))))))))))
   refine cU (ro rfl (dZ A_91 Z_91 (Ht rfl)) (ro rfl (dW U_91 (Ht rfl) (by rw [List.length_map, List.length_map, hJl])) ?_))
   refine ro rfl (op_clos (γ := Fin (2 * js.length) × Fin (2 * js.length)) (Ts := fun x => [NT .i64 x.1.1, NT .i64 x.2.1]) (U := fun x => NumT ((if x.1.1 = x.2.1 then Qi.ofInt 1 else Qi.ofInt 0) - gm S (gq (jps js) (prt x.1.1)) (gq (jps js) x.2.1))) Tryz.call177 (fun x => c_join2 hS hf hL hLb hd x.1.2 x.2.2 (by omega) (by omega)) ⟨(Ht rfl), (Ht rfl), trivial⟩) (ro rfl (cX Tryz.call85 (c_fill (n := 2 * js.length) (f := fun x y => (if x = y then Qi.ofInt 1 else Qi.ofInt 0) - gm S (gq (jps js) (prt x)) (gq (jps js) y)) (by omega)) ⟨(Ht rfl), (Ht rfl), trivial⟩) (ra rfl (R_nil (ts (ro rfl (dZ A_30 Z_30 (Ht rfl)) ?_)))))
   refine ro rfl (dZ A_91 Z_91 (Ht rfl)) (ro rfl (cX Tryz.call151 hlf ⟨(Ht rfl), (Ht rfl), trivial⟩) (ra rfl (R_nil (ts (ro rfl (dZ A_30 Z_30 (Ht rfl)) (rm rfl (R_call0 Tryz.call147 (c_partG (Q := jnF z js) (m := (jnF z js).length) hS hfx rfl (by omega) (by omega)) ⟨(Ht rfl), (Ht rfl), trivial⟩ rfl (fun B47 _ => (rn rfl (new_alloc (Ts := [Is (.slice none 0 0), Is (.slice none 0 0)]) O_30 rfl (fun V => aW ⟨rfl, trivial⟩ (aW ⟨rfl, trivial⟩ (aG)))) fun B11 => (R_stA Z_30 (Ht rfl) (Ht rfl) rfl (i := 5) rfl (Nat.le_of_ble_eq_true rfl) rfl rfl ?_))))))))))
   refine R_nil (cG (ts (rm rfl (ro rfl (dW U_91 (Ht rfl) (by rw [List.length_map, List.length_map])) ?_))))
   refine ro rfl (cQ (cZ 0)) (R_nil (T_block (T_keep [1, 4, 5] rfl (by decide) ?_)))
   refine T_loop (fun (j : Nat) => j ≤ (jnF z js).length ∧ ∀ y, y < j → slvE (jnM S (jps js) (2 * js.length)) (jnB S (jps js) (2 * js.length) ((jnF z js).getD y 0)) (2 * js.length) = 0) (fun (j : Nat) => (jnF z js).length - j) (fun (j : Nat) => [(2, PT (NetT z S)), (4, PtrB B4 0), (6, PT (IntsT ((jnL js).map Nat.succ))), (8, PT (ClT Tryz.prog (Fin (2 * js.length)) (fun x => [NT .i64 x.1]) (fun x => NumsT (S.getD (gq (jps js) (prt x.1)) [])))), (9, NumM (jnM S (jps js) (2 * js.length))), (10, IntsT ((jnF z js).map Nat.succ)), (11, PtrB B11 0), (48, IntsT ((jnF z js).map Nat.succ)), (49, NT .i64 ((jnF z js).length)), (50, NT .i64 j)]) (fun (j : Nat) => [box B4 30 [Is (.slice none 0 0), Is (.slice none 0 0)], matO B47 27 49 5 (FRow NumT (tab ((jnF z js).length) fun i => (mixG (fun y => jnX S (jps js) (2 * js.length) (qat (jnF z js) i) (qat (jnF z js) y)) (fun y => gm S (qat (jnF z js) i) (qat (jnF z js) y)) (jnF z js).length j))), box B11 30 [NumsT (subZ z (jnF z js)), Is (.slice (some ⟨B47, 0, none⟩) ((jnF z js).length) ((jnF z js).length))]]) 0 ⟨Nat.zero_le _, fun y h => by omega⟩
    (aQ rfl (aQ rfl (aQ rfl (aQ rfl (aQ rfl (aQ rfl (aQ rfl (aQ rfl (aQ rfl (aQ rfl aX)))))))))) (aK (box_of rfl) (aK (matO_of (congrArg (FRow NumT) (tab_congr fun i _ => mixG_zero _ _ _))) (aK (box_of rfl) aU))) (fun j ⟨hjq, h0⟩ => ?_)
   refine ts (ro rfl (op_lssN (Ht rfl) (Ht rfl)) (R_nil (cG (cY (Ht rfl) (fun hd1 => ?_) (fun hd1 => ?_)))))
   ·have hjn : j < (jnF z js).length := by simp only [decide_eq_true_eq] at hd1; omega
    have hFj : qat (jnF z js) j < z.length := jnF_lt hjn
    have hbf : FitL (jnB S (jps js) (2 * js.length) ((jnF z js).getD j 0)) L := jnB_fit hf hL
    refine cK (cG (T_block (ts (rm rfl (ro rfl (dX U_91 Z_3 (Ht rfl) (Ht rfl) rfl (dU (suc_get hjn))) (ro rfl (dZ A_3 Z_3 (Ht rfl)) (ra rfl (ra rfl (R_nil (ts (ro rfl (dZ A_91 Z_91 (Ht rfl)) (ro rfl (dW U_91 (Ht rfl) (by rw [List.length_map, List.length_map, hJl])) ?_))))))))))))
    refine rn rfl (new_makeO (T := NumT Qi.zero) (i := Tryz.t49) und_27 info_49 rfl rfl (Ht rfl) rfl num_zero_p (El.ag rfl) (by show 88 * _ ≤ _; omega) (by omega)) fun B57 => ra rfl (R_nil (cG (ts (rm rfl (ro rfl (op_lenO U_27 (Ht rfl) (i := 3) rfl (show ((List.replicate (2 * js.length) (NumT Qi.zero)).length : Int) = ((2 * js.length : Nat) : Int) from by simp)) (ro rfl (cQ (cZ 0)) (R_nil (T_block ?_))))))))
    refine T_loop (fun (x : Nat) => x ≤ 2 * js.length) (fun (x : Nat) => 2 * js.length - x) (fun (x : Nat) => [(2, PT (NetT z S)), (4, PtrB B4 0), (6, PT (IntsT ((jnL js).map Nat.succ))), (8, PT (ClT Tryz.prog (Fin (2 * js.length)) (fun x => [NT .i64 x.1]) (fun x => NumsT (S.getD (gq (jps js) (prt x.1)) [])))), (9, NumM (jnM S (jps js) (2 * js.length))), (10, IntsT ((jnF z js).map Nat.succ)), (11, PtrB B11 0), (12, NT .i64 j), (13, NT .i64 (qat (jnF z js) j + 1)), (14, Is B57), (48, IntsT ((jnF z js).map Nat.succ)), (49, NT .i64 ((jnF z js).length)), (50, NT .i64 j), (59, NT .i64 (2 * js.length)), (60, NT .i64 x)]) (fun (x : Nat) => [box B4 30 [Is (.slice none 0 0), Is (.slice none 0 0)], matO B47 27 49 5 (FRow NumT (tab ((jnF z js).length) fun i => (mixG (fun y => jnX S (jps js) (2 * js.length) (qat (jnF z js) i) (qat (jnF z js) y)) (fun y => gm S (qat (jnF z js) i) (qat (jnF z js) y)) (jnF z js).length j))), box B11 30 [NumsT (subZ z (jnF z js)), Is (.slice (some ⟨B47, 0, none⟩) ((jnF z js).length) ((jnF z js).length))], rowO 49 5 B57 ((mixT (fun x => gm S (gq (jps js) (prt x)) (qat (jnF z js) j)) Qi.zero (2 * js.length) x).map NumT)]) 0 (Nat.zero_le _)
     (aQ rfl (aQ rfl (aQ rfl (aQ rfl (aQ rfl (aQ rfl (aQ rfl (aQ rfl (aQ rfl (aQ rfl (aQ rfl (aQ rfl (aQ rfl (aQ rfl (aQ rfl aX))))))))))))))) (aK (box_of rfl) (aK (fun _ _ _ h => h) (aK (box_of rfl) (aK (rowO_of (by rw [← mix_zero]; exact tab_rep NumT _)) aU)))) (fun x hx1 => ?_)
    refine ts (ro rfl (op_lssN (Ht rfl) (Ht rfl)) (R_nil (cG (cY (Ht rfl) (fun hd2 => ?_) (fun hd2 => ?_)))))
    ·have hxm : x < 2 * js.length := by simp only [decide_eq_true_eq] at hd2; omega
     have hgx := hj.lt (prt x) (prt_lt hxm)
     have hSr := hS.row hgx
     refine cK (cG (T_block (ts (rm rfl (ra rfl (R_nil (cU (rm rfl (rm rfl (ro rfl (dZ Tryz.isAgg213 Tryz.sizeOf213 (Ht rfl)) (rm rfl (ro rfl (op_callV (Ts := fun x : Fin (2 * js.length) => [NT .i64 x.1]) ⟨x, hxm⟩ (Ht rfl) ⟨(Ht rfl), trivial⟩) (rm rfl (ro rfl (OpTy.nat (dV (Ht rfl) (cZ 1) (by omega) (by show _ < 9223372036854775808; first | omega | (simp only [lim]; omega))) (show qat (jnF z js) j + 1 - 1 = qat (jnF z js) j by omega)) (ro rfl (dX U_27 Z_49 (Ht rfl) (Ht rfl) rfl (dU (dK (d := Qi.zero) (show qat (jnF z js) j < (S.getD (gq (jps js) (prt x)) []).length by omega)))) ?_)))))))))))))))
     refine ro rfl (dZ A_49 Z_49 (Ht rfl)) (ro rfl (op_idxO U_27 Z_49 (Ht rfl) (Ht rfl) rfl (i := 3) rfl (by rw [List.length_map, mix_len]; omega) rfl) ?_)
     refine R_stO Z_49 (Ht rfl) (Ht rfl) (El.ag rfl) (i := 3) rfl rfl (by rw [List.length_map, mix_len]; omega) rfl ?_
     refine R_nil (T_blk (cU (ro rfl (dJ (Ht rfl) (cZ 1) (by show _ < 9223372036854775808; first | omega | (simp only [lim]; omega))) (rm rfl (R_nil (T_again (x + 1) hxm (by omega) (aQ rfl (aQ rfl (aQ rfl (aQ rfl (aQ rfl (aQ rfl (aQ rfl (aQ rfl (aQ rfl (aQ rfl (aQ rfl (aQ rfl (aQ rfl (aQ rfl (aQ rfl aX))))))))))))))) (aK (box_of rfl) (aK (fun _ _ _ h => h) (aK (box_of rfl) (aK (rowO_of (by rw [set_mapF]; exact congrArg _ (mix_set (f := (fun x => gm S (gq (jps js) (prt x)) (qat (jnF z js) j)))))) aU))))))))))
    ·have hxm : x = 2 * js.length := by simp only [decide_eq_false_iff_not] at hd2; omega
     rw [hxm, mix_fin]
     refine T_exit rfl (T_freeze (i := 3) (tt := 14) rfl rfl frz_row (ts (rm rfl (rm rfl (ro rfl (cX Tryz.call179 (c_Solve (M := jnM S (jps js) (2 * js.length)) (b := jnB S (jps js) (2 * js.length) ((jnF z js).getD j 0)) (n := 2 * js.length) (L := L + 2) (jnM_shp _ _ _) (tab_len _ _) (jnM_fit hf hL) (hbf.le (by omega)) (by omega) (by omega) (by omega) hg2 (by omega)) ⟨(Ht rfl), (Ht rfl), trivial⟩) (rm rfl (ro rfl (dG (Ht rfl) rfl) (ro rfl (dG (Ht rfl) rfl) (ra rfl (ra rfl (R_nil (cG (ts (rm rfl (ro rfl (op_neq (Ht rfl) cJ) (R_nil (cY (Ht rfl) (fun hc3 => ?_) (fun hc3 => ?_))))))))))))))))))
     ·have h5 : slvE (jnM S (jps js) (2 * js.length)) (jnB S (jps js) (2 * js.length) ((jnF z js).getD j 0)) (2 * js.length) ≠ 0 := by simpa using hc3
      have h6 : jslE z S js ≠ 0 := fun k => h5 (firstE_zero k j hjn)
      have he : jnE z S js = 6 := (jn_sol h3 h4).trans (if_neg h6)
      refine ts (ro rfl (OpTy.imp (bld_30_ ) net_nil) (R_stA Z_30 (Ht rfl) (Ht rfl) rfl (i := 0) rfl (Nat.le_of_ble_eq_true rfl) rfl rfl (ro rfl (bY (cZ 6)) (R_nil (T_ret2 rfl (rv_to (rv_cell A_30 Z_30 rfl (i := 0) rfl rfl) ?_) (rv_to (rv_tmp rfl) ?_))))))
      ·exact (fun v V h => by rw [jnZ, jnS, okL, okL, he]; exact h)
      ·exact (int_of he.symm)
     ·have h5 : slvE (jnM S (jps js) (2 * js.length)) (jnB S (jps js) (2 * js.length) ((jnF z js).getD j 0)) (2 * js.length) = 0 := by simpa using hc3
      have hxf := slv_fit (jnM_shp S (jps js) (2 * js.length)) (jnM_fit hf hL) (hbf.le (by omega)) (by omega) h5
      have hxl : (slvX (jnM S (jps js) (2 * js.length)) (jnB S (jps js) (2 * js.length) ((jnF z js).getD j 0)) (2 * js.length)).length = 2 * js.length := slvX_len _ _ _
      have hGe : L + 2 ≤ xgr (grow (L + 2) (2 * js.length)) (2 * js.length) := Nat.le_trans (grow_le (L + 2) (2 * js.length)) (xgr_ge _ _)
      obtain ⟨G, hG⟩ : ∃ G, G = xgr (grow (L + 2) (2 * js.length)) (2 * js.length) := ⟨_, rfl⟩
      rw [← hG] at hxf hGe hxn
      have hmG : 2 * js.length * (2 * G + 2) ≤ 18 * (2 * G + 2) := Nat.mul_le_mul_right _ (by omega)
      have hokx : okL (slvE (jnM S (jps js) (2 * js.length)) (jnB S (jps js) (2 * js.length) ((jnF z js).getD j 0)) (2 * js.length)) (slvX (jnM S (jps js) (2 * js.length)) (jnB S (jps js) (2 * js.length) ((jnF z js).getD j 0)) (2 * js.length)) = slvX (jnM S (jps js) (2 * js.length)) (jnB S (jps js) (2 * js.length) ((jnF z js).getD j 0)) (2 * js.length) := by rw [okL, if_pos h5]
      rw [hokx]
      refine cK (ts (rm rfl (ro rfl (dW U_91 (Ht rfl) (by rw [List.length_map, List.length_map])) ?_)))
      refine ro rfl (cQ (cZ 0)) (R_nil (T_block (T_keep [0, 1, 2] rfl (by decide) ?_)))
      refine T_loop (fun (i : Nat) => i ≤ (jnF z js).length) (fun (i : Nat) => (jnF z js).length - i) (fun (i : Nat) => [(2, PT (NetT z S)), (4, PtrB B4 0), (6, PT (IntsT ((jnL js).map Nat.succ))), (8, PT (ClT Tryz.prog (Fin (2 * js.length)) (fun x => [NT .i64 x.1]) (fun x => NumsT (S.getD (gq (jps js) (prt x.1)) [])))), (9, NumM (jnM S (jps js) (2 * js.length))), (10, IntsT ((jnF z js).map Nat.succ)), (11, PtrB B11 0), (12, NT .i64 j), (16, NumsT (slvX (jnM S (jps js) (2 * js.length)) (jnB S (jps js) (2 * js.length) ((jnF z js).getD j 0)) (2 * js.length))), (48, IntsT ((jnF z js).map Nat.succ)), (49, NT .i64 ((jnF z js).length)), (50, NT .i64 j), (83, IntsT ((jnF z js).map Nat.succ)), (84, NT .i64 ((jnF z js).length)), (85, NT .i64 i)]) (fun (i : Nat) => [box B4 30 [Is (.slice none 0 0), Is (.slice none 0 0)], matO B47 27 49 5 (FRow NumT (mixG (fun i => (mixG (fun y => jnX S (jps js) (2 * js.length) (qat (jnF z js) i) (qat (jnF z js) y)) (fun y => gm S (qat (jnF z js) i) (qat (jnF z js) y)) (jnF z js).length (j + 1))) (fun i => (mixG (fun y => jnX S (jps js) (2 * js.length) (qat (jnF z js) i) (qat (jnF z js) y)) (fun y => gm S (qat (jnF z js) i) (qat (jnF z js) y)) (jnF z js).length j)) ((jnF z js).length) i)), box B11 30 [NumsT (subZ z (jnF z js)), Is (.slice (some ⟨B47, 0, none⟩) ((jnF z js).length) ((jnF z js).length))]]) 0 (Nat.zero_le _)
       (aQ rfl (aQ rfl (aQ rfl (aQ rfl (aQ rfl (aQ rfl (aQ rfl (aQ rfl (aQ rfl (aQ rfl (aQ rfl (aQ rfl (aQ rfl (aQ rfl (aQ rfl aX))))))))))))))) (aK (box_of rfl) (aK (matO_of (congrArg (FRow NumT) (mixG_zero _ _ _))) (aK (box_of rfl) aU))) (fun i hi => ?_)
      refine ts (ro rfl (op_lssN (Ht rfl) (Ht rfl)) (R_nil (cG (cY (Ht rfl) (fun hd4 => ?_) (fun hd4 => ?_)))))
      ·have hin : i < (jnF z js).length := by simp only [decide_eq_true_eq] at hd4; omega
       have hFi : qat (jnF z js) i < z.length := jnF_lt hin
       have hSr := hS.row hFi
       refine cK (cG (T_block (ts (rm rfl (ro rfl (dX U_91 Z_3 (Ht rfl) (Ht rfl) rfl (dU (suc_get hin))) (ro rfl (dZ A_3 Z_3 (Ht rfl)) (ra rfl (ra rfl (R_nil (ts (ro rfl (dZ A_91 Z_91 (Ht rfl)) (ro rfl (dW U_91 (Ht rfl) (by rw [List.length_map, List.length_map, hJl])) ?_))))))))))))
       refine rn rfl (new_makeO (T := NumT Qi.zero) (i := Tryz.t49) und_27 info_49 rfl rfl (Ht rfl) rfl num_zero_p (El.ag rfl) (by show 88 * _ ≤ _; omega) (by omega)) fun B92 => ra rfl (R_nil (cG (ts (ro rfl (dZ A_91 Z_91 (Ht rfl)) (ro rfl (dW U_91 (Ht rfl) (by rw [List.length_map, List.length_map, hJl])) ?_)))))
       refine ro rfl (cQ (cZ 0)) (R_nil (T_block ?_))
       refine T_loop (fun (x : Nat) => x ≤ 2 * js.length) (fun (x : Nat) => 2 * js.length - x) (fun (x : Nat) => [(2, PT (NetT z S)), (4, PtrB B4 0), (6, PT (IntsT ((jnL js).map Nat.succ))), (8, PT (ClT Tryz.prog (Fin (2 * js.length)) (fun x => [NT .i64 x.1]) (fun x => NumsT (S.getD (gq (jps js) (prt x.1)) [])))), (9, NumM (jnM S (jps js) (2 * js.length))), (10, IntsT ((jnF z js).map Nat.succ)), (11, PtrB B11 0), (12, NT .i64 j), (16, NumsT (slvX (jnM S (jps js) (2 * js.length)) (jnB S (jps js) (2 * js.length) ((jnF z js).getD j 0)) (2 * js.length))), (18, NT .i64 i), (19, NT .i64 (qat (jnF z js) i + 1)), (20, Is B92), (48, IntsT ((jnF z js).map Nat.succ)), (49, NT .i64 ((jnF z js).length)), (50, NT .i64 j), (83, IntsT ((jnF z js).map Nat.succ)), (84, NT .i64 ((jnF z js).length)), (85, NT .i64 i), (93, IntsT ((jnL js).map Nat.succ)), (94, NT .i64 (2 * js.length)), (95, NT .i64 x)]) (fun (x : Nat) => [box B4 30 [Is (.slice none 0 0), Is (.slice none 0 0)], matO B47 27 49 5 (FRow NumT (mixG (fun i => (mixG (fun y => jnX S (jps js) (2 * js.length) (qat (jnF z js) i) (qat (jnF z js) y)) (fun y => gm S (qat (jnF z js) i) (qat (jnF z js) y)) (jnF z js).length (j + 1))) (fun i => (mixG (fun y => jnX S (jps js) (2 * js.length) (qat (jnF z js) i) (qat (jnF z js) y)) (fun y => gm S (qat (jnF z js) i) (qat (jnF z js) y)) (jnF z js).length j)) ((jnF z js).length) i)), box B11 30 [NumsT (subZ z (jnF z js)), Is (.slice (some ⟨B47, 0, none⟩) ((jnF z js).length) ((jnF z js).length))], rowO 49 5 B92 ((mixT (fun x => gm S (qat (jnF z js) i) (gq (jps js) x)) Qi.zero (2 * js.length) x).map NumT)]) 0 (Nat.zero_le _)
        (aQ rfl (aQ rfl (aQ rfl (aQ rfl (aQ rfl (aQ rfl (aQ rfl (aQ rfl (aQ rfl (aQ rfl (aQ rfl (aQ rfl (aQ rfl (aQ rfl (aQ rfl (aQ rfl (aQ rfl (aQ rfl (aQ rfl (aQ rfl (aQ rfl aX))))))))))))))))))))) (aK (box_of rfl) (aK (fun _ _ _ h => h) (aK (box_of rfl) (aK (rowO_of (by rw [← mix_zero]; exact tab_rep NumT _)) aU)))) (fun x hx1 => ?_)
       refine ts (ro rfl (op_lssN (Ht rfl) (Ht rfl)) (R_nil (cG (cY (Ht rfl) (fun hd5 => ?_) (fun hd5 => ?_)))))
       ·have hxm : x < 2 * js.length := by simp only [decide_eq_true_eq] at hd5; omega
        have hat : qat (jnL js) x = gq (jps js) x := jnL_at hxm
        have hgx := hj.lt x hxm
        refine cK (cG (T_block (ts (rm rfl (ro rfl (dX U_91 Z_3 (Ht rfl) (Ht rfl) rfl (dU (suc_get (by omega)))) (ro rfl (dZ A_3 Z_3 (Ht rfl)) (ra rfl (ra rfl (R_nil (cU (rm rfl (rm rfl (ro rfl (op_fld1 fa_30_1 (Ht rfl) rfl) (ro rfl (dZ A_28 Z_28 (Ht rfl)) (rm rfl (ro rfl (OpTy.nat (dV (Ht rfl) (cZ 1) (by omega) (by show _ < 9223372036854775808; first | omega | (simp only [lim]; omega))) (show qat (jnF z js) i + 1 - 1 = qat (jnF z js) i by omega)) (ro rfl (dX U_28 Z_27 (Ht rfl) (Ht rfl) rfl (dU (dK (d := []) (show qat (jnF z js) i < S.length by omega)))) ?_)))))))))))))))))
        refine ro rfl (dZ A_27 Z_27 (Ht rfl)) (rm rfl (ro rfl (OpTy.nat (dV (Ht rfl) (cZ 1) (by omega) (by show _ < 9223372036854775808; first | omega | (simp only [lim]; omega))) (show qat (jnL js) x + 1 - 1 = gq (jps js) x by omega)) (ro rfl (dX U_27 Z_49 (Ht rfl) (Ht rfl) rfl (dU (dK (d := Qi.zero) (show gq (jps js) x < (S.getD (qat (jnF z js) i) []).length by omega)))) (ro rfl (dZ A_49 Z_49 (Ht rfl)) (ro rfl (op_idxO U_27 Z_49 (Ht rfl) (Ht rfl) rfl (i := 3) rfl (by rw [List.length_map, mix_len]; omega) rfl) ?_)))))
        refine R_stO Z_49 (Ht rfl) (Ht rfl) (El.ag rfl) (i := 3) rfl rfl (by rw [List.length_map, mix_len]; omega) rfl ?_
        refine R_nil (T_blk (cU (ro rfl (dJ (Ht rfl) (cZ 1) (by show _ < 9223372036854775808; first | omega | (simp only [lim]; omega))) (rm rfl (R_nil (T_again (x + 1) hxm (by omega) (aQ rfl (aQ rfl (aQ rfl (aQ rfl (aQ rfl (aQ rfl (aQ rfl (aQ rfl (aQ rfl (aQ rfl (aQ rfl (aQ rfl (aQ rfl (aQ rfl (aQ rfl (aQ rfl (aQ rfl (aQ rfl (aQ rfl (aQ rfl (aQ rfl aX))))))))))))))))))))) (aK (box_of rfl) (aK (fun _ _ _ h => h) (aK (box_of rfl) (aK (rowO_of (by rw [set_mapF]; exact congrArg _ (mix_set (f := (fun x => gm S (qat (jnF z js) i) (gq (jps js) x)))))) aU))))))))))
       ·have hxm : x = 2 * js.length := by simp only [decide_eq_false_iff_not] at hd5; omega
        rw [hxm, mix_fin]
        refine T_exit rfl (T_freeze (i := 3) (tt := 20) rfl rfl frz_row (T_keep [0, 1, 2] rfl (by decide) (T_focus 1 (i) rfl (frow_mixG hin) (fun v0 => ?_))))
        have hrl := mixG_len (fun y => jnX S (jps js) (2 * js.length) (qat (jnF z js) i) (qat (jnF z js) y)) (fun y => gm S (qat (jnF z js) i) (qat (jnF z js) y)) ((jnF z js).length) j
        have hrf : FitL (tab (2 * js.length) (fun x => gm S (qat (jnF z js) i) (gq (jps js) x))) G := FitL.tab fun x _ => (hf.get hL _ _).le (by omega)
        have hro : ((mixG (fun y => jnX S (jps js) (2 * js.length) (qat (jnF z js) i) (qat (jnF z js) y)) (fun y => gm S (qat (jnF z js) i) (qat (jnF z js) y)) (jnF z js).length j)).set j (dotF (gm S (qat (jnF z js) i) (qat (jnF z js) j)) (tab (2 * js.length) (fun x => gm S (qat (jnF z js) i) (gq (jps js) x))) (slvX (jnM S (jps js) (2 * js.length)) (jnB S (jps js) (2 * js.length) ((jnF z js).getD j 0)) (2 * js.length)) (2 * js.length)) = (mixG (fun y => jnX S (jps js) (2 * js.length) (qat (jnF z js) i) (qat (jnF z js) y)) (fun y => gm S (qat (jnF z js) i) (qat (jnF z js) y)) (jnF z js).length (j + 1)) := by
         rw [dot_jn]; exact mixG_set (f := fun y => jnX S (jps js) (2 * js.length) (qat (jnF z js) i) (qat (jnF z js) y))
        refine C.D_start (m := 17) (dp 11 rfl (op_fldB fa_30_1 (Ht rfl) rfl) (dq 114 0 rfl (op_ldB A_28 Z_28 (Ht rfl) (i := 2) rfl rfl) (dp 18 rfl (cQ (Ht rfl)) (dqq 115 1 116 2 rfl (op_idxB U_28 Z_27 (Ht rfl) (Ht rfl) rfl (by omega) (by rw [Nat.mul_one, Nat.zero_add])) ?_))))
        refine dq 117 3 rfl (op_ldH A_27 Z_27 (Ht rfl) (j := 1) rfl) (dp 12 rfl (cQ (Ht rfl)) (dp 11 rfl (op_fldB fa_30_1 (Ht rfl) rfl) (dq 120 6 rfl (op_ldB A_28 Z_28 (Ht rfl) (i := 2) rfl rfl) (dp 18 rfl (cQ (Ht rfl)) (dqq 121 7 122 8 rfl (op_idxB U_28 Z_27 (Ht rfl) (Ht rfl) rfl (by omega) (by rw [Nat.mul_one, Nat.zero_add])) ?_)))))
        refine dq 123 9 rfl (op_ldH A_27 Z_27 (Ht rfl) (j := 1) rfl) (dp 12 rfl (cQ (Ht rfl)) (dqq 124 10 125 11 rfl (op_idxO U_27 Z_49 (Ht rfl) (Ht rfl) rfl (i := 3) rfl (by simp only [List.length_map, hrl]; omega) rfl) ?_))
        refine dq 126 12 rfl (op_ldO A_49 Z_49 (Ht rfl) (i := 3) rfl rfl (dU (mixG_get hjn))) (dp 20 rfl (cQ (Ht rfl)) (dp 16 rfl (cQ (Ht rfl)) (C.D_step (Ei := [(127, _), (128, _), (129, _)]) rfl rfl (bJ (bW 13 rfl rfl) (bJ (bW 14 rfl rfl) (bJ (bW 15 rfl rfl) bV))) (dQ rfl (cX Tryz.call156 (c_dot (x := gm S (qat (jnF z js) i) (qat (jnF z js) j)) (l := tab (2 * js.length) (fun x => gm S (qat (jnF z js) i) (gq (jps js) x))) (m := slvX (jnM S (jps js) (2 * js.length)) (jnB S (jps js) (2 * js.length) ((jnF z js).getD j 0)) (2 * js.length)) (L := G) (M := L) (n := 2 * js.length) (hf.get hL _ _) hrf hxf (by omega) (tab_len _ _) hxl (by omega) (by omega)) ⟨(Ht rfl), (Ht rfl), (Ht rfl), trivial⟩)) ?_)))
        refine C.D_done mixed rfl (by kernel_rfl) (aJ (aJ (aJ (aJ (aJ (aJ (aJ (aJ (aJ (aJ (aJ (aJ (aJ (aJ (aJ (aJ (aJ (aV (ro rfl (op_idxO U_27 Z_49 (Ht rfl) (Ht rfl) rfl (i := 3) rfl (by simp only [List.length_map, hrl]; omega) rfl) ?_)))))))))))))))))))
        refine R_stO Z_49 (Ht rfl) (Ht rfl) (El.ag rfl) (i := 3) rfl rfl (by simp only [List.length_map, hrl]; omega) rfl ?_
        refine R_nil (T_unfocus 1 3 rfl rfl (by decide) (by simp only [FRow, List.length_map, mixG_len]; omega) ?_)
        refine T_blk (cU (ro rfl (dJ (Ht rfl) (cZ 1) (by show _ < 9223372036854775808; first | omega | (simp only [lim]; omega))) (rm rfl (R_nil (T_keep [0, 1, 2] rfl (by decide) (T_again (i + 1) hin (by omega) (aQ rfl (aQ rfl (aQ rfl (aQ rfl (aQ rfl (aQ rfl (aQ rfl (aQ rfl (aQ rfl (aQ rfl (aQ rfl (aQ rfl (aQ rfl (aQ rfl (aQ rfl aX))))))))))))))) (aK (box_of rfl) (aK (matO_of (by rw [set_mapF, hro, set_FRow]; exact congrArg _ (mixG_set (f := fun i => (mixG (fun y => jnX S (jps js) (2 * js.length) (qat (jnF z js) i) (qat (jnF z js) y)) (fun y => gm S (qat (jnF z js) i) (qat (jnF z js) y)) (jnF z js).length (j + 1)))))) (aK (box_of rfl) aU)))))))))
      ·have hin : i = (jnF z js).length := by simp only [decide_eq_false_iff_not] at hd4; omega
       rw [hin, mixG_fin]
       refine T_exit rfl (T_blk (cU (ro rfl (dJ (Ht rfl) (cZ 1) (by show _ < 9223372036854775808; first | omega | (simp only [lim]; omega))) (rm rfl (R_nil ?_)))))
       refine T_again (j + 1) ⟨hjn, fun y h => by
         by_cases e : y = j
         ·rw [e]; exact h5
         ·exact h0 y (by omega)⟩ (by omega) (aQ rfl (aQ rfl (aQ rfl (aQ rfl (aQ rfl (aQ rfl (aQ rfl (aQ rfl (aQ rfl (aQ rfl aX)))))))))) (aK (box_of rfl) (aK (fun _ _ _ h => h) (aK (box_of rfl) aU)))
   ·have hjn : j = (jnF z js).length := by simp only [decide_eq_false_iff_not] at hd1; omega
    rw [hjn] at h0
    have h6 : jslE z S js = 0 := firstE_none h0
    have he : jnE z S js = 0 := (jn_sol h3 h4).trans (if_pos h6)
    rw [hjn, show (tab ((jnF z js).length) fun i => (mixG (fun y => jnX S (jps js) (2 * js.length) (qat (jnF z js) i) (qat (jnF z js) y)) (fun y => gm S (qat (jnF z js) i) (qat (jnF z js) y)) (jnF z js).length (jnF z js).length)) = jnS0 z S js from tab_congr fun i _ => mixG_fin _ _ _]
    refine T_exit rfl (cG (T_frzcellG 2 1 1 rfl rfl rfl (by decide) (frzM (q := fun _ => True) (M := jnS0 z S js) (tab_len _ _).symm) (cU (ro rfl (op_ldBA A_30 Z_30 (Ht rfl) (i := 2) rfl rfl rfl) (R_stA Z_30 (Ht rfl) (Ht rfl) rfl (i := 0) rfl (Nat.le_of_ble_eq_true rfl) rfl rfl (ro rfl (bY (cZ 0)) (R_nil (T_ret2 rfl (rv_to (rv_cell A_30 Z_30 rfl (i := 0) rfl rfl) ?_) (rv_to (rv_tmp rfl) ?_)))))))))
    ·exact (fun v V h => by rw [jnZ, jnS, okL, okL, he, if_neg h4, if_neg h4]; exact h)
    ·exact (int_of he.symm)
end
section
open Go Go.RowKit
set_option maxHeartbeats 4000000 in
set_option maxRecDepth 20000 in
theorem c_NetworkJoin {a b : Nat} {zl sl zm sm : List Rt} {js : List (Int × Int)} (ha : a < 256) (hb : b < 256) : Fun Tryz.prog 14 [PartT a zl sl, PartT b zm sm, JsT js] (BoolT true) := by
 refine Fun.intro Tryz.func14 rfl Tryz.ntmps14 rfl (fun cx => (ts (rn rfl (new_box (Ht rfl)) fun B3 => (rn rfl (new_box (Ht rfl)) fun B4 => (ro rfl (bY cJ) (R_nil (cG (ts (rm rfl (ro rfl (dW U_102 (Ht rfl) len_map) (ro rfl (op_gtrN (Ht rfl) (cZ 5)) (R_nil (cY (Ht rfl) (fun hb0 => ?_) (fun hb0 => ?_))))))))))))))
 ·refine ts (ro rfl (cX Tryz.call27 c_awake4 trivial) (ra rfl (R_nil ?_)))
  exact T_ret1 rfl (rv_tmp rfl)
 ·have hw : js.length ≤ 5 := by simp only [decide_eq_false_iff_not] at hb0; omega
  obtain ⟨h1, h8, hsh, hp⟩ := netErr_ok (pl_err a zl sl)
  obtain ⟨h1b, h8b, hshb, hpb⟩ := netErr_ok (pl_err b zm sm)
  have hn : plN a ≤ 4 := by unfold plN; omega
  have hn2 : plN b ≤ 4 := by unfold plN; omega
  have hzl : ((plZ a zl).map Rt.q).length ≤ 4 := by rw [List.length_map, plZ, tab_len]; exact hn
  have hzl2 : ((plZ b zm).map Rt.q).length ≤ 4 := by rw [List.length_map, plZ, tab_len]; exact hn2
  obtain ⟨z1, hz1⟩ : ∃ z1, z1 = ((plZ a zl).map Rt.q) := ⟨_, rfl⟩
  obtain ⟨z2, hz2⟩ : ∃ z2, z2 = ((plZ b zm).map Rt.q) := ⟨_, rfl⟩
  obtain ⟨s1, hs1⟩ : ∃ s1, s1 = (rq (plS a sl)) := ⟨_, rfl⟩
  obtain ⟨s2, hs2⟩ : ∃ s2, s2 = (rq (plS b sm)) := ⟨_, rfl⟩
  have f1 : FitL z1 2 := by rw [hz1]; exact FitL.rt
  have f2 : FitL z2 2 := by rw [hz2]; exact FitL.rt
  have f3 : FitM s1 2 := by rw [hs1]; exact FitM.rt
  have f4 : FitM s2 2 := by rw [hs2]; exact FitM.rt
  have hB1 := c_Build (a := a) (zl := zl) (sl := sl) ha
  have hB2 := c_Build (a := b) (zl := zm) (sl := sm) hb
  rw [← hz1] at h1 h8 hsh hzl
  rw [← hs1] at hsh
  rw [← hz2] at h1b h8b hshb hzl2
  rw [← hs2] at hshb
  rw [← hz1, ← hs1] at hB1
  rw [← hz2, ← hs2] at hB2
  have hk := stk_ok (x := z1.length) (y := z2.length) (by omega)
  obtain ⟨hS, hSl⟩ := stk_shp z1 z2 s1 s2
  have hZ : stkZ z1 z2 = z1 ++ z2 := by rw [stkZ, hk]; rfl
  have hZl : (stkZ z1 z2).length = z1.length + z2.length := by rw [hZ, List.length_append]
  have g1 := stk_fitZ f1 f2
  have g2 := stk_fitS (z := z1) (zb := z2) f3 f4 (by decide)
  obtain ⟨z3, hz3⟩ : ∃ z3, z3 = stkZ z1 z2 := ⟨_, rfl⟩
  obtain ⟨s3, hs3⟩ : ∃ s3, s3 = stkS z1 z2 s1 s2 := ⟨_, rfl⟩
  have hcs : Fun Tryz.prog 47 [NetT z1 s1, NetT z2 s2] (TupT [NetT z3 s3, IntT .i64 0]) := by
   have h := c_Stack (z := z1) (zb := z2) hsh hshb (by omega) (by omega)
   rw [← hz3, ← hs3, hk] at h; exact h
  have hcr : Fun Tryz.prog 48 [RNetT z1 s1, RNetT z2 s2] (TupT [RNetT z3 s3, IntT .i64 0]) := by
   have h := c_rStack (z := z1) (zb := z2) hsh hshb h1 h1b (by omega) (by omega)
   rw [← hz3, ← hs3, hk] at h; exact h
  rw [← hz3] at hS hZl g1
  rw [← hs3] at hS g2
  have hz8 : z3.length ≤ 8 := by omega
  have hg : ∀ k, 2 * k < z3.length → 6 * grow (2 + 2) (2 * k) + 4 ≤ 17592186044415 := fun k hk => Nat.le_trans (Nat.add_le_add_right (Nat.mul_le_mul_left 6 (grow_mono _ (show 2 * k ≤ 7 by omega))) 4) (by decide)
  have hx : ∀ k, 2 * k < z3.length → xgr (grow (2 + 2) (2 * k)) (2 * k + 1) ≤ 100000000000 := fun k hk => Nat.le_trans (Nat.le_trans (xgr_monoL (grow_mono _ (show 2 * k ≤ 6 by omega)) _) (xgr_mono _ (show 2 * k + 1 ≤ 7 by omega))) (by decide)
  have hK : jeE z3 js = 0 → 2 * js.length ≤ 6 := fun h => by
   obtain ⟨q1, q2⟩ := je_zero h
   have := jn_le q1
   omega
  have g3 : FitM (jnS z3 s3 js) 900000000000 := jnS_fit (L := 2) (G := 400000000) g2 (by decide) (fun h => Nat.le_trans (Nat.le_trans (xgr_monoL (grow_mono _ (hK h)) _) (xgr_mono _ (hK h))) (by decide)) (fun m hm h => by
   have := hK h
   have : m * (2 * 400000000 + 2) ≤ 6 * (2 * 400000000 + 2) := Nat.mul_le_mul_right _ (by omega)
   omega)
  have g4 : FitL (jnZ z3 s3 js) 900000000000 := jnZ_fit (L := 2) g1 (by decide) (by decide)
  obtain ⟨hT, hTl⟩ := jn_shp (js := js) hS
  refine cK (ts (ro rfl (op_ldBA Tryz.isAgg24 Tryz.sizeOf24 (Ht rfl) (i := 0) rfl rfl rfl) (ro rfl (cX Tryz.call15 hB1 ⟨(Ht rfl), trivial⟩) (rm rfl (ro rfl (dG (Ht rfl) rfl) (ro rfl (dG (Ht rfl) rfl) (ro rfl (dG (Ht rfl) rfl) (rn rfl (new_alloc (Ts := [Is (.slice none 0 0), Is (.slice none 0 0)]) O_30 rfl (fun V => aW ⟨rfl, trivial⟩ (aW ⟨rfl, trivial⟩ (aG)))) fun B7 => (rn rfl (new_alloc (Ts := [Is (.slice none 0 0), Is (.slice none 0 0)]) O_34 rfl (fun V => aW ⟨rfl, trivial⟩ (aW ⟨rfl, trivial⟩ (aG)))) fun B8 => ?_)))))))))
  refine R_stA Z_30 (Ht rfl) (Ht rfl) rfl (i := 2) rfl (Nat.le_of_ble_eq_true rfl) rfl rfl (R_stA Z_34 (Ht rfl) (Ht rfl) rfl (i := 3) rfl (Nat.le_of_ble_eq_true rfl) rfl rfl (ra rfl (R_nil (ts (ro rfl (op_ldBA Tryz.isAgg24 Tryz.sizeOf24 (Ht rfl) (i := 1) rfl rfl rfl) (ro rfl (cX Tryz.call15 hB2 ⟨(Ht rfl), trivial⟩) (rm rfl (ro rfl (dG (Ht rfl) rfl) (ro rfl (dG (Ht rfl) rfl) (ro rfl (dG (Ht rfl) rfl) (rn rfl (new_alloc (Ts := [Is (.slice none 0 0), Is (.slice none 0 0)]) O_30 rfl (fun V => aW ⟨rfl, trivial⟩ (aW ⟨rfl, trivial⟩ (aG)))) fun B10 => ?_)))))))))))
  refine rn rfl (new_alloc (Ts := [Is (.slice none 0 0), Is (.slice none 0 0)]) O_34 rfl (fun V => aW ⟨rfl, trivial⟩ (aW ⟨rfl, trivial⟩ (aG)))) fun B11 => R_stA Z_30 (Ht rfl) (Ht rfl) rfl (i := 4) rfl (Nat.le_of_ble_eq_true rfl) rfl rfl (R_stA Z_34 (Ht rfl) (Ht rfl) rfl (i := 5) rfl (Nat.le_of_ble_eq_true rfl) rfl rfl (ra rfl (R_nil (cG (ts (rm rfl (ro rfl (op_not (Ht rfl)) (rm rfl (R_step rfl rfl (S_when rfl rfl (Ht rfl) (fun h => cQ (Ht rfl))) (R_step rfl rfl (S_when rfl rfl (Ht rfl) (fun h => op_not (Has.w rfl h))) (ro rfl (op_or (Ht rfl) (fun h => (Has.w rfl h))) ?_)))))))))))
  refine R_nil (T_condF (Ht rfl) (by rfl) ?_)
  refine cK (ts (ro rfl (op_ldBA A_30 Z_30 (Ht rfl) (i := 2) rfl rfl rfl) (ro rfl (op_ldBA A_30 Z_30 (Ht rfl) (i := 4) rfl rfl rfl) (ro rfl (cX Tryz.call47 hcs ⟨(Ht rfl), (Ht rfl), trivial⟩) (rm rfl (ro rfl (dG (Ht rfl) rfl) (ro rfl (dG (Ht rfl) rfl) (rn rfl (new_alloc (Ts := [Is (.slice none 0 0), Is (.slice none 0 0)]) O_30 rfl (fun V => aW ⟨rfl, trivial⟩ (aW ⟨rfl, trivial⟩ (aG)))) fun B13 => (R_stA Z_30 (Ht rfl) (Ht rfl) rfl (i := 6) rfl (Nat.le_of_ble_eq_true rfl) rfl rfl (ra rfl ?_))))))))))
  refine R_nil (ts (ro rfl (op_ldBA A_34 Z_34 (Ht rfl) (i := 3) rfl rfl rfl) (ro rfl (op_ldBA A_34 Z_34 (Ht rfl) (i := 5) rfl rfl rfl) (ro rfl (cX Tryz.call48 hcr ⟨(Ht rfl), (Ht rfl), trivial⟩) (rm rfl (ro rfl (dG (Ht rfl) rfl) (ro rfl (dG (Ht rfl) rfl) (rn rfl (new_alloc (Ts := [Is (.slice none 0 0), Is (.slice none 0 0)]) O_34 rfl (fun V => aW ⟨rfl, trivial⟩ (aW ⟨rfl, trivial⟩ (aG)))) fun B15 => (R_stA Z_34 (Ht rfl) (Ht rfl) rfl (i := 7) rfl (Nat.le_of_ble_eq_true rfl) rfl rfl (ra rfl ?_))))))))))
  refine R_nil (cG (T_keep [0, 1, 2, 3, 4, 5, 6, 7] rfl (by decide) (cU (ro rfl (op_ldBA A_30 Z_30 (Ht rfl) (i := 6) rfl rfl rfl) (rm rfl (ro rfl (cX Tryz.call78 (c_Join (z := z3) (S := s3) (js := js) (L := 2) hS g2 g1 (by decide) (by decide) (by omega) (by omega) hg hx) ⟨(Ht rfl), (Ht rfl), trivial⟩) (rm rfl (ro rfl (dG (Ht rfl) rfl) (ro rfl (dG (Ht rfl) rfl) (rn rfl (new_alloc (Ts := [Is (.slice none 0 0), Is (.slice none 0 0)]) O_30 rfl (fun V => aW ⟨rfl, trivial⟩ (aW ⟨rfl, trivial⟩ (aG)))) fun B17 => ?_))))))))))
  refine R_stA Z_30 (Ht rfl) (Ht rfl) rfl (i := 8) rfl (Nat.le_of_ble_eq_true rfl) rfl rfl (ra rfl (R_nil (ts (ro rfl (op_ldBA A_34 Z_34 (Ht rfl) (i := 7) rfl rfl rfl) (rm rfl (ro rfl (cX Tryz.call79 (c_rJoin (z := z3) (S := s3) (js := js) (L := 2) hS g2 g1 (by decide) (by decide) (by omega) (by omega) (by omega)) ⟨(Ht rfl), (Ht rfl), trivial⟩) (rm rfl (ro rfl (dG (Ht rfl) rfl) (ro rfl (dG (Ht rfl) rfl) (rn rfl (new_alloc (Ts := [Is (.slice none 0 0), Is (.slice none 0 0)]) O_34 rfl (fun V => aW ⟨rfl, trivial⟩ (aW ⟨rfl, trivial⟩ (aG)))) fun B19 => ?_))))))))))
  refine R_stA Z_34 (Ht rfl) (Ht rfl) rfl (i := 9) rfl (Nat.le_of_ble_eq_true rfl) rfl rfl (ra rfl (R_nil (cG (T_keep [0, 1, 2, 3, 4, 5, 6, 7, 8, 9] rfl (by decide) (cU (ro rfl (op_ldBA A_30 Z_30 (Ht rfl) (i := 8) rfl rfl rfl) (rm rfl (ro rfl (op_ldBA A_34 Z_34 (Ht rfl) (i := 9) rfl rfl rfl) (rm rfl (ro rfl (cX Tryz.call24 (c_ans4 g4 g3 (by decide) (by decide) hT (by omega)) ⟨(Ht rfl), (Ht rfl), (Ht rfl), (Ht rfl), trivial⟩) (rm rfl (R_step rfl rfl (S_when rfl rfl (Ht rfl) (fun h => cX Tryz.call27 c_awake4 trivial)) (ro rfl (op_and (Ht rfl) (fun h => (Has.w rfl h))) ?_)))))))))))))
  refine ra rfl (R_nil (T_ret1 rfl (rv_to (rv_tmp rfl) ?_)))
  exact (bool_of (by simp))
end
section
open Go Go.ChangeShapes Go.WideShapes Go.ChangeAt Go.RowKit Go.Deep
section
variable {H : Type} {enc : TypeId × Value → H} {W : World} {base : Nat} {sp : Nat → Bool} {held : Bool}
set_option maxRecDepth 100000 in
theorem s125 : S3 Tryz.prog 24 5 22 22 := ⟨⟨_, _, _, Tryz.underlying24, rfl, rfl, rfl, rfl, rfl, rfl⟩, by kernel_rfl, by kernel_rfl, by kernel_rfl, by kernel_rfl⟩
set_option maxRecDepth 100000 in
theorem trod_partT {b0 : Nat} {v : Value} {d : DataW H} {p : List MemPlace} (ho : Value.okWide Tryz.prog W .any b0 24 v) (h : DataW.Trod enc Tryz.prog W base sp held 24 v d p) : ∃ (a : Nat) (zl sl : List Rt), (AggT [NT .u8 a, RatsT zl, RatsT sl]).p v (hv W) ∧ a < 256 := by
  obtain ⟨cs, rfl, _⟩ := okWide_struct Tryz.underlying24 ho
  obtain ⟨n, hn⟩ := h
  obtain ⟨x0, x1, x2, m, y0, y1, y2, hcs, h0, h1, h2⟩ := s125.open hn
  obtain ⟨i, e0, _, w⟩ := DataW.trod_int Tryz.underlying5 h0
  obtain ⟨v1, z, e1, k1⟩ := open_rats h1
  obtain ⟨v2, s, e2, k2⟩ := open_rats h2
  simp only [List.cons.injEq, and_true] at e0 e1 e2
  subst e0 e1 e2
  have hw := wf_u8 w
  have e : ((i.toNat : Nat) : Int) = i := by omega
  have hi : ∀ V, (NT .u8 i.toNat).p (.int .u8 i) V := fun V => by rw [show NT .u8 i.toNat = IntT .u8 i from congrArg (IntT .u8) e]; rfl
  have hcs2 : cs.toList = [.int .u8 i, x1, x2] := hcs
  exact ⟨i.toNat, z, s, ⟨cs.toList, rfl, by rw [hcs2]; exact aW ⟨hi _, trivial⟩ (aW ⟨k1, (sl_cells k1).2⟩ (aW ⟨k2, (sl_cells k2).2⟩ aG))⟩, by omega⟩
end
end
section
open Go Go.ChangeShapes Go.WideShapes Go.ChangeAt Go.RowKit Go.Deep
section
variable {H : Type} {enc : TypeId × Value → H} {W : World} {base : Nat} {sp : Nat → Bool} {held : Bool}
set_option maxRecDepth 100000 in
theorem open_pr {n : Nat} {cs : List Value} {y : DataW H × List MemPlace} (h : DataW.trod enc Tryz.prog W base sp held n 169 cs = some y) : ∃ (q : Int × Int) (x : Value), x.cells.toList = cs ∧ (JT q).p x (hv W) := by
  obtain ⟨xs, m, _, _, hl, hx, he⟩ := DataW.trod_array Tryz.underlying169 h
  have hc : Tryz.prog.cellsOf 169 = 2 := by kernel_rfl
  have hi : Tryz.prog.cellsOf 3 = 1 := by kernel_rfl
  rw [hc] at hl
  match cs, hl with
  | [c0, c1], _ =>
    match xs, hx with
    | [y0, y1], _ =>
      have e0 := he 0 (by omega)
      have e1 := he 1 (by omega)
      rw [hi] at e0 e1
      obtain ⟨i0, q0, _, _⟩ := DataW.trod_int Tryz.underlying3 (show DataW.trod enc Tryz.prog W base sp held m 3 [c0] = some y0 from e0)
      obtain ⟨i1, q1, _, _⟩ := DataW.trod_int Tryz.underlying3 (show DataW.trod enc Tryz.prog W base sp held m 3 [c1] = some y1 from e1)
      simp only [List.cons.injEq, and_true] at q0 q1
      subst q0 q1
      exact ⟨(i0, i1), .agg #[.int .i64 i0, .int .i64 i1], rfl, [.int .i64 i0, .int .i64 i1], rfl, aW ⟨rfl, trivial⟩ (aW ⟨rfl, trivial⟩ aG)⟩
set_option maxRecDepth 100000 in
theorem open_prs {n : Nat} {cs : List Value} {y : DataW H × List MemPlace} (h : DataW.trod enc Tryz.prog W base sp held n 102 cs = some y) : ∃ (v : Value) (l : List (Int × Int)), cs = [v] ∧ (JsT l).p v (hv W) :=
  open_sl (F := JT) Tryz.underlying102 (by kernel_rfl) (by decide) (fun n cs y h => open_pr h) h
set_option maxRecDepth 100000 in
theorem trod_prsT {b0 : Nat} {v : Value} {d : DataW H} {p : List MemPlace} (ho : Value.okWide Tryz.prog W .any b0 102 v) (h : DataW.Trod enc Tryz.prog W base sp held 102 v d p) : ∃ l : List (Int × Int), (JsT l).p v (hv W) := by
  obtain ⟨a, n, k, rfl⟩ := okWide_slice Tryz.underlying102 ho
  obtain ⟨m, hm⟩ := h
  obtain ⟨v, l, e, hl⟩ := open_prs hm
  have : [Value.slice a n k] = [v] := e
  simp only [List.cons.injEq, and_true] at this
  subst this
  exact ⟨l, hl⟩
end
end
end Go.Proofs.YtbnpmobaglfcbaaGreat
