/- What functions of the program compute, proved by walks over their code, and the plain mathematics of it; a part of the proof in the last text. -/
import Derived.Test.YteimkhgiekndjaaGreatP04
set_option linter.unusedVariables false
set_option linter.unusedSimpArgs false
set_option maxRecDepth 100000
set_option maxHeartbeats 4000000
namespace Go.Proofs.YteimkhgiekndjaaGreat
section
open Go Go.RowKit
abbrev gnI (G : List Nat) : List Int := G.map fun (q : Nat) => (q : Int) + 1
def lfG (G : List Nat) : Nat → List Nat
 | 0 => []
 | k + 1 => lfG G k ++ (if k ∈ G then [] else [k])
theorem lfG_len (G : List Nat) : ∀ k, (lfG G k).length ≤ k
 | 0 => Nat.le_refl _
 | k + 1 => by
  have := lfG_len G k
  simp only [lfG, List.length_append]
  split
  ·simp; omega
  ·simp; omega
theorem lfG_lt {G : List Nat} : ∀ {k x : Nat}, x ∈ lfG G k → x < k
 | 0, x, h => by cases h
 | k + 1, x, h => by
  rcases List.mem_append.1 h with h1 | h1
  ·have := lfG_lt h1; omega
  ·split at h1
   ·cases h1
   ·have := List.mem_singleton.1 h1; omega
theorem lfG_one {p : Nat} : ∀ {k : Nat}, lfG [p] k = tab (cnt p k) (skp p)
 | 0 => by rw [lfG, show cnt p 0 = 0 by unfold cnt; split <;> omega]; rfl
 | k + 1 => by
  rw [lfG, lfG_one]
  by_cases c : k = p
  ·subst c
   rw [if_pos (by simp), List.append_nil, show cnt k (k + 1) = cnt k k by unfold cnt; split <;> split <;> omega]
  ·rw [if_neg (by simpa using c)]
   have e1 : skp p (cnt p k) = k := by unfold skp cnt; split <;> split <;> omega
   have e2 : cnt p (k + 1) = cnt p k + 1 := by unfold cnt; split <;> split <;> omega
   rw [e2, tab_succ, e1]
theorem lfG_lft {p n : Nat} (h : p < n) : (lfG [p] n).map Nat.succ = lftL p (n - 1) := by rw [lfG_one, cnt_fin h, tab_map]; rfl
theorem gn_any {G : List Nat} {i : Nat} : ((gnI G).any fun x => decide (((i + 1 : Nat) : Int) = x)) = decide (i ∈ G) := by
 rw [Bool.eq_iff_iff]
 simp only [gnI, List.any_map, List.any_eq_true, Function.comp, decide_eq_true_eq]
 constructor
 ·rintro ⟨q, h1, h2⟩
  obtain rfl : i = q := by omega
  exact h1
 ·intro h; exact ⟨i, h, by omega⟩
abbrev qat (Q : List Nat) (i : Nat) : Nat := Q.getD i 0
def subZ (z : List Qi) (Q : List Nat) : List Qi := tab Q.length fun i => gv z (qat Q i)
def subM (s : List (List Qi)) (Q : List Nat) : List (List Qi) := tab Q.length fun i => tab Q.length fun j => gm s (qat Q i) (qat Q j)
theorem qat_lt {Q : List Nat} {n i : Nat} (h : ∀ x, x ∈ Q → x < n) (hi : i < Q.length) : qat Q i < n := h _ (by rw [show qat Q i = Q[i] by simp [qat, List.getD, hi]]; exact List.getElem_mem hi)
theorem suc_get {Q : List Nat} {i : Nat} (h : i < Q.length) : (Q.map Nat.succ)[i]? = some (qat Q i + 1) := by simp [qat, List.getD, h]
theorem tabQ_get {m i : Nat} {p : Nat} (h : i < m) : qat (tab m (skp p)) i = skp p i := tab_getD h
theorem subZ_skp (z : List Qi) (p m : Nat) : subZ z (tab m (skp p)) = prtZ z p m := by
 rw [subZ, tab_len]; exact tab_congr fun i hi => by rw [tabQ_get hi]
theorem subM_skp (s : List (List Qi)) (p m : Nat) : subM s (tab m (skp p)) = prtS s p m := by
 rw [subM, tab_len]; exact tab_congr fun i hi => tab_congr fun j hj => by rw [tabQ_get hi, tabQ_get hj]
theorem skp_all {p m n : Nat} (hp : p < n) (hm : m = n - 1) : ∀ x, x ∈ tab m (skp p) → x < n := fun x hx => by
 obtain ⟨i, hi, rfl⟩ := tab_mem.1 hx; exact skp_lt (by omega) hp
theorem lft_skp (p m : Nat) : (tab m (skp p)).map Nat.succ = lftL p m := by rw [tab_map]; rfl
end
section
open Go Go.RowKit
theorem info_3 : Tryz.prog.info? 3 = some Tryz.t3 := by kernel_rfl
theorem und_69 : Tryz.prog.underlying 69 = some (.slice 3) := by kernel_rfl
end
section
open Go Go.RowKit
theorem c_IndexInt {l : List Int} {v : Int} (hl : l.length ≤ 1000000) : Fun Tryz.prog 242 [SlT 1 (l.map (IntT .i64)), IntT .i64 v] (IntT .i64 (idxZ (fun x => decide (v = x)) l)) := by
 refine Fun.intro Tryz.func242 rfl Tryz.ntmps242 rfl (fun cx => (ts (ro rfl (cQ (cJ 0)) (eX (cK (ts (rm rfl (ro rfl (dG U_69 (Ht rfl) len_map) (ro rfl (cX (cJ 0)) (eX (eG ?_)))))))))))
 refine T_loop (fun (k : Nat) => k ≤ l.length ∧ ∀ (i : Nat) (x : Int), i < k → l[i]? = some x → decide (v = x) = false) (fun (k : Nat) => l.length - k) (fun (k : Nat) => [(0, SlT 1 (l.map (IntT .i64))), (1, IntT .i64 v), (7, NT .i64 l.length), (8, NT .i64 k)]) (fun (k : Nat) => []) 0 ⟨Nat.zero_le _, fun i x h => by omega⟩
  (aQ rfl (aQ rfl (aQ rfl (aQ rfl aX)))) aY (fun k ⟨hk, hn⟩ => ?_)
 refine ts (ro rfl (gX (Ht rfl) (Ht rfl)) (eX (cK (dQ (Ht rfl) (fun hb => ?_) (fun hb => ?_)))))
 ·simp only [decide_eq_true_eq] at hb
  refine cU (cK (eG (ts (rm rfl (ra rfl (eX (ts (rm rfl (rm rfl (rm rfl (ro rfl (dZ U_69 Z_3 (Ht rfl) (Ht rfl) rfl (dY (getq hb))) (ro rfl (dJ A_3 Z_3 (Ht rfl)) (ro rfl (op_eql (Ht rfl) (Ht rfl)) (eX (dQ (Ht rfl) (fun hc => ?_) (fun hc => ?_))))))))))))))))
  ·refine ts (rm rfl (ra rfl (eX (fW rfl (fX (eU rfl) ?_)))))
   exact (int_of (idxZ_at (p := fun x => decide (v = x)) (getq hb) hc hn).symm)
  ·refine cU (T_blk (cY (ro rfl (dV (Ht rfl) (cJ 1) (by show _ < 9223372036854775808; first | omega | (simp only [lim]; omega))) (rm rfl (eX ?_)))))
   refine fU (k + 1) ⟨hb, fun i x h1 h2 => by
    by_cases e : i = k
    ·subst e; rw [getq hb] at h2; obtain rfl := Option.some.inj h2; exact hc
    ·exact hn i x (by omega) h2⟩ (by omega) (aQ rfl (aQ rfl (aQ rfl (aQ rfl aX)))) aY
 ·simp only [decide_eq_false_iff_not] at hb
  refine gV rfl (ts (ro rfl (cQ cV) (eX (fW rfl (fX (eU rfl) ?_)))))
  exact (int_of (idxZ_none (p := fun x => decide (v = x)) (fun i x h => hn i x (by have := (List.getElem?_eq_some_iff.1 h).1; omega) h)).symm)
theorem c_ContainsInt {l : List Int} {v : Int} (hl : l.length ≤ 1000000) : Fun Tryz.prog 178 [SlT 1 (l.map (IntT .i64)), IntT .i64 v] (BoolT (l.any fun x => decide (v = x))) := by
 refine Fun.intro Tryz.func178 rfl Tryz.ntmps178 rfl (fun cx => (ts (ro rfl (cQ cV) (eX (ts (rm rfl (rm rfl (ro rfl (cZ Tryz.call242 (c_IndexInt (by omega)) ⟨(Ht rfl), (Ht rfl), trivial⟩) (ro rfl (op_geq (Ht rfl) cV) (ra rfl (eX (fW rfl (fX (eU rfl) ?_)))))))))))))
 exact (bool_of (idxZ_any _ l))
theorem c_leftG {z : List Qi} {s : List (List Qi)} {G : List Nat} (hl : z.length ≤ 1000) (hG : G.length ≤ 1000) : Fun Tryz.prog 112 [NetT z s, SlT 1 ((gnI G).map (IntT .i64))] (IntsT ((lfG G z.length).map Nat.succ)) := by
 refine Fun.intro Tryz.func112 rfl Tryz.ntmps112 rfl (fun cx => (ts (rn rfl (fG (Ht rfl)) fun B2 => (ro rfl (cQ cV) (eX (ts (ro rfl (cQ cV) (eX (cK (ts (ro rfl (cQ (cJ 1)) (eX (eG (T_row 3 1 ?_))))))))))))))
 refine T_loop2 (fun (i : Nat) (v : Value) => i ≤ z.length) (fun (i : Nat) (v : Value) => z.length - i) (fun (i : Nat) (v : Value) => [(1, SlT 1 ((gnI G).map (IntT .i64))), (2, PtrB B2 0), (5, Is v), (6, NT .i64 (i + 1))]) (fun (i : Nat) (v : Value) => [box B2 30 [NumsT z, NumM s], rowO 3 1 v (((lfG G i).map Nat.succ).map (NT .i64))]) 0 (.slice none 0 0) (Nat.zero_le _)
  (aQ rfl (aQ rfl (aQ rfl (aQ rfl aX)))) (aU (box_of rfl) (aU (rowO_of rfl) aY)) (fun i v hi => ?_)
 refine cK (ts (rm rfl (ro rfl (eZ fa_30_0 (Ht rfl) rfl) (ro rfl (eY A_27 Z_27 (Ht rfl) (i := 0) rfl rfl) (ro rfl (dG U_27 (Ht rfl) len_map) (ro rfl (op_leqN (Ht rfl) (Ht rfl)) (eX (dQ (Ht rfl) (fun hd => ?_) (fun hd => ?_)))))))))
 ·simp only [decide_eq_true_eq] at hd
  have hcl := lfG_len G i
  refine cU (cK (eG (T_join (fun (v2 : Value) => True) (fun (v2 : Value) => [(1, SlT 1 ((gnI G).map (IntT .i64))), (2, PtrB B2 0), (5, Is v2), (6, NT .i64 (i + 1))]) (fun (v2 : Value) => [box B2 30 [NumsT z, NumM s], rowO 3 1 v2 (((lfG G (i + 1)).map Nat.succ).map (NT .i64))]) ?_ (fun v2 _ => ?_))))
  ·refine ts (rm rfl (rm rfl (ro rfl (cZ Tryz.call178 (c_ContainsInt (l := gnI G) (v := ((i + 1 : Nat) : Int)) (by rw [List.length_map]; omega)) ⟨(Ht rfl), (Ht rfl), trivial⟩) ?_)))
   refine ro rfl (op_not (Ht rfl)) (eX (dQ (Ht rfl) (fun he => ?_) (fun he => ?_)))
   ·rw [gn_any] at he
    have he2 : i ∉ G := by simpa using he
    have hnx : lfG G (i + 1) = lfG G i ++ [i] := by rw [lfG, if_neg he2]
    refine cY (rm rfl (rm rfl (ro rfl (op_bslice (xs := [.tmp 19]) U_69 Z_3 O_3 (cW (Ht rfl) cG) rfl rfl rfl) (R_append (inf := Tryz.t3) und_69 info_3 rfl rfl rfl (Ht rfl) (Ht rfl) (i := 1) rfl (by simp) (fun T hT => by simp at hT; subst hT; exact El.one) (by show _ * 8 ≤ _; simp only [List.length_map, List.length_cons, List.length_nil]; omega) (by simp only [List.length_map, List.length_cons, List.length_nil]; omega) rfl (fun v3 => ?_)))))
    refine ra rfl (eX (T_joined v3 trivial (aQ rfl (aQ rfl (aQ rfl (aQ rfl aX)))) (aU (box_of rfl) (aU (rowO_of (by rw [hnx, List.map_append, List.map_append]; rfl)) aY))))
   ·rw [gn_any] at he
    have he2 : i ∈ G := by simpa using he
    have hnx : lfG G (i + 1) = lfG G i := by rw [lfG, if_pos he2, List.append_nil]
    refine cU (T_joined v trivial (aQ rfl (aQ rfl (aQ rfl (aQ rfl aX)))) (aU (box_of rfl) (aU (rowO_of (by rw [hnx])) aY)))
  ·refine T_blk (cY (rm rfl (ro rfl (dV (Ht rfl) (cJ 1) (by show _ < 9223372036854775808; first | omega | (simp only [lim]; omega))) (ra rfl (eX (fU (i + 1, v2) hd (by dsimp only; omega) (aQ rfl (aQ rfl (aQ rfl (aQ rfl aX)))) (HSub.refl _)))))))
 ·simp only [decide_eq_false_iff_not] at hd
  obtain rfl : z.length = i := Nat.le_antisymm (by omega) hi
  refine gV rfl (gJ (i := 1) (tt := 5) rfl rfl frz_row (ts (rm rfl (ra rfl (eX ?_)))))
  exact fW rfl (eU rfl)
theorem c_left {z : List Qi} {s : List (List Qi)} {p : Nat} (hp : p < z.length) (hl : z.length ≤ 1000) : Fun Tryz.prog 112 [NetT z s, SlT 1 [IntT .i64 ((p : Int) + 1)]] (IntsT (lftL p (z.length - 1))) := by
 rw [← lfG_lft hp]; exact c_leftG (G := [p]) hl (by simp)
theorem c_part1 {z : List Qi} {s : List (List Qi)} {Q : List Nat} {m : Nat} (hs : Shp s z.length z.length) (hQ : ∀ x, x ∈ Q → x < z.length) (hm : Q.length = m) (hm2 : m ≤ 1000) (hl : z.length ≤ 1000) {i j : Nat} (hi : i < m) (hj : j < m) : Fun Tryz.prog 210 [NT .i64 i, NT .i64 j, PT (NetT z s), PT (IntsT (Q.map Nat.succ))] (NumT (gm s (qat Q i) (qat Q j))) := by
 have hki : qat Q i < z.length := qat_lt hQ (by omega)
 have hkj : qat Q j < z.length := qat_lt hQ (by omega)
 have hsl := hs.1
 have hsr := hs.row hki
 refine Fun.intro Tryz.func210 rfl Tryz.ntmps210 rfl (fun cx => (ts (rn rfl (eW (Ts := [Is (.bool false), Is (.slice none 0 0), Is (.bool false), Is (.slice none 0 0), Is (.slice none 0 0)]) O_45 rfl (fun V => aW ⟨rfl, trivial⟩ (aW ⟨rfl, trivial⟩ (aW ⟨rfl, trivial⟩ (aW ⟨rfl, trivial⟩ (aW ⟨rfl, trivial⟩ (aG))))))) fun B6 => (eX (cK (fZ (m := 14) (dp 2 rfl (op_fld1 fa_30_1 (Ht rfl) rfl) (dq 7 0 rfl (dJ A_28 Z_28 (Ht rfl)) (dp 3 rfl (dJ A_69 Z_69 (Ht rfl)) (dp 0 rfl (cX (Ht rfl)) ?_))))))))))
 refine dqq 9 2 10 3 rfl (dZ U_69 Z_3 (Ht rfl) (Ht rfl) rfl (dY (suc_get (by omega)))) (dq 11 4 rfl (dJ A_3 Z_3 (Ht rfl)) (dq 12 5 rfl (OpTy.nat (dW (Ht rfl) (cJ 1) (by omega) (by show _ < 9223372036854775808; first | omega | (simp only [lim]; omega))) (show qat Q i + 1 - 1 = qat Q i by omega)) (dqq 8 1 13 6 rfl (dZ U_28 Z_27 (Ht rfl) (Ht rfl) rfl (dY (dU (d := []) (by omega)))) (dq 14 7 rfl (dJ A_27 Z_27 (Ht rfl)) (dp 3 rfl (dJ A_69 Z_69 (Ht rfl)) ?_)))))
 refine dp 1 rfl (cX (Ht rfl)) (dqq 16 9 17 10 rfl (dZ U_69 Z_3 (Ht rfl) (Ht rfl) rfl (dY (suc_get (by omega)))) (dq 18 11 rfl (dJ A_3 Z_3 (Ht rfl)) (dq 19 12 rfl (OpTy.nat (dW (Ht rfl) (cJ 1) (by omega) (by show _ < 9223372036854775808; first | omega | (simp only [lim]; omega))) (show qat Q j + 1 - 1 = qat Q j by omega)) (fV mixed rfl (by kernel_rfl) (aJ (aJ (aJ (aJ (aJ (aJ (aJ (aJ (aJ (aJ (aJ (aJ (aJ (aJ (aV (ro rfl (dZ U_27 Z_45 (Ht rfl) (Ht rfl) rfl (dY (dU (d := Qi.zero) (by omega)))) ?_))))))))))))))))))))
 refine ro rfl (dJ A_45 Z_45 (Ht rfl)) (gQ Z_45 (Ht rfl) (Ht rfl) rfl (i := 0) rfl (aK rfl) rfl rfl (eX ?_))
 exact fW rfl (fK A_45 Z_45 rfl (i := 0) rfl rfl)
theorem c_partG {z : List Qi} {s : List (List Qi)} {Q : List Nat} {m : Nat} (hs : Shp s z.length z.length) (hQ : ∀ x, x ∈ Q → x < z.length) (hm : Q.length = m) (hm2 : m ≤ 1000) (hl : z.length ≤ 1000) : FunO Tryz.prog 111 [NetT z s, IntsT (Q.map Nat.succ)] [] (Nat) (fun B => AggT [NumsT (subZ z Q), Is (.slice (some ⟨B, 0, none⟩) m m)]) (fun B => [matO B 27 45 5 (FRow NumT (subM s Q))]) (fun _ => True) := by
 have hll : (Q.map Nat.succ).length = m := by rw [List.length_map]; exact hm
 refine FunO.intro Tryz.func111 rfl Tryz.ntmps111 rfl (fun cx Z => (ts (rn rfl (fG (Ht rfl)) fun B2 => (rn rfl (new_box1 (Ht rfl)) fun B3 => (rn rfl (eW (Ts := [Is (.slice none 0 0), Is (.slice none 0 0)]) O_30 rfl (fun V => aW ⟨rfl, trivial⟩ (aW ⟨rfl, trivial⟩ (aG)))) fun B4 => (eX (cK (gJ (i := 1) (tt := 2) rfl rfl frz_ptr (gJ (i := 2) (tt := 3) rfl rfl frz_ptr1 (cY (ro rfl (dJ A_69 Z_69 (Ht rfl)) (ro rfl (dG U_69 (Ht rfl) (by rw [List.length_map, hll])) ?_))))))))))))
 refine rn rfl (new_makeO (T := NumT Qi.zero) (i := Tryz.t45) und_27 info_45 rfl rfl (Ht rfl) rfl num_zero_p (El.ag rfl) (by show 88 * _ ≤ _; omega) (by omega)) fun B10 => ra rfl (eX (cK (ts (ro rfl (dJ A_69 Z_69 (Ht rfl)) (ro rfl (dG U_69 (Ht rfl) (by rw [List.length_map, hll])) ?_)))))
 refine ro rfl (cX (cJ 0)) (eX (eG (T_keep [0, 3, 4] rfl (by decide) ?_)))
 refine T_loop (fun (i : Nat) => i ≤ m) (fun (i : Nat) => m - i) (fun (i : Nat) => [(2, PT (NetT z s)), (3, PT (IntsT (Q.map Nat.succ))), (4, PtrB B4 0), (5, Is B10), (11, IntsT (Q.map Nat.succ)), (12, NT .i64 m), (13, NT .i64 i)]) (fun (i : Nat) => [Z, box B4 30 [Is (.slice none 0 0), Is (.slice none 0 0)], rowO 45 5 B10 ((mixT (fun i => gv z (qat Q i)) Qi.zero m i).map NumT)]) 0 (Nat.zero_le _)
  (aQ rfl (aQ rfl (aQ rfl (aQ rfl (aQ rfl (aQ rfl (aQ rfl aX))))))) (aU (fun _ _ _ h => h) (aU (fun _ _ _ h => h) (aU (rowO_of (by rw [← mix_zero]; exact tab_rep NumT m)) aY))) (fun i hi => ?_)
 refine ts (ro rfl (gX (Ht rfl) (Ht rfl)) (eX (cK (dQ (Ht rfl) (fun hd => ?_) (fun hd => ?_)))))
 ·simp only [decide_eq_true_eq] at hd
  have hki : qat Q i < z.length := qat_lt hQ (by omega)
  refine cU (cK (eG (ts (rm rfl (ro rfl (dZ U_69 Z_3 (Ht rfl) (Ht rfl) rfl (dY (suc_get (by omega)))) (ro rfl (dJ A_3 Z_3 (Ht rfl)) (ra rfl (ra rfl (eX (cY (rm rfl (rm rfl (ro rfl (op_fld1 fa_30_0 (Ht rfl) rfl) (ro rfl (dJ A_27 Z_27 (Ht rfl)) (rm rfl (ro rfl (OpTy.nat (dW (Ht rfl) (cJ 1) (by omega) (by show _ < 9223372036854775808; first | omega | (simp only [lim]; omega))) (show qat Q i + 1 - 1 = qat Q i by omega)) (ro rfl (dZ U_27 Z_45 (Ht rfl) (Ht rfl) rfl (dY (dU (d := Qi.zero) hki))) ?_)))))))))))))))))
  refine ro rfl (dJ A_45 Z_45 (Ht rfl)) (ro rfl (op_idxO U_27 Z_45 (Ht rfl) (Ht rfl) rfl (i := 2) rfl (by rw [List.length_map, mix_len]; omega) rfl) ?_)
  refine R_stO Z_45 (Ht rfl) (Ht rfl) (El.ag rfl) (i := 2) rfl rfl (by rw [List.length_map, mix_len]; omega) rfl ?_
  refine eX (T_blk (cY (ro rfl (dV (Ht rfl) (cJ 1) (by show _ < 9223372036854775808; first | omega | (simp only [lim]; omega))) (rm rfl (eX (fU (i + 1) hd (by omega) (aQ rfl (aQ rfl (aQ rfl (aQ rfl (aQ rfl (aQ rfl (aQ rfl aX))))))) (aU (fun _ _ _ h => h) (aU (fun _ _ _ h => h) (aU (rowO_of (by rw [set_mapF, ← mix_set (f := (fun i => gv z (qat Q i)))])) aY)))))))))
 ·simp only [decide_eq_false_iff_not] at hd
  obtain rfl : m = i := Nat.le_antisymm (by omega) hi
  rw [mix_fin]
  refine gV rfl (gJ (i := 2) (tt := 5) rfl rfl frz_row ?_)
  rw [show subZ z Q = tab m fun i => gv z (qat Q i) from by rw [subZ, hm], show subM s Q = tab m fun i => tab m fun j => gm s (qat Q i) (qat Q j) from by rw [subM, hm]]
  refine ts (rm rfl (ro rfl (dJ A_69 Z_69 (Ht rfl)) (ro rfl (dG U_69 (Ht rfl) (by rw [List.length_map, hll])) ?_)))
  refine ro rfl (op_clos (γ := Fin m × Fin m) (Ts := fun x => [NT .i64 x.1.1, NT .i64 x.2.1]) (U := fun x => NumT (gm s (qat Q x.1.1) (qat Q x.2.1))) Tryz.call210 (fun x => c_part1 hs hQ hm hm2 hl x.1.2 x.2.2) ⟨(Ht rfl), (Ht rfl), trivial⟩) (R_call0 Tryz.call119 (c_fillO (n := m) (f := fun i j => gm s (qat Q i) (qat Q j)) (by omega)) ⟨(Ht rfl), (Ht rfl), trivial⟩ rfl (fun B32 _ => (ro rfl (bld_30_0_1 (Ht rfl) (Ht rfl)) (gQ Z_30 (Ht rfl) (Ht rfl) rfl (i := 1) rfl (aK rfl) rfl rfl (eX ?_)))))
  exact T_retO B32 trivial [0, 3] ⟨⟨_, rfl, fun _ _ _ h => h⟩, ⟨_, rfl, fun _ _ _ h => h⟩, trivial⟩ (by decide) (rvs1 rfl (fK A_30 Z_30 rfl (i := 1) rfl rfl))
theorem c_partO {z : List Qi} {s : List (List Qi)} {p m : Nat} (hs : Shp s z.length z.length) (hp : p < z.length) (hm : m = z.length - 1) (hl : z.length ≤ 1000) : FunO Tryz.prog 111 [NetT z s, IntsT (lftL p m)] [] Nat (fun B => AggT [NumsT (prtZ z p m), Is (.slice (some ⟨B, 0, none⟩) m m)]) (fun B => [matO B 27 45 5 (FRow NumT (prtS s p m))]) (fun _ => True) := by
 have h := c_partG (Q := tab m (skp p)) hs (skp_all hp hm) (tab_len _ _) (by omega) hl
 rw [subZ_skp, subM_skp, lft_skp] at h
 exact h
theorem c_whole {n : Int} (h1 : -9223372036854775808 ≤ n) (h2 : n ≤ 9223372036854775807) : Fun Tryz.prog 121 [IntT .i64 n] (NumT (Qi.ofInt n)) := by
 refine Fun.intro Tryz.func121 rfl Tryz.ntmps121 rfl (fun cx => (ts (rn rfl (eW (Ts := [Is (.bool false), Is (.slice none 0 0), Is (.bool false), Is (.slice none 0 0), Is (.slice none 0 0)]) O_45 rfl (fun V => aW ⟨rfl, trivial⟩ (aW ⟨rfl, trivial⟩ (aW ⟨rfl, trivial⟩ (aW ⟨rfl, trivial⟩ (aW ⟨rfl, trivial⟩ (aG))))))) fun B2 => (eX (ts (rn rfl (eW (Ts := [Is (.bool false), Is (.slice none 0 0), Is (.bool false), Is (.slice none 0 0), Is (.slice none 0 0)]) O_45 rfl (fun V => aW ⟨rfl, trivial⟩ (aW ⟨rfl, trivial⟩ (aW ⟨rfl, trivial⟩ (aW ⟨rfl, trivial⟩ (aW ⟨rfl, trivial⟩ (aG))))))) fun B3 => ?_))))))
 refine eX (cK (fZ (m := 4) (dp 3 rfl (eJ A_45 Z_45 (Ht rfl) (i := 1) rfl rfl rfl) (dq 4 0 rfl (op_iface mkif_45 (Ht rfl)) (dp 0 rfl (cX (Ht rfl)) (dq 6 2 rfl (cZ Tryz.call86 (c_Int (n := n) h1 h2) ⟨(Ht rfl), trivial⟩) (fV mixed rfl (by kernel_rfl) (aJ (aJ (aJ (aJ (aV (ro rfl (op_invoke meth_45_Of Tryz.call302 c_OfZ (Ht rfl) ⟨(Ht rfl), trivial⟩) (gQ Z_45 (Ht rfl) (Ht rfl) rfl (i := 0) rfl (aK rfl) rfl rfl (eX ?_)))))))))))))))
 exact fW rfl (fK A_45 Z_45 rfl (i := 0) rfl rfl)
end
section
open Go Go.RowKit
theorem c_Term {z : List Qi} {s : List (List Qi)} {port : Int} {g : Qi} {L : Nat} (hs : Shp s z.length z.length) (hf : FitM s L) (hg : FitC g L) (hL : 1 ≤ L) (hLb : L ≤ 1000000) (hl : z.length ≤ 1000) : Fun Tryz.prog 60 [NetT z s, IntT .i64 port, NumT g] (TupT [NetT (trmRZ z s port g) (trmRS z s port g), IntT .i64 (trmE z s port g)]) := by
 haveI := hg
 have hsl := hs.1
 refine Fun.intro Tryz.func60 rfl Tryz.ntmps60 rfl (fun cx => (ts (rn rfl (fG (Ht rfl)) fun B3 => (rn rfl (fG (Ht rfl)) fun B5 => (rn rfl (eW (Ts := [Is (.slice none 0 0), Is (.slice none 0 0)]) O_30 rfl (fun V => aW ⟨rfl, trivial⟩ (aW ⟨rfl, trivial⟩ (aG)))) fun B6 => (ro rfl (cQ (cJ 0)) (eX (cK (eG (ts (ro rfl (eJ A_30 Z_30 (Ht rfl) (i := 0) rfl rfl rfl) (rm rfl (ro rfl (cZ Tryz.call171 c_has ⟨(Ht rfl), (Ht rfl), trivial⟩) (ro rfl (op_not (Ht rfl)) (ra rfl (eX (dQ (Ht rfl) (fun hb => ?_) (fun hb => ?_))))))))))))))))))
 ·have he : trmE z s port g = 1 := trmE_1 (by simpa only [Bool.not_eq_true', decide_eq_false_iff_not] using hb)
  refine ts (ro rfl (OpTy.imp (bld_30_ ) net_nil) (gQ Z_30 (Ht rfl) (Ht rfl) rfl (i := 2) rfl (aK rfl) rfl rfl (ro rfl (cQ (cJ 1)) (eX (T_ret2 rfl (fX (fK A_30 Z_30 rfl (i := 2) rfl rfl) ?_) (fX (eU rfl) ?_))))))
  ·exact (trm_bad he (by decide))
  ·exact (int_of he.symm)
 ·have hb2 : 1 ≤ port ∧ port ≤ (z.length : Int) := by simpa using hb
  obtain ⟨p, rfl⟩ : ∃ p : Nat, port = (p : Int) + 1 := ⟨(port - 1).toNat, by omega⟩
  have hp : p < z.length := by omega
  refine ts (ro rfl (eZ fa_30_0 (Ht rfl) rfl) (ro rfl (eY A_27 Z_27 (Ht rfl) (i := 0) rfl rfl) (ro rfl (dG U_27 (Ht rfl) len_map) (ro rfl (op_eqlN (Ht rfl) (cJ 1)) (ra rfl (eX (dQ (Ht rfl) (fun hc => ?_) (fun hc => ?_))))))))
  ·have he : trmE z s ((p : Int) + 1) g = 4 := trmE_4 hb2 (by simpa using hc)
   refine ts (ro rfl (OpTy.imp (bld_30_ ) net_nil) (gQ Z_30 (Ht rfl) (Ht rfl) rfl (i := 2) rfl (aK rfl) rfl rfl (ro rfl (cQ (cJ 4)) (eX (T_ret2 rfl (fX (fK A_30 Z_30 rfl (i := 2) rfl rfl) ?_) (fX (eU rfl) ?_))))))
   ·exact (trm_bad he (by decide))
   ·exact (int_of he.symm)
  ·have hn1 : ¬ z.length = 1 := by simpa using hc
   have htd := trmE_d (s := s) (g := g) hp hn1
   obtain ⟨m, hm⟩ : ∃ m, m = z.length - 1 := ⟨_, rfl⟩
   have hspl := hs.row hp
   haveI f0 : FitC (Qi.ofInt 1) 1 := fit_one
   haveI f1 : FitC (gm s p p) L := hf.get hL p p
   refine cU (T_blk (ts (rm rfl (ro rfl (op_sub (Ht rfl) cV (r := ((p : Nat) : Int)) ((w64 (z := (p : Int) + 1 - 1) (by omega)).trans (by omega))) ?_))))
   refine ra rfl (eX (cK (Y.D_start (m := 22) [] (bY (Ei := [(5, _)]) rfl rfl (bQ (bJ rfl rfl) bX) rfl rfl (dX rfl (eJ A_45 Z_45 (Ht rfl) (i := 1) rfl rfl rfl)) (bY (Ei := [(32, _)]) rfl rfl (bQ (bZ 0 rfl rfl) bX) rfl rfl (dX rfl (op_iface mkif_45 (Ht rfl))) (bY (Ei := []) rfl rfl bX rfl rfl (dX rfl (cZ Tryz.call121 (c_whole (n := 1) (by decide) (by decide)) ⟨(cJ 1), trivial⟩)) (bY (Ei := [(34, _)]) rfl rfl (bQ (bZ 2 rfl rfl) bX) rfl rfl (dX rfl (op_iface mkif_45 (Ht rfl))) ?_)))))))
   refine bY (Ei := [(3, _)]) rfl rfl (bQ (bJ rfl rfl) bX) rfl rfl (dX rfl (eZ fa_30_1 (Ht rfl) rfl)) (bY (Ei := [(36, _)]) rfl rfl (bQ (bZ 4 rfl rfl) bX) rfl rfl (dX rfl (eY A_28 Z_28 (Ht rfl) (i := 0) rfl rfl)) (bY (Ei := [(8, _)]) rfl rfl (bQ (bJ rfl rfl) bX) rfl rfl (dX rfl (cX (Ht rfl))) (bY (Ei := [(37, _), (38, _)]) rfl rfl (bQ (bZ 5 rfl rfl) (bQ (bZ 6 rfl rfl) bX)) rfl rfl (dX rfl (dZ U_28 Z_27 (Ht rfl) (Ht rfl) rfl (dY (dU (d := []) (by omega))))) ?_)))
   refine bY (Ei := [(39, _)]) rfl rfl (bQ (bZ 7 rfl rfl) bX) rfl rfl (dX rfl (dJ A_27 Z_27 (Ht rfl))) (bY (Ei := [(8, _)]) rfl rfl (bQ (bJ rfl rfl) bX) rfl rfl (dX rfl (cX (Ht rfl))) (bY (Ei := [(40, _), (41, _)]) rfl rfl (bQ (bZ 8 rfl rfl) (bQ (bZ 9 rfl rfl) bX)) rfl rfl (dX rfl (dZ U_27 Z_45 (Ht rfl) (Ht rfl) rfl (dY (dU (d := Qi.zero) (by omega))))) (bY (Ei := [(42, _)]) rfl rfl (bQ (bZ 10 rfl rfl) bX) rfl rfl (dX rfl (dJ A_45 Z_45 (Ht rfl))) ?_)))
   refine bY (Ei := [(43, _)]) rfl rfl (bQ (bZ 11 rfl rfl) bX) rfl rfl (dX rfl (op_iface mkif_45 (Ht rfl))) (bY (Ei := [(5, _)]) rfl rfl (bQ (bJ rfl rfl) bX) rfl rfl (dX rfl (eJ A_45 Z_45 (Ht rfl) (i := 1) rfl rfl rfl)) (bY (Ei := [(44, _), (45, _)]) rfl rfl (bQ (bZ 12 rfl rfl) (bQ (bZ 13 rfl rfl) bX)) rfl rfl (dX rfl (op_invoke meth_45_Mul K_67 (c_Mul (x := gm s p p) (y := g) (L := L) (M := L) (by omega)) (Ht rfl) ⟨(Ht rfl), trivial⟩)) (bY (Ei := [(35, _), (46, _)]) rfl rfl (bQ (bZ 3 rfl rfl) (bQ (bZ 14 rfl rfl) bX)) rfl rfl (dX rfl (op_invoke meth_45_Sub K_66 (c_Sub (x := Qi.ofInt 1) (y := gm s p p * g) (L := 1) (M := L + L + 1) (hx := f0) (by omega)) (Ht rfl) ⟨(Ht rfl), trivial⟩)) ?_)))
   refine bY (Ei := [(33, _), (47, _)]) rfl rfl (bQ (bZ 1 rfl rfl) (bQ (bZ 15 rfl rfl) bX)) rfl rfl (dX rfl (op_invoke meth_45_Div K_59 (c_Div (x := g) (y := Qi.ofInt 1 - gm s p p * g) (L := L) (M := 1 + (L + L + 1) + 1) (hy := @fitSub _ _ _ _ f0 inferInstance) (by omega)) (Ht rfl) ⟨(Ht rfl), trivial⟩)) (bY (Ei := [(48, _)]) rfl rfl (bQ (bZ 16 rfl rfl) bX) rfl rfl (dX rfl (cX (Ht rfl))) (bY (Ei := [(31, _)]) rfl rfl (bQ (bZ 17 rfl rfl) bX) rfl rfl (dX rfl (dK (Ht rfl) rfl)) ?_))
   refine bY (Ei := [(31, _)]) rfl rfl (bQ (bZ 17 rfl rfl) bX) rfl rfl (dX rfl (dK (Ht rfl) rfl)) (Y.D_newp (Ei := []) (fun bb => box bb 45 [BoolT (decide ((trmF s p g).a < 0)), NatT (trmF s p g).a.natAbs, BoolT (decide ((trmF s p g).b < 0)), NatT (trmF s p g).b.natAbs, NatT (du (trmF s p g))]) 21 rfl rfl rfl bX rfl rfl (by kernel_rfl) (eW (Ts := [Is (.bool false), Is (.slice none 0 0), Is (.bool false), Is (.slice none 0 0), Is (.slice none 0 0)]) O_45 rfl (fun V => aW ⟨rfl, trivial⟩ (aW ⟨rfl, trivial⟩ (aW ⟨rfl, trivial⟩ (aW ⟨rfl, trivial⟩ (aW ⟨rfl, trivial⟩ (aG))))))) ?_)
   refine Y.D_putN (Ei := [(49, _)]) 20 rfl rfl rfl rfl rfl rfl (bQ (bZ 18 rfl rfl) bX) (fun bb => P_stA Z_45 (Ht rfl) (Ht rfl) rfl (i := 0) rfl (aK rfl) rfl rfl) (Y.D_done mixed rfl (by kernel_rfl) rfl (by simp [Y.okP]) rfl rfl (bU (bU (bU (bU (bU (bU (bU (bU (bU (bU (bU (bU (bU (bU (bU (bU (bU (bU (bU (bU (Y.F_newp (fun B9 => Y.F_putN (Y.F_nil ?_))))))))))))))))))))))))
   refine ra rfl (eX (cK (ts (rm rfl (ro rfl (op_neq (Ht rfl) cV) (eX (dQ (Ht rfl) (fun he => ?_) (fun he => ?_))))))))
   ·have hz : Qi.ofInt 1 - gm s p p * g = Qi.zero := by simp at he; exact he
    have he : trmE z s ((p : Int) + 1) g = 6 := by rw [htd, if_pos hz]
    refine ts (ro rfl (OpTy.imp (bld_30_ ) net_nil) (gQ Z_30 (Ht rfl) (Ht rfl) rfl (i := 2) rfl (aK rfl) rfl rfl (ro rfl (cQ (cJ 6)) (eX (T_ret2 rfl (fX (fK A_30 Z_30 rfl (i := 2) rfl rfl) ?_) (fX (eU rfl) ?_))))))
    ·exact (trm_bad he (by decide))
    ·exact (int_of he.symm)
   ·have hz : Qi.ofInt 1 - gm s p p * g ≠ Qi.zero := by simp at he; exact he
    have he : trmE z s ((p : Int) + 1) g = 0 := by rw [htd, if_neg hz]
    haveI ff : FitC (trmF s p g) (7 * L + 11) := trmF_fit hf hg hL hz
    have hll : (lftL p m).length = m := tab_len _ _
    refine cU (ts (ro rfl (eJ A_30 Z_30 (Ht rfl) (i := 0) rfl rfl rfl) (rm rfl (ro rfl (op_bslice (xs := [.tmp 55]) U_69 Z_3 O_3 (cW (Ht rfl) cG) rfl rfl rfl) (ro rfl (cZ Tryz.call112 (eQ (c_left (z := z) (s := s) (p := p) hp hl) (slT_of (by rw [← hm]))) ⟨(Ht rfl), (Ht rfl), trivial⟩) ?_)))))
    refine ra rfl (eX (ts (ro rfl (eJ A_30 Z_30 (Ht rfl) (i := 0) rfl rfl rfl) (rm rfl (R_call0 Tryz.call111 (c_partO (p := p) (m := m) hs hp hm hl) ⟨(Ht rfl), (Ht rfl), trivial⟩ rfl (fun B60 _ => (rn rfl (eW (Ts := [Is (.slice none 0 0), Is (.slice none 0 0)]) O_30 rfl (fun V => aW ⟨rfl, trivial⟩ (aW ⟨rfl, trivial⟩ (aG)))) fun B12 => (gQ Z_30 (Ht rfl) (Ht rfl) rfl (i := 5) rfl (aK rfl) rfl rfl (eX (cK (ts (rm rfl (ro rfl (dG U_69 (Ht rfl) (by rw [List.length_map, hll])) ?_)))))))))))))
    refine ro rfl (cX (cJ 0)) (eX (eG (T_keep [0, 2, 3, 4, 5] rfl (by decide) ?_)))
    refine T_loop (fun (i : Nat) => i ≤ m) (fun (i : Nat) => m - i) (fun (i : Nat) => [(3, PtrB B3 0), (6, PtrB B6 0), (8, NT .i64 p), (9, PtrB B9 0), (11, IntsT (lftL p m)), (12, PtrB B12 0), (61, IntsT (lftL p m)), (62, NT .i64 m), (63, NT .i64 i)]) (fun (i : Nat) => [box B3 30 [NumsT z, NumM s], box B6 30 [Is (.slice none 0 0), Is (.slice none 0 0)], box B9 45 [BoolT (decide ((trmF s p g).a < 0)), NatT (trmF s p g).a.natAbs, BoolT (decide ((trmF s p g).b < 0)), NatT (trmF s p g).b.natAbs, NatT (du (trmF s p g))], matO B60 27 45 5 (FRow NumT (mixG (fun i => tab m fun j => trmX s p (trmF s p g) i j) (fun i => tab m fun j => gm s (skp p i) (skp p j)) m i)), box B12 30 [NumsT (prtZ z p m), Is (.slice (some ⟨B60, 0, none⟩) m m)]]) 0 (Nat.zero_le _)
     (aQ rfl (aQ rfl (aQ rfl (aQ rfl (aQ rfl (aQ rfl (aQ rfl (aQ rfl (aQ rfl aX))))))))) (aU (fun _ _ _ h => h) (aU (fun _ _ _ h => h) (aU (box_of rfl) (aU (matO_of (by rw [← mixG_zero]; rfl)) (aU (box_of rfl) aY))))) (fun i hi => ?_)
    refine ts (ro rfl (gX (Ht rfl) (Ht rfl)) (eX (cK (dQ (Ht rfl) (fun hd => ?_) (fun hd => ?_)))))
    ·simp only [decide_eq_true_eq] at hd
     have hki : skp p i < z.length := skp_lt (by omega) hp
     have hsr := hs.row hki
     refine T_focus 3 (i) rfl (frow_mixG hd) (fun v => (cU (cK (eG (ts (rm rfl (ro rfl (dZ U_69 Z_3 (Ht rfl) (Ht rfl) rfl (dY (lft_get hd))) (ro rfl (dJ A_3 Z_3 (Ht rfl)) (ra rfl (ra rfl (eX (ts (rm rfl (ro rfl (dG U_69 (Ht rfl) (by rw [List.length_map, hll])) ?_))))))))))))))
     refine ro rfl (cX (cJ 0)) (eX (eG ?_))
     refine T_loop (fun (j : Nat) => j ≤ m) (fun (j : Nat) => m - j) (fun (j : Nat) => [(3, PtrB B3 0), (6, PtrB B6 0), (8, NT .i64 p), (9, PtrB B9 0), (11, IntsT (lftL p m)), (12, PtrB B12 0), (13, NT .i64 i), (14, NT .i64 (skp p i + 1)), (61, IntsT (lftL p m)), (62, NT .i64 m), (63, NT .i64 i), (68, IntsT (lftL p m)), (69, NT .i64 m), (70, NT .i64 j)]) (fun (j : Nat) => [box B3 30 [NumsT z, NumM s], box B6 30 [Is (.slice none 0 0), Is (.slice none 0 0)], box B9 45 [BoolT (decide ((trmF s p g).a < 0)), NatT (trmF s p g).a.natAbs, BoolT (decide ((trmF s p g).b < 0)), NatT (trmF s p g).b.natAbs, NatT (du (trmF s p g))], matH B60 27 45 5 (FRow NumT (mixG (fun i => tab m fun j => trmX s p (trmF s p g) i j) (fun i => tab m fun j => gm s (skp p i) (skp p j)) m i)) i v, box B12 30 [NumsT (prtZ z p m), Is (.slice (some ⟨B60, 0, none⟩) m m)], rowO 45 5 v ((mixG (fun j => trmX s p (trmF s p g) i j) (fun j => gm s (skp p i) (skp p j)) m j).map NumT)]) 0 (Nat.zero_le _)
      (aQ rfl (aQ rfl (aQ rfl (aQ rfl (aQ rfl (aQ rfl (aQ rfl (aQ rfl (aQ rfl (aQ rfl (aQ rfl (aQ rfl (aQ rfl (aQ rfl aX)))))))))))))) (aU (fun _ _ _ h => h) (aU (fun _ _ _ h => h) (aU (fun _ _ _ h => h) (aU (fun _ _ _ h => h) (aU (fun _ _ _ h => h) (aU (rowO_of (by rw [← mixG_zero])) aY)))))) (fun j hj => ?_)
     refine ts (ro rfl (gX (Ht rfl) (Ht rfl)) (eX (cK (dQ (Ht rfl) (fun hf2 => ?_) (fun hf2 => ?_)))))
     ·simp only [decide_eq_true_eq] at hf2
      have hkj : skp p j < z.length := skp_lt (by omega) hp
      have hrl := mixG_len (fun j => trmX s p (trmF s p g) i j) (fun j => gm s (skp p i) (skp p j)) m j
      haveI g1 : FitC (gm s (skp p i) (skp p j)) L := hf.get hL _ _
      haveI g2 : FitC (gm s (skp p i) p) L := hf.get hL _ _
      haveI g3 : FitC (gm s p (skp p j)) L := hf.get hL _ _
      refine cU (cK (eG (ts (rm rfl (ro rfl (dZ U_69 Z_3 (Ht rfl) (Ht rfl) rfl (dY (lft_get hf2))) (ro rfl (dJ A_3 Z_3 (Ht rfl)) (ra rfl (ra rfl (eX (fZ (m := 39) (dp 12 rfl (eZ fa_30_1 (Ht rfl) rfl) (dq 75 0 rfl (eY A_28 Z_28 (Ht rfl) (i := 4) rfl rfl) (dp 13 rfl (cX (Ht rfl)) (dqq 76 1 77 2 rfl (fY U_28 Z_27 (Ht rfl) (Ht rfl) rfl (by omega) (by rw [Nat.mul_one, Nat.zero_add])) ?_))))))))))))))
      refine dq 78 3 rfl (op_ldH A_27 Z_27 (Ht rfl) (j := 3) rfl) (dp 15 rfl (cX (Ht rfl)) (dp 12 rfl (eZ fa_30_1 (Ht rfl) rfl) (dq 81 6 rfl (eY A_28 Z_28 (Ht rfl) (i := 4) rfl rfl) (dp 13 rfl (cX (Ht rfl)) (dqq 82 7 83 8 rfl (fY U_28 Z_27 (Ht rfl) (Ht rfl) rfl (by omega) (by rw [Nat.mul_one, Nat.zero_add])) ?_)))))
      refine dq 84 9 rfl (op_ldH A_27 Z_27 (Ht rfl) (j := 3) rfl) (dp 15 rfl (cX (Ht rfl)) (dqq 85 10 86 11 rfl (op_idxO U_27 Z_45 (Ht rfl) (Ht rfl) rfl (i := 5) rfl (by simp only [List.length_map, hrl]; omega) rfl) ?_))
      refine dq 87 12 rfl (op_ldO A_45 Z_45 (Ht rfl) (i := 5) rfl rfl (dY (mixG_get hf2))) (dq 88 13 rfl (op_iface mkif_45 (Ht rfl)) (dp 3 rfl (eZ fa_30_1 (Ht rfl) rfl) (dq 90 15 rfl (eY A_28 Z_28 (Ht rfl) (i := 0) rfl rfl) (dp 14 rfl (cX (Ht rfl)) (dq 92 17 rfl (OpTy.nat (dW (Ht rfl) (cJ 1) (by omega) (by show _ < 9223372036854775808; first | omega | (simp only [lim]; omega))) (show skp p i + 1 - 1 = skp p i by omega)) (dqq 91 16 93 18 rfl (dZ U_28 Z_27 (Ht rfl) (Ht rfl) rfl (dY (dU (d := []) (by omega)))) ?_))))))
      refine dq 94 19 rfl (dJ A_27 Z_27 (Ht rfl)) (dp 8 rfl (cX (Ht rfl)) (dqq 95 20 96 21 rfl (dZ U_27 Z_45 (Ht rfl) (Ht rfl) rfl (dY (dU (d := Qi.zero) (by omega)))) (dq 97 22 rfl (dJ A_45 Z_45 (Ht rfl)) (dq 98 23 rfl (op_iface mkif_45 (Ht rfl)) (dp 9 rfl (eJ A_45 Z_45 (Ht rfl) (i := 2) rfl rfl rfl) (dq 100 25 rfl (op_iface mkif_45 (Ht rfl)) (dp 3 rfl (eZ fa_30_1 (Ht rfl) rfl) (dq 102 27 rfl (eY A_28 Z_28 (Ht rfl) (i := 0) rfl rfl) (dp 8 rfl (cX (Ht rfl)) ?_)))))))))
      refine dqq 103 28 104 29 rfl (dZ U_28 Z_27 (Ht rfl) (Ht rfl) rfl (dY (dU (d := []) (by omega)))) (dq 105 30 rfl (dJ A_27 Z_27 (Ht rfl)) (dp 16 rfl (cX (Ht rfl)) (dq 107 32 rfl (OpTy.nat (dW (Ht rfl) (cJ 1) (by omega) (by show _ < 9223372036854775808; first | omega | (simp only [lim]; omega))) (show skp p j + 1 - 1 = skp p j by omega)) (dqq 106 31 108 33 rfl (dZ U_27 Z_45 (Ht rfl) (Ht rfl) rfl (dY (dU (d := Qi.zero) (by omega)))) (dq 109 34 rfl (dJ A_45 Z_45 (Ht rfl)) ?_)))))
      refine dqq 101 26 110 35 rfl (op_invoke meth_45_Mul K_67 (c_Mul (x := trmF s p g) (y := gm s p (skp p j)) (L := 7 * L + 11) (M := L) (by omega)) (Ht rfl) ⟨(Ht rfl), trivial⟩) (dqq 99 24 111 36 rfl (op_invoke meth_45_Mul K_67 (c_Mul (x := gm s (skp p i) p) (y := trmF s p g * gm s p (skp p j)) (L := L) (M := 7 * L + 11 + L + 1) (by omega)) (Ht rfl) ⟨(Ht rfl), trivial⟩) (dqq 89 14 112 37 rfl (op_invoke meth_45_Add K_68 (c_Add (x := gm s (skp p i) (skp p j)) (y := gm s (skp p i) p * (trmF s p g * gm s p (skp p j))) (L := L) (M := L + (7 * L + 11 + L + 1) + 1) (by omega)) (Ht rfl) ⟨(Ht rfl), trivial⟩) ?_))
      refine fV mixed rfl (by kernel_rfl) (aJ (aJ (aJ (aJ (aJ (aJ (aJ (aJ (aJ (aJ (aJ (aJ (aJ (aJ (aJ (aJ (aJ (aJ (aJ (aJ (aJ (aJ (aJ (aJ (aJ (aJ (aJ (aJ (aJ (aJ (aJ (aJ (aJ (aJ (aJ (aJ (aJ (aJ (aJ (aV (ro rfl (op_idxO U_27 Z_45 (Ht rfl) (Ht rfl) rfl (i := 5) rfl (by simp only [List.length_map, hrl]; omega) rfl) ?_)))))))))))))))))))))))))))))))))))))))))
      refine R_stO Z_45 (Ht rfl) (Ht rfl) (El.ag rfl) (i := 5) rfl rfl (by simp only [List.length_map, hrl]; omega) rfl ?_
      refine eX (T_blk (cY (ro rfl (dV (Ht rfl) (cJ 1) (by show _ < 9223372036854775808; first | omega | (simp only [lim]; omega))) (rm rfl (eX (fU (j + 1) hf2 (by omega) (aQ rfl (aQ rfl (aQ rfl (aQ rfl (aQ rfl (aQ rfl (aQ rfl (aQ rfl (aQ rfl (aQ rfl (aQ rfl (aQ rfl (aQ rfl (aQ rfl aX)))))))))))))) (aU (fun _ _ _ h => h) (aU (fun _ _ _ h => h) (aU (fun _ _ _ h => h) (aU (fun _ _ _ h => h) (aU (fun _ _ _ h => h) (aU (rowO_of (by rw [set_mapF, ← mixG_set (f := fun j => trmX s p (trmF s p g) i j)]; rfl)) aY))))))))))))
     ·simp only [decide_eq_false_iff_not] at hf2
      obtain rfl : m = j := Nat.le_antisymm (by omega) hj
      refine gV rfl (T_blk (T_unfocus 3 5 rfl rfl (by decide) (by simp only [FRow, List.length_map, mixG_len]; omega) ?_))
      refine cY (ro rfl (dV (Ht rfl) (cJ 1) (by show _ < 9223372036854775808; first | omega | (simp only [lim]; omega))) (rm rfl (eX (T_keep [0, 1, 2, 3, 4] rfl (by decide) (fU (i + 1) hd (by omega) (aQ rfl (aQ rfl (aQ rfl (aQ rfl (aQ rfl (aQ rfl (aQ rfl (aQ rfl (aQ rfl aX))))))))) (aU (fun _ _ _ h => h) (aU (fun _ _ _ h => h) (aU (fun _ _ _ h => h) (aU (matO_of (by rw [set_FRow, mixG_fin, ← mixG_set (f := (fun i => tab m fun j => trmX s p (trmF s p g) i j))])) (aU (fun _ _ _ h => h) aY))))))))))
    ·simp only [decide_eq_false_iff_not] at hd
     obtain rfl : m = i := Nat.le_antisymm (by omega) hi
     rw [mixG_fin]
     refine gV rfl (cK (T_frzcellG 4 3 1 rfl rfl rfl (by decide) (frzM (q := fun _ => True) (M := trmS s p m (trmF s p g)) (tab_len _ _).symm) ?_))
     subst hm
     refine cY (ro rfl (eJ A_30 Z_30 (Ht rfl) (i := 4) rfl rfl rfl) (gQ Z_30 (Ht rfl) (Ht rfl) rfl (i := 1) rfl (aK rfl) rfl rfl (ro rfl (cQ (cJ 0)) (eX (T_ret2 rfl (fX (fK A_30 Z_30 rfl (i := 1) rfl rfl) ?_) (fX (eU rfl) ?_))))))
     ·exact (trm_good he)
     ·exact (int_of he.symm)
end
section
open Go Go.RowKit
def fwZ : List Qi := [r50, r50].map Rt.q
def fwS : List (List Qi) := rq [[rHalf, rHalf], [rHalf, rHalf]]
def fwTZ : List Qi := trmRZ fwZ fwS 2 (Qi.ofInt 1)
def fwTS : List (List Qi) := trmRS fwZ fwS 2 (Qi.ofInt 1)
theorem fw_err : netErr fwZ fwS = 0 := by decide +kernel
theorem fw_shp : Shp fwS fwZ.length fwZ.length := (netErr_ok fw_err).2.2.1
theorem fw_trm : trmE fwZ fwS 2 (Qi.ofInt 1) = 0 := by decide +kernel
theorem fw_tz : fwTZ.length = 1 := by decide +kernel
theorem fw_ts : fwTS = [[Qi.ofInt 1]] := by decide +kernel
theorem fw_inv : invE (pmM true (idM fwZ.length) fwS fwZ.length) fwZ.length ≠ 0 := by decide +kernel
theorem fw_fz : FitL fwZ 2 := FitL.rt
theorem fw_fs : FitM fwS 2 := FitM.rt
theorem fw_f1 : FitC (Qi.ofInt 1) 2 := fit_one.le (by decide)
theorem fw_net : ∀ v V, (TupT [NetT (okL (netErr fwZ fwS) fwZ) (okL (netErr fwZ fwS) fwS), IntT .i64 (netErr fwZ fwS)]).p v V → (TupT [NetT fwZ fwS, IntT .i64 0]).p v V := by rw [fw_err]; exact fun _ _ h => h
theorem fw_ter : ∀ v V, (TupT [NetT (trmRZ fwZ fwS ((2 : Nat) : Int) (Qi.ofInt 1)) (trmRS fwZ fwS ((2 : Nat) : Int) (Qi.ofInt 1)), IntT .i64 (trmE fwZ fwS ((2 : Nat) : Int) (Qi.ofInt 1))]).p v V → (TupT [NetT fwTZ fwTS, IntT .i64 0]).p v V := by
 rw [show trmE fwZ fwS ((2 : Nat) : Int) (Qi.ofInt 1) = 0 from fw_trm]; exact fun _ _ h => h
theorem fw_tsh : Shp fwTS fwTZ.length fwTZ.length := by rw [fw_tz, fw_ts]; exact ⟨rfl, by simp⟩
theorem fw_at : ∀ v V, (TupT [NumT (pkm fwTZ.length fwTS ((1 : Nat) : Int) ((1 : Nat) : Int)), IntT .i64 (if (1 ≤ ((1 : Nat) : Int) ∧ ((1 : Nat) : Int) ≤ fwTZ.length) ∧ 1 ≤ ((1 : Nat) : Int) ∧ ((1 : Nat) : Int) ≤ fwTZ.length then 0 else 1)]).p v V → (TupT [NumT (Qi.ofInt 1), IntT .i64 0]).p v V := by
 rw [fw_tz, fw_ts, if_pos (by decide)]
 rw [show pkm 1 [[Qi.ofInt 1]] ((1 : Nat) : Int) ((1 : Nat) : Int) = Qi.ofInt 1 from rfl]
 exact fun _ _ h => h
theorem fw_t : txt (Qi.ofInt 1) = [49] := by decide +kernel
end
section
open Go Go.RowKit
theorem c_awake4  : Fun Tryz.prog 15 [] (BoolT true) := by
 refine Fun.intro Tryz.func15 rfl Tryz.ntmps15 rfl (fun cx => (ts (ro rfl (cQ cV) (eX (ts (ro rfl (bld_91_0_2 cV cV) (rn rfl (eW (Ts := [Is (.int .i64 0), Is (.int .i64 0), Is (.int .i64 0)]) O_91 rfl (fun V => aW ⟨rfl, trivial⟩ (aW ⟨rfl, trivial⟩ (aW ⟨rfl, trivial⟩ (aG))))) fun B1 => (gQ Z_91 (Ht rfl) (Ht rfl) rfl (i := 0) rfl (aK rfl) rfl rfl (eX (cK (Y.D_start (m := 18) [] (bY (Ei := []) rfl rfl bX rfl rfl (dX rfl (bld_91_0 cV)) (bY (Ei := []) rfl rfl bX rfl rfl (dX rfl (bld_91_0 cV)) ?_)))))))))))))
 refine bY (Ei := [(12, _), (13, _)]) rfl rfl (bQ (bZ 0 rfl rfl) (bQ (bZ 1 rfl rfl) bX)) rfl rfl (dX rfl (op_bslice (xs := [.tmp 12, .tmp 13]) U_22 Z_91 O_91 (cW (Ht rfl) (cW (Ht rfl) cG)) rfl rfl rfl)) (bY (Ei := [(14, _)]) rfl rfl (bQ (bZ 2 rfl rfl) bX) rfl rfl (dX rfl (cZ Tryz.call23 (c_lawList (l := [r50, r50]) (by decide)) ⟨(Ht rfl), trivial⟩)) (bY (Ei := [(1, _)]) rfl rfl (bQ (bJ rfl rfl) bX) rfl rfl (dX rfl (eJ A_91 Z_91 (Ht rfl) (i := 0) rfl rfl rfl)) ?_))
 refine bY (Ei := [(1, _)]) rfl rfl (bQ (bJ rfl rfl) bX) rfl rfl (dX rfl (eJ A_91 Z_91 (Ht rfl) (i := 0) rfl rfl rfl)) (bY (Ei := [(16, _), (17, _)]) rfl rfl (bQ (bZ 4 rfl rfl) (bQ (bZ 5 rfl rfl) bX)) rfl rfl (dX rfl (op_bslice (xs := [.tmp 16, .tmp 17]) U_22 Z_91 O_91 (cW (Ht rfl) (cW (Ht rfl) cG)) rfl rfl rfl)) (bY (Ei := [(1, _)]) rfl rfl (bQ (bJ rfl rfl) bX) rfl rfl (dX rfl (eJ A_91 Z_91 (Ht rfl) (i := 0) rfl rfl rfl)) ?_))
 refine bY (Ei := [(1, _)]) rfl rfl (bQ (bJ rfl rfl) bX) rfl rfl (dX rfl (eJ A_91 Z_91 (Ht rfl) (i := 0) rfl rfl rfl)) (bY (Ei := [(19, _), (20, _)]) rfl rfl (bQ (bZ 7 rfl rfl) (bQ (bZ 8 rfl rfl) bX)) rfl rfl (dX rfl (op_bslice (xs := [.tmp 19, .tmp 20]) U_22 Z_91 O_91 (cW (Ht rfl) (cW (Ht rfl) cG)) rfl rfl rfl)) (bY (Ei := [(18, _), (21, _)]) rfl rfl (bQ (bZ 6 rfl rfl) (bQ (bZ 9 rfl rfl) bX)) rfl rfl (dX rfl (op_bslice (xs := [.tmp 18, .tmp 21]) U_25 Z_22 Tryz.zeroValue22 (cW (Ht rfl) (cW (Ht rfl) cG)) rfl rfl rfl)) ?_))
 refine bY (Ei := [(22, _)]) rfl rfl (bQ (bZ 10 rfl rfl) bX) rfl rfl (dX rfl (cZ Tryz.call24 (c_lawRows (m := [[rHalf, rHalf], [rHalf, rHalf]]) (by decide) (by intro r hr; simp at hr; subst hr; decide)) ⟨(Ht rfl), trivial⟩)) ?_
 refine bY (Ei := [(15, _), (23, _)]) rfl rfl (bQ (bZ 3 rfl rfl) (bQ (bZ 11 rfl rfl) bX)) rfl rfl (dX rfl (cZ Tryz.call85 (eQ (c_netNew (z := fwZ) (s := fwS) (L := 2) fw_fz (by decide) (by decide) (by decide)) fw_net) ⟨(Ht rfl), (Ht rfl), trivial⟩)) (bY (Ei := [(24, _)]) rfl rfl (bQ (bZ 12 rfl rfl) bX) rfl rfl (dX rfl (cX (Ht rfl))) (bY (Ei := [(11, _)]) rfl rfl (bQ (bZ 13 rfl rfl) bX) rfl rfl (dX rfl (dK (Ht rfl) rfl)) (bY (Ei := [(11, _)]) rfl rfl (bQ (bZ 13 rfl rfl) bX) rfl rfl (dX rfl (dK (Ht rfl) rfl)) ?_)))
 refine Y.D_newp (Ei := []) (fun bb => box bb 30 [NumsT fwZ, NumM fwS]) 17 rfl rfl rfl bX rfl rfl (by kernel_rfl) (eW (Ts := [Is (.slice none 0 0), Is (.slice none 0 0)]) O_30 rfl (fun V => aW ⟨rfl, trivial⟩ (aW ⟨rfl, trivial⟩ (aG)))) (Y.D_putN (Ei := [(25, _)]) 16 rfl rfl rfl rfl rfl rfl (bQ (bZ 14 rfl rfl) bX) (fun bb => P_stA Z_30 (Ht rfl) (Ht rfl) rfl (i := 0) rfl (aK rfl) rfl rfl) (Y.D_done mixed rfl (by kernel_rfl) rfl (by simp [Y.okP]) rfl rfl (bU (bU (bU (bU (bU (bU (bU (bU (bU (bU (bU (bU (bU (bU (bU (bU (Y.F_newp (fun B2 => Y.F_putN (Y.F_nil ?_)))))))))))))))))))))
 refine ra rfl (eX (cK (Y.D_start (m := 8) [] (bY (Ei := [(2, _)]) rfl rfl (bQ (bJ rfl rfl) bX) rfl rfl (dX rfl (eJ A_30 Z_30 (Ht rfl) (i := 1) rfl rfl rfl)) (bY (Ei := []) rfl rfl bX rfl rfl (dX rfl (cZ Tryz.call86 (c_Int (n := 1) (by decide) (by decide)) ⟨(cJ 1), trivial⟩)) (bY (Ei := [(28, _), (29, _)]) rfl rfl (bQ (bZ 0 rfl rfl) (bQ (bZ 1 rfl rfl) bX)) rfl rfl (dX rfl (cZ Tryz.call60 (eQ (c_Term (z := fwZ) (s := fwS) (port := ((2 : Nat) : Int)) (g := Qi.ofInt 1) (L := 2) fw_shp fw_fs fw_f1 (by decide) (by decide) (by decide)) fw_ter) ⟨(Ht rfl), (cJ 2), (Ht rfl), trivial⟩)) ?_))))))
 refine bY (Ei := [(30, _)]) rfl rfl (bQ (bZ 2 rfl rfl) bX) rfl rfl (dX rfl (cX (Ht rfl))) (bY (Ei := [(27, _)]) rfl rfl (bQ (bZ 3 rfl rfl) bX) rfl rfl (dX rfl (dK (Ht rfl) rfl)) (bY (Ei := [(27, _)]) rfl rfl (bQ (bZ 3 rfl rfl) bX) rfl rfl (dX rfl (dK (Ht rfl) rfl)) (Y.D_newp (Ei := []) (fun bb => box bb 30 [NumsT fwTZ, NumM fwTS]) 7 rfl rfl rfl bX rfl rfl (by kernel_rfl) (eW (Ts := [Is (.slice none 0 0), Is (.slice none 0 0)]) O_30 rfl (fun V => aW ⟨rfl, trivial⟩ (aW ⟨rfl, trivial⟩ (aG)))) ?_)))
 refine Y.D_putN (Ei := [(31, _)]) 6 rfl rfl rfl rfl rfl rfl (bQ (bZ 4 rfl rfl) bX) (fun bb => P_stA Z_30 (Ht rfl) (Ht rfl) rfl (i := 0) rfl (aK rfl) rfl rfl) (Y.D_done mixed rfl (by kernel_rfl) rfl (by simp [Y.okP]) rfl rfl (bU (bU (bU (bU (bU (bU (Y.F_newp (fun B4 => Y.F_putN (Y.F_nil ?_))))))))))
 refine ra rfl (eX (ts (ro rfl (eJ A_30 Z_30 (Ht rfl) (i := 2) rfl rfl rfl) (ro rfl (cZ Tryz.call65 (eQ (c_At (z := fwTZ) (s := fwTS) (i := ((1 : Nat) : Int)) (j := ((1 : Nat) : Int)) fw_tsh (by rw [fw_tz]; decide)) fw_at) ⟨(Ht rfl), (cJ 1), (cJ 1), trivial⟩) ?_))))
 refine rm rfl (ro rfl (dK (Ht rfl) rfl) (ro rfl (dK (Ht rfl) rfl) (rn rfl (eW (Ts := [Is (.bool false), Is (.slice none 0 0), Is (.bool false), Is (.slice none 0 0), Is (.slice none 0 0)]) O_45 rfl (fun V => aW ⟨rfl, trivial⟩ (aW ⟨rfl, trivial⟩ (aW ⟨rfl, trivial⟩ (aW ⟨rfl, trivial⟩ (aW ⟨rfl, trivial⟩ (aG))))))) fun B6 => (gQ Z_45 (Ht rfl) (Ht rfl) rfl (i := 3) rfl (aK rfl) rfl rfl (ra rfl (eX (ts (ro rfl (eJ A_30 Z_30 (Ht rfl) (i := 1) rfl rfl rfl) ?_))))))))
 refine ro rfl (cZ Tryz.call17 (c_ImpE (z := fwZ) (s := fwS) (L := 2) fw_shp fw_fs (by decide) (by decide) (by decide) (by decide +kernel) (by decide +kernel) fw_inv) ⟨(Ht rfl), trivial⟩) (rm rfl (ro rfl (dK (Ht rfl) rfl) (ro rfl (dK (Ht rfl) rfl) (ra rfl (ra rfl (eX (ts (rm rfl (ro rfl (op_eql (Ht rfl) cV) (rm rfl (fQ rfl rfl (eK rfl rfl (Ht rfl) (fun h => cX (Ht rfl))) (fQ rfl rfl (eK rfl rfl (Ht rfl) (fun h => op_eql (fJ rfl h) cV)) (ro rfl (op_and (Ht rfl) (fun h => (fJ rfl h))) (rm rfl (fQ rfl rfl (eK rfl rfl (Ht rfl) (fun h => cX (Ht rfl))) ?_)))))))))))))))
 refine fQ rfl rfl (eK rfl rfl (Ht rfl) (fun h => op_eql (fJ rfl h) cV)) (ro rfl (op_and (Ht rfl) (fun h => (fJ rfl h))) (rm rfl (fQ rfl rfl (eK rfl rfl (Ht rfl) (fun h => cX (Ht rfl))) (fQ rfl rfl (eK rfl rfl (Ht rfl) (fun h => op_eql (fJ rfl h) cV)) (ro rfl (op_and (Ht rfl) (fun h => (fJ rfl h))) (rm rfl (fQ rfl rfl (eK rfl rfl (Ht rfl) (fun h => eJ A_30 Z_30 (Ht rfl) (i := 1) rfl rfl rfl)) (fQ rfl rfl (eK rfl rfl (Ht rfl) (fun h => cZ Tryz.call37 c_Ports ⟨(fJ rfl h), trivial⟩)) (fQ rfl rfl (eK rfl rfl (Ht rfl) (fun h => op_eqlN (fJ rfl h) (cJ 2))) ?_)))))))))
 refine ro rfl (op_and (Ht rfl) (fun h => (fJ rfl h))) (rm rfl (fQ rfl rfl (eK rfl rfl (Ht rfl) (fun h => eJ A_45 Z_45 (Ht rfl) (i := 3) rfl rfl rfl)) (fQ rfl rfl (eK rfl rfl (Ht rfl) (fun h => cZ Tryz.call87 (c_Text (x := Qi.ofInt 1) (L := 2) (hx := fw_f1) (by decide)) ⟨(fJ rfl h), trivial⟩)) (fQ rfl rfl (eK rfl rfl (Ht rfl) (fun h => op_eqS (fJ rfl h) (Has.cS (l := [49]) rfl))) (ro rfl (op_and (Ht rfl) (fun h => (fJ rfl h))) (ra rfl (eX (fW rfl (fX (eU rfl) ?_)))))))))
 exact (bool_of (by rw [fw_t]; rfl))
end
section
open Go Go.RowKit
theorem c_refList4 {l : List Rt} (hl : l.length ≤ 1000000) : Fun Tryz.prog 26 [RatsT l] (QsT (l.map Rt.q)) := by
 refine Fun.intro Tryz.func26 rfl Tryz.ntmps26 rfl (fun cx => (ts (ro rfl (cQ cV) (eX (ts (rm rfl (ro rfl (dG U_22 (Ht rfl) len_map) (rn rfl (new_makeO (T := ZQ) (i := Tryz.t98) und_31 info_98 rfl rfl (Ht rfl) rfl zq_p (El.ag rfl) (by show 88 * _ ≤ _; omega) (by omega)) fun B8 => (ra rfl (eX (cK (ts (rm rfl (ro rfl (dG U_22 (Ht rfl) len_map) (ro rfl (cX (cJ 0)) (eX (eG ?_)))))))))))))))))
 refine T_loop (fun (k : Nat) => k ≤ l.length) (fun (k : Nat) => l.length - k) (fun (k : Nat) => [(3, Is B8), (9, RatsT l), (10, NT .i64 l.length), (11, NT .i64 k)]) (fun (k : Nat) => [rowO 98 5 B8 (mixT (fun i => QT (l.getD i default).q) ZQ l.length k)]) 0 (Nat.zero_le _)
  (aQ rfl (aQ rfl (aQ rfl (aQ rfl aX)))) (aU (rowO_of (by rw [← mix_zero]; exact rep_tab _ _)) aY) (fun k hk => ?_)
 refine ts (ro rfl (gX (Ht rfl) (Ht rfl)) (eX (cK (dQ (Ht rfl) (fun hd => ?_) (fun hd => ?_)))))
 ·simp only [decide_eq_true_eq] at hd
  refine cU (cK (eG (ts (rm rfl (ro rfl (dZ U_22 Z_91 (Ht rfl) (Ht rfl) rfl (dY (dU (d := default) hd))) (ro rfl (dJ A_91 Z_91 (Ht rfl)) (rn rfl (eW (Ts := [Is (.int .i64 0), Is (.int .i64 0), Is (.int .i64 0)]) O_91 rfl (fun V => aW ⟨rfl, trivial⟩ (aW ⟨rfl, trivial⟩ (aW ⟨rfl, trivial⟩ (aG))))) fun B5 => (ra rfl (gQ Z_91 (Ht rfl) (Ht rfl) rfl (i := 1) rfl (aK rfl) rfl rfl (eX (cY (rm rfl (rm rfl (ro rfl (eJ A_91 Z_91 (Ht rfl) (i := 1) rfl rfl rfl) ?_))))))))))))))
  refine ro rfl (cZ Tryz.call52 c_rOf ⟨(Ht rfl), trivial⟩) (ro rfl (op_idxO U_31 Z_98 (Ht rfl) (Ht rfl) rfl (i := 0) rfl (by rw [mix_len]; omega) rfl) ?_)
  refine R_stO Z_98 (Ht rfl) (Ht rfl) (El.ag rfl) (i := 0) rfl rfl (by rw [mix_len]; omega) rfl ?_
  refine eX (T_blk (cY (ro rfl (dV (Ht rfl) (cJ 1) (by show _ < 9223372036854775808; first | omega | (simp only [lim]; omega))) (rm rfl (eX (T_keep [0] rfl (by decide) (fU (k + 1) hd (by omega) (aQ rfl (aQ rfl (aQ rfl (aQ rfl aX)))) (aU (rowO_of (mix_set (f := fun i => QT (l.getD i default).q))) aY))))))))
 ·simp only [decide_eq_false_iff_not] at hd
  obtain rfl : k = l.length := Nat.le_antisymm hk (by omega)
  rw [mix_fin]
  refine gV rfl (gJ (i := 0) (tt := 3) rfl rfl frz_row (ts (rm rfl (ra rfl (eX (fW rfl (fX (eU rfl) ?_)))))))
  exact (slT_of (by rw [← tab_list l Rt.q, tab_map]))
theorem c_refRows4 {m : List (List Rt)} (hm : m.length ≤ 1000) (hr : ∀ r, r ∈ m → r.length ≤ 1000) : Fun Tryz.prog 27 [RatM m] (QM (rq m)) := by
 refine Fun.intro Tryz.func27 rfl Tryz.ntmps27 rfl (fun cx => (ts (ro rfl (cQ cV) (eX (ts (rm rfl (ro rfl (dG U_25 (Ht rfl) len_map) (rn rfl (new_makeO (T := QsT []) (i := Tryz.t31) und_32 info_31 rfl rfl (Ht rfl) rfl (fun V => nil_slT _ _ rfl) El.one (by show 24 * _ ≤ _; omega) (by omega)) fun B8 => (ra rfl (eX (cK (ts (rm rfl (ro rfl (dG U_25 (Ht rfl) len_map) (ro rfl (cX (cJ 0)) (eX (eG ?_)))))))))))))))))
 refine T_loop2 (fun (k : Nat) (out : List (List Qi)) => FillS (fun i => (m.getD i default).map Rt.q) m.length out k) (fun (k : Nat) (out : List (List Qi)) => m.length - k) (fun (k : Nat) (out : List (List Qi)) => [(3, Is B8), (9, RatM m), (10, NT .i64 m.length), (11, NT .i64 k)]) (fun (k : Nat) (out : List (List Qi)) => [rowO 31 1 B8 (out.map QsT)]) 0 (List.replicate m.length []) (FillS.start _ _ _)
  (aQ rfl (aQ rfl (aQ rfl (aQ rfl aX)))) (aU (rowO_of (rep_mapF QsT _ _)) aY) (fun k out hS => ?_)
 refine ts (ro rfl (gX (Ht rfl) (Ht rfl)) (eX (cK (dQ (Ht rfl) (fun hk => ?_) (fun hk => ?_)))))
 ·simp only [decide_eq_true_eq] at hk
  have hlen := hS.len
  have hrk : (m.getD k default).length ≤ 1000 := by
   have e : m.getD k default = m[k] := by simp [List.getD, hk]
   rw [e]; exact hr _ (List.getElem_mem hk)
  refine cU (cK (eG (ts (rm rfl (ro rfl (dZ U_25 Z_22 (Ht rfl) (Ht rfl) rfl (dY (dU (d := default) hk))) (ro rfl (dJ A_22 Z_22 (Ht rfl)) (ra rfl (ra rfl (eX (cY (rm rfl (rm rfl (rm rfl (ro rfl (cZ Tryz.call26 (c_refList4 (by omega)) ⟨(Ht rfl), trivial⟩) (ro rfl (op_idxO U_32 Z_31 (Ht rfl) (Ht rfl) rfl (i := 0) rfl (by first | omega | (simp; omega)) rfl) (R_stO Z_31 (Ht rfl) (Ht rfl) El.one (i := 0) rfl rfl (by first | omega | (simp; omega)) rfl (eX (T_blk ?_))))))))))))))))))
  refine cY (ro rfl (dV (Ht rfl) (cJ 1) (by show _ < 9223372036854775808; first | omega | (simp only [lim]; omega))) (rm rfl (eX (fU (k + 1, _) (hS.next hk rfl) (by dsimp only; omega) (aQ rfl (aQ rfl (aQ rfl (aQ rfl aX)))) (aU (rowO_of (set_mapF QsT _ _ _)) aY)))))
 ·simp only [decide_eq_false_iff_not] at hk
  obtain rfl : k = m.length := Nat.le_antisymm hS.kle (by omega)
  have hfin := hS.fin
  rw [tab_list m (fun r => r.map Rt.q)] at hfin
  refine gV rfl (gJ (i := 0) (tt := 3) rfl rfl frz_row (ts (rm rfl (ra rfl (eX (fW rfl (fX (eU rfl) ?_)))))))
  exact (slT_of (by rw [hfin]))
theorem c_is4 {z : List Qi} {s : List (List Qi)} {L : Nat} (hz : FitL z L) (hs : FitM s L) (hL1 : 1 ≤ L) (hL : L ≤ 8796093022208) (hsh : Shp s z.length z.length) (hl : z.length ≤ 1000) : Fun Tryz.prog 90 [NetT z s, RNetT z s] (BoolT true) := by
 have hs1 := hsh.1
 refine Fun.intro Tryz.func90 rfl Tryz.ntmps90 rfl (fun cx => (ts (rn rfl (fG (Ht rfl)) fun B2 => (rn rfl (fG (Ht rfl)) fun B3 => (ro rfl (cQ cV) (eX (cK (cK (fZ (m := 5) (dp 2 rfl (eJ A_30 Z_30 (Ht rfl) (i := 0) rfl rfl rfl) (dq 13 0 rfl (cZ Tryz.call37 c_Ports ⟨(Ht rfl), trivial⟩) (dp 3 rfl (eZ fa_34_0 (Ht rfl) rfl) (dq 15 2 rfl (eY A_31 Z_31 (Ht rfl) (i := 1) rfl rfl) (dq 16 3 rfl (dG U_31 (Ht rfl) len_map) (fV mixed rfl (by kernel_rfl) (aJ (aJ (aJ (aJ (aJ (aV ?_)))))))))))))))))))))
 refine ro rfl (op_neqN (Ht rfl) (Ht rfl)) (eX (T_condF (Ht rfl) (by simp) ?_))
 refine cU (cK (ts (ro rfl (eZ fa_34_0 (Ht rfl) rfl) (ro rfl (eY A_31 Z_31 (Ht rfl) (i := 1) rfl rfl) (ro rfl (dG U_31 (Ht rfl) len_map) (ro rfl (cX (cJ 0)) (eX (eG ?_))))))))
 refine T_loop (fun (i : Nat) => i ≤ z.length) (fun (i : Nat) => z.length - i) (fun (i : Nat) => [(2, PtrB B2 0), (3, PtrB B3 0), (20, QsT z), (21, NT .i64 z.length), (22, NT .i64 i)]) (fun (i : Nat) => [box B2 30 [NumsT z, NumM s], box B3 34 [QsT z, QM s]]) 0 (Nat.zero_le _)
  (aQ rfl (aQ rfl (aQ rfl (aQ rfl (aQ rfl aX))))) (HSub.refl _) (fun i hi => ?_)
 refine ts (ro rfl (gX (Ht rfl) (Ht rfl)) (eX (cK (dQ (Ht rfl) (fun hd => ?_) (fun hd => ?_)))))
 ·simp only [decide_eq_true_eq] at hd
  haveI f1 : FitC (gv z i) L := hz.get hL1 i
  have hsr := hsh.row hd
  refine cU (cK (eG (ts (rm rfl (ro rfl (dZ U_31 Z_98 (Ht rfl) (Ht rfl) rfl (dY (dU (d := Qi.zero) hd))) (ro rfl (dJ A_98 Z_98 (Ht rfl)) (rn rfl (eW (Ts := [Is (.bool false), Is (.slice none 0 0), Is (.bool false), Is (.slice none 0 0), Is (.slice none 0 0)]) O_98 rfl (fun V => aW ⟨rfl, trivial⟩ (aW ⟨rfl, trivial⟩ (aW ⟨rfl, trivial⟩ (aW ⟨rfl, trivial⟩ (aW ⟨rfl, trivial⟩ (aG))))))) fun B6 => (ra rfl (gQ Z_98 (Ht rfl) (Ht rfl) rfl (i := 2) rfl (aK rfl) rfl rfl ?_)))))))))
  refine eX (ts (ro rfl (eJ A_30 Z_30 (Ht rfl) (i := 0) rfl rfl rfl) (rm rfl (ro rfl (dV (Ht rfl) (cJ 1) (by show _ < 9223372036854775808; first | omega | (simp only [lim]; omega))) (ro rfl (cZ Tryz.call63 (eQ (c_Ref (z := z) (s := s) (i := ((i + 1 : Nat) : Int)) (by omega)) (is_ref hd)) ⟨(Ht rfl), (Ht rfl), trivial⟩) (rm rfl (ro rfl (dK (Ht rfl) rfl) (ro rfl (dK (Ht rfl) rfl) (rn rfl (eW (Ts := [Is (.bool false), Is (.slice none 0 0), Is (.bool false), Is (.slice none 0 0), Is (.slice none 0 0)]) O_45 rfl (fun V => aW ⟨rfl, trivial⟩ (aW ⟨rfl, trivial⟩ (aW ⟨rfl, trivial⟩ (aW ⟨rfl, trivial⟩ (aW ⟨rfl, trivial⟩ (aG))))))) fun B7 => ?_)))))))))
  refine gQ Z_45 (Ht rfl) (Ht rfl) rfl (i := 3) rfl (aK rfl) rfl rfl (ra rfl (eX (cK (ts (rm rfl (ro rfl (op_neq (Ht rfl) cV) (rm rfl (fQ rfl rfl (eK rfl rfl (Ht rfl) (fun h => eJ A_45 Z_45 (Ht rfl) (i := 3) rfl rfl rfl)) (fQ rfl rfl (eK rfl rfl (Ht rfl) (fun h => eJ A_98 Z_98 (Ht rfl) (i := 2) rfl rfl rfl)) (fQ rfl rfl (eK rfl rfl (Ht rfl) (fun h => cZ Tryz.call139 (c_lawIs (x := gv z i) (y := gv z i) (L := L) (M := L) hL hL) ⟨(fJ rfl h), (fJ rfl h), trivial⟩)) (fQ rfl rfl (eK rfl rfl (Ht rfl) (fun h => op_not (fJ rfl h))) ?_)))))))))))
  refine ro rfl (op_or (Ht rfl) (fun h => (fJ rfl h))) (eX (T_condF (Ht rfl) (by simp) ?_))
  refine cU (ts (ro rfl (eZ fa_34_1 (Ht rfl) rfl) (ro rfl (eY A_32 Z_32 (Ht rfl) (i := 1) rfl rfl) (rm rfl (ro rfl (dZ U_32 Z_31 (Ht rfl) (Ht rfl) rfl (dY (dU (d := []) (by omega)))) (ro rfl (dJ A_31 Z_31 (Ht rfl)) (ro rfl (dG U_31 (Ht rfl) len_map) (ro rfl (cX (cJ 0)) (eX (eG (T_keep [0, 1] rfl (by decide) ?_)))))))))))
  refine T_loop (fun (j : Nat) => j ≤ z.length) (fun (j : Nat) => z.length - j) (fun (j : Nat) => [(2, PtrB B2 0), (3, PtrB B3 0), (5, NT .i64 i), (20, QsT z), (21, NT .i64 z.length), (22, NT .i64 i), (46, QsT (s.getD i [])), (47, NT .i64 z.length), (48, NT .i64 j)]) (fun (j : Nat) => [box B2 30 [NumsT z, NumM s], box B3 34 [QsT z, QM s]]) 0 (Nat.zero_le _)
   (aQ rfl (aQ rfl (aQ rfl (aQ rfl (aQ rfl (aQ rfl (aQ rfl (aZ rfl (nt_of hsr) (aQ rfl aX))))))))) (HSub.refl _) (fun j hj => ?_)
  refine ts (ro rfl (gX (Ht rfl) (Ht rfl)) (eX (cK (dQ (Ht rfl) (fun hf => ?_) (fun hf => ?_)))))
  ·simp only [decide_eq_true_eq] at hf
   haveI f2 : FitC (gm s i j) L := hs.get hL1 i j
   refine cU (cK (eG (ts (rm rfl (ro rfl (dZ U_31 Z_98 (Ht rfl) (Ht rfl) rfl (dY (dU (d := Qi.zero) (by omega)))) (ro rfl (dJ A_98 Z_98 (Ht rfl)) (rn rfl (eW (Ts := [Is (.bool false), Is (.slice none 0 0), Is (.bool false), Is (.slice none 0 0), Is (.slice none 0 0)]) O_98 rfl (fun V => aW ⟨rfl, trivial⟩ (aW ⟨rfl, trivial⟩ (aW ⟨rfl, trivial⟩ (aW ⟨rfl, trivial⟩ (aW ⟨rfl, trivial⟩ (aG))))))) fun B10 => (ra rfl (gQ Z_98 (Ht rfl) (Ht rfl) rfl (i := 2) rfl (aK rfl) rfl rfl ?_)))))))))
   refine eX (ts (ro rfl (eJ A_30 Z_30 (Ht rfl) (i := 0) rfl rfl rfl) (rm rfl (ro rfl (dV (Ht rfl) (cJ 1) (by show _ < 9223372036854775808; first | omega | (simp only [lim]; omega))) (rm rfl (ro rfl (dV (Ht rfl) (cJ 1) (by show _ < 9223372036854775808; first | omega | (simp only [lim]; omega))) (ro rfl (cZ Tryz.call65 (eQ (c_At (z := z) (s := s) (i := ((i + 1 : Nat) : Int)) (j := ((j + 1 : Nat) : Int)) hsh (by omega)) (is_at hd hf)) ⟨(Ht rfl), (Ht rfl), (Ht rfl), trivial⟩) (rm rfl (ro rfl (dK (Ht rfl) rfl) (ro rfl (dK (Ht rfl) rfl) ?_))))))))))
   refine rn rfl (eW (Ts := [Is (.bool false), Is (.slice none 0 0), Is (.bool false), Is (.slice none 0 0), Is (.slice none 0 0)]) O_45 rfl (fun V => aW ⟨rfl, trivial⟩ (aW ⟨rfl, trivial⟩ (aW ⟨rfl, trivial⟩ (aW ⟨rfl, trivial⟩ (aW ⟨rfl, trivial⟩ (aG))))))) fun B11 => gQ Z_45 (Ht rfl) (Ht rfl) rfl (i := 3) rfl (aK rfl) rfl rfl (ra rfl (eX (ts (rm rfl (ro rfl (op_neq (Ht rfl) cV) (rm rfl (fQ rfl rfl (eK rfl rfl (Ht rfl) (fun h => eJ A_45 Z_45 (Ht rfl) (i := 3) rfl rfl rfl)) ?_)))))))
   refine fQ rfl rfl (eK rfl rfl (Ht rfl) (fun h => eJ A_98 Z_98 (Ht rfl) (i := 2) rfl rfl rfl)) (fQ rfl rfl (eK rfl rfl (Ht rfl) (fun h => cZ Tryz.call139 (c_lawIs (x := gm s i j) (y := gm s i j) (L := L) (M := L) hL hL) ⟨(fJ rfl h), (fJ rfl h), trivial⟩)) (fQ rfl rfl (eK rfl rfl (Ht rfl) (fun h => op_not (fJ rfl h))) (ro rfl (op_or (Ht rfl) (fun h => (fJ rfl h))) (eX (T_condF (Ht rfl) (by simp) ?_)))))
   refine cU (T_blk (cY (ro rfl (dV (Ht rfl) (cJ 1) (by show _ < 9223372036854775808; first | omega | (simp only [lim]; omega))) (rm rfl (eX (T_keep [0, 1] rfl (by decide) (fU (j + 1) hf (by omega) (aQ rfl (aQ rfl (aQ rfl (aQ rfl (aQ rfl (aQ rfl (aQ rfl (aQ rfl (aQ rfl aX))))))))) (HSub.refl _))))))))
  ·refine gV rfl (T_blk (cY (ro rfl (dV (Ht rfl) (cJ 1) (by show _ < 9223372036854775808; first | omega | (simp only [lim]; omega))) (rm rfl (eX (T_keep [0, 1] rfl (by decide) (fU (i + 1) hd (by omega) (aQ rfl (aQ rfl (aQ rfl (aQ rfl (aQ rfl aX))))) (HSub.refl _))))))))
 ·refine gV rfl (ts (ro rfl (cQ cV) (eX ?_)))
  exact fW rfl (eU rfl)
theorem c_ans4 {z : List Qi} {s : List (List Qi)} {e : Int} {L : Nat} (hz : FitL z L) (hs : FitM s L) (hL1 : 1 ≤ L) (hL : L ≤ 8796093022208) (hsh : Shp s z.length z.length) (hl : z.length ≤ 1000) : Fun Tryz.prog 30 [NetT z s, IntT .i64 e, RNetT z s, IntT .i64 e] (BoolT true) := by
 refine Fun.intro Tryz.func30 rfl Tryz.ntmps30 rfl (fun cx => (ts (rn rfl (fG (Ht rfl)) fun B4 => (rn rfl (fG (Ht rfl)) fun B6 => (ro rfl (cQ cV) (eX (ts (rm rfl (rm rfl (ro rfl (op_eql (Ht rfl) (Ht rfl)) (rm rfl (fQ rfl rfl (eK rfl rfl (Ht rfl) (fun h => eJ A_30 Z_30 (Ht rfl) (i := 0) rfl rfl rfl)) (fQ rfl rfl (eK rfl rfl (Ht rfl) (fun h => eJ A_34 Z_34 (Ht rfl) (i := 1) rfl rfl rfl)) (fQ rfl rfl (eK rfl rfl (Ht rfl) (fun h => cZ Tryz.call90 (c_is4 hz hs hL1 hL hsh hl) ⟨(fJ rfl h), (fJ rfl h), trivial⟩)) ?_))))))))))))))
 refine ro rfl (op_and (Ht rfl) (fun h => (fJ rfl h))) (ra rfl (eX (fW rfl (fX (eU rfl) ?_))))
 exact (bool_of (by simp))
end
section
open Go Go.RowKit
theorem tm_bound (x : Int) {b : Int} (h : 0 < b) : -b < x.tmod b ∧ x.tmod b < b := by
 by_cases hx : 0 ≤ x
 ·rw [Int.tmod_eq_emod_of_nonneg hx]
  have h1 := Int.emod_nonneg x (by omega : b ≠ 0)
  have h2 := Int.emod_lt_of_pos x h
  omega
 ·have e : x.tmod b = -((-x).tmod b) := by rw [Int.neg_tmod, Int.neg_neg]
  rw [e, Int.tmod_eq_emod_of_nonneg (by omega : 0 ≤ -x)]
  have h1 := Int.emod_nonneg (-x) (by omega : b ≠ 0)
  have h2 := Int.emod_lt_of_pos (-x) h
  omega
def absI (x : Int) : Int := if x < 0 then -x else x
theorem absI_b {x : Int} {b : Int} (h : -b < x ∧ x < b) : 0 ≤ absI x ∧ absI x < b := by unfold absI; split <;> omega
def smR (r : Rt) : Rt where
 re := r.re.tmod 9
 im := r.im.tmod 9
 den := absI (r.den.tmod 4) + 1
 h1 := by have := tm_bound r.re (b := 9) (by decide); omega
 h2 := by have := tm_bound r.re (b := 9) (by decide); omega
 h3 := by have := tm_bound r.im (b := 9) (by decide); omega
 h4 := by have := tm_bound r.im (b := 9) (by decide); omega
 h5 := by have := absI_b (tm_bound r.den (b := 4) (by decide)); omega
 h6 := by have := absI_b (tm_bound r.den (b := 4) (by decide)); omega
def imR (r : Rt) : Rt where
 re := absI (smR r).re + 1
 im := 0
 den := (smR r).den
 h1 := by have := absI_b (tm_bound r.re (b := 9) (by decide)); show _ ≤ absI (r.re.tmod 9) + 1; omega
 h2 := by have := absI_b (tm_bound r.re (b := 9) (by decide)); show absI (r.re.tmod 9) + 1 ≤ _; omega
 h3 := by decide
 h4 := by decide
 h5 := (smR r).h5
 h6 := (smR r).h6
def pkR (l : List Rt) (i : Nat) : Rt := if l.length = 0 then default else l.getD (i % l.length) default
def plN (a : Nat) : Nat := a % 4 + 1
def plZ (a : Nat) (zl : List Rt) : List Rt := tab (plN a) fun i => imR (pkR zl i)
def plS (a : Nat) (sl : List Rt) : List (List Rt) := tab (plN a) fun i => tab (plN a) fun j => smR (pkR sl (plN a * i + j))
theorem imR_pos (r : Rt) : posQ (imR r).q = true := by
 have h1 := absI_b (tm_bound r.re (b := 9) (by decide))
 have h2 := absI_b (tm_bound r.den (b := 4) (by decide))
 have hd : (imR r).d = absI (r.den.tmod 4) + 1 := by
  show (if absI (r.den.tmod 4) + 1 = 0 then 1 else absI (r.den.tmod 4) + 1) = _
  rw [if_neg (by omega)]
 have hq : (imR r).q = Qi.frac (absI (r.re.tmod 9) + 1) 0 (absI (r.den.tmod 4) + 1) := by rw [Rt.q, hd]; rfl
 have hb : (imR r).q.b = 0 := Qi.b_zero.2 (by rw [hq]; show ((0 : Int) : Rat) / _ = 0; rw [Rat.div_def]; exact Rat.zero_mul _)
 have ha : 0 < (imR r).q.a := by
  rw [Qi.a_pos, hq]
  show (0 : Rat) < ((absI (r.re.tmod 9) + 1 : Int) : Rat) / ((absI (r.den.tmod 4) + 1 : Int) : Rat)
  rw [Rat.div_def]
  refine Rat.mul_pos (Rat.intCast_pos.2 (by omega)) (Rat.inv_pos.2 (Rat.intCast_pos.2 (by omega)))
 simp only [posQ, hb, ha, and_self, decide_true]
theorem pl_err (a : Nat) (zl sl : List Rt) : netErr ((plZ a zl).map Rt.q) (rq (plS a sl)) = 0 := by
 have hz : ((plZ a zl).map Rt.q).length = plN a := by rw [List.length_map, plZ, tab_len]
 have hs : (rq (plS a sl)).length = plN a := by rw [List.length_map, plS, tab_len]
 have hn : plN a ≤ 4 := by unfold plN; omega
 have hn1 : 1 ≤ plN a := by unfold plN; omega
 rw [netErr, if_neg, if_pos]
 ·rw [List.all_eq_true]
  intro x hx
  obtain ⟨r, hr, rfl⟩ := List.mem_map.1 hx
  obtain ⟨i, _, rfl⟩ := tab_mem.1 hr
  exact imR_pos _
 ·rw [hz, hs]
  rintro (h | h | h | h)
  ·omega
  ·omega
  ·exact h rfl
  ·obtain ⟨r, hr, h2⟩ := List.any_eq_true.1 h
   obtain ⟨y, hy, rfl⟩ := List.mem_map.1 hr
   obtain ⟨i, _, rfl⟩ := tab_mem.1 hy
   simp [tab_len] at h2
end
section
open Go Go.RowKit
theorem bld_91_0_1_2 {n : Nat} {E : Env} {H : Hp} {d : Option Tmp} {t : TypeId} {pos : String} {af : Array Edge} {g : Option (Nat × Bool)} {x0 x1 x2 : Operand} {T0 T1 T2 : Ty} [s0 : Shape T0 1 false] (h0 : Has E x0 T0) [s1 : Shape T1 1 false] (h1 : Has E x1 T1) [s2 : Shape T2 1 false] (h2 : Has E x2 T2) :
  OpTy Tryz.prog n E H ⟨d, .build 91 #[(0, x0), (1, x1), (2, x2)], t, pos, af, g⟩ (AggT [T0, T1, T2]) :=
 op_build (parts := [(0, x0), (1, x1), (2, x2)]) fun a V w hs => by
  have p0 := h0 n V a hs
  generalize e0 : a.eval x0 = v0 at p0
  have q0 := (s0.ok v0 V p0).2.2 rfl
  have p1 := h1 n V a hs
  generalize e1 : a.eval x1 = v1 at p1
  have q1 := (s1.ok v1 V p1).2.2 rfl
  have p2 := h2 n V a hs
  generalize e2 : a.eval x2 = v2 at p2
  have q2 := (s2.ok v2 V p2).2.2 rfl
  refine ⟨.agg #[v0, v1, v2], ?_, [v0, v1, v2], rfl, aW (⟨p0, q0⟩) (aW (⟨p1, q1⟩) (aW (⟨p2, q2⟩) (aG)))⟩
  simp [e0, e1, e2, Instr.build, Instr.fill, Sem.run_bind, Result.andThen, cells_agg, q0.cells, q1.cells, q2.cells, O_91, U_91, Z_2]
end
section
open Go Go.RowKit
theorem c_small {r : Rt} : Fun Tryz.prog 161 [RatT r] (RatT (smR r)) := by
 have b1 := tm_bound r.den (b := 4) (by decide)
 refine Fun.intro Tryz.func161 rfl Tryz.ntmps161 rfl (fun cx => (ts (rn rfl (fG (Ht rfl)) fun B1 => (rn rfl (eW (Ts := [Is (.int .i64 0), Is (.int .i64 0), Is (.int .i64 0)]) O_91 rfl (fun V => aW ⟨rfl, trivial⟩ (aW ⟨rfl, trivial⟩ (aW ⟨rfl, trivial⟩ (aG))))) fun B2 => (eX (ts (ro rfl (eZ fa_91_2 (Ht rfl) rfl) (ro rfl (eY A_2 Z_2 (Ht rfl) (i := 0) rfl rfl) (ro rfl (op_rem (Ht rfl) cV (by decide) rfl) (ra rfl (eX (cK (T_join (fun (d : Int) => d = absI (r.den.tmod 4)) (fun (d : Int) => [(1, PtrB B1 0), (2, PtrB B2 0), (3, IntT .i64 d)]) (fun (d : Int) => [box B1 91 [IntT .i64 r.re, IntT .i64 r.im, IntT .i64 r.den], box B2 91 [Is (.int .i64 0), Is (.int .i64 0), Is (.int .i64 0)]]) ?_ (fun d hd => ?_))))))))))))))
 ·refine ts (rm rfl (ro rfl (op_lss (Ht rfl) cV) (eX (dQ (Ht rfl) (fun hb => ?_) (fun hb => ?_)))))
  ·have hb2 : r.den.tmod 4 < 0 := of_decide_eq_true hb
   refine cY (rm rfl (ro rfl (op_neg (Ht rfl) (w64 (by omega))) (ra rfl (eX (T_joined (-(r.den.tmod 4)) (by rw [absI, if_pos hb2]) (aQ rfl (aQ rfl (aQ rfl aX))) (HSub.refl _))))))
  ·have hb2 : ¬ r.den.tmod 4 < 0 := of_decide_eq_false hb
   refine cU (T_joined (r.den.tmod 4) (by rw [absI, if_neg hb2]) (aQ rfl (aQ rfl (aQ rfl aX))) (HSub.refl _))
 ·have b2 := absI_b b1
  rw [← hd] at b2
  refine ts (ro rfl (eZ fa_91_0 (Ht rfl) rfl) (ro rfl (eY A_2 Z_2 (Ht rfl) (i := 0) rfl rfl) (ro rfl (op_rem (Ht rfl) cV (by decide) rfl) (ro rfl (eZ fa_91_1 (Ht rfl) rfl) (ro rfl (eY A_2 Z_2 (Ht rfl) (i := 0) rfl rfl) (ro rfl (op_rem (Ht rfl) cV (by decide) rfl) (rm rfl (ro rfl (op_add (Ht rfl) cV (w64 (by omega))) (ro rfl (bld_91_0_1_2 (Ht rfl) (Ht rfl) (Ht rfl)) (gQ Z_91 (Ht rfl) (Ht rfl) rfl (i := 1) rfl (aK rfl) rfl rfl (eX (fW rfl (fX (fK A_91 Z_91 rfl (i := 1) rfl rfl) ?_)))))))))))))
  exact (fun v V h => by rw [hd] at h; exact h)
theorem c_imped {r : Rt} : Fun Tryz.prog 74 [RatT r] (RatT (imR r)) := by
 have b1 : -9 < (smR r).re ∧ (smR r).re < 9 := tm_bound r.re (b := 9) (by decide)
 refine Fun.intro Tryz.func74 rfl Tryz.ntmps74 rfl (fun cx => (ts (rn rfl (fG (Ht rfl)) fun B1 => (rn rfl (eW (Ts := [Is (.int .i64 0), Is (.int .i64 0), Is (.int .i64 0)]) O_91 rfl (fun V => aW ⟨rfl, trivial⟩ (aW ⟨rfl, trivial⟩ (aW ⟨rfl, trivial⟩ (aG))))) fun B2 => (eX (ts (ro rfl (eJ A_91 Z_91 (Ht rfl) (i := 0) rfl rfl rfl) (ro rfl (cZ Tryz.call161 c_small ⟨(Ht rfl), trivial⟩) (rn rfl (eW (Ts := [Is (.int .i64 0), Is (.int .i64 0), Is (.int .i64 0)]) O_91 rfl (fun V => aW ⟨rfl, trivial⟩ (aW ⟨rfl, trivial⟩ (aW ⟨rfl, trivial⟩ (aG))))) fun B3 => ?_)))))))))
 refine gQ Z_91 (Ht rfl) (Ht rfl) rfl (i := 2) rfl (aK rfl) rfl rfl (eX (cK (T_join (fun (x : Int) => x = absI (smR r).re) (fun (x : Int) => [(1, PtrB B1 0), (2, PtrB B2 0), (3, PtrB B3 0)]) (fun (x : Int) => [box B1 91 [IntT .i64 r.re, IntT .i64 r.im, IntT .i64 r.den], box B2 91 [Is (.int .i64 0), Is (.int .i64 0), Is (.int .i64 0)], box B3 91 [IntT .i64 x, IntT .i64 (smR r).im, IntT .i64 (smR r).den]]) ?_ (fun x hx => ?_))))
 ·refine ts (ro rfl (eZ fa_91_0 (Ht rfl) rfl) (ro rfl (eY A_2 Z_2 (Ht rfl) (i := 2) rfl rfl) (ro rfl (op_lss (Ht rfl) cV) (eX (dQ (Ht rfl) (fun hb => ?_) (fun hb => ?_))))))
  ·have hb2 : (smR r).re < 0 := of_decide_eq_true hb
   refine cY (ro rfl (eZ fa_91_0 (Ht rfl) rfl) (ro rfl (eY A_2 Z_2 (Ht rfl) (i := 2) rfl rfl) (ro rfl (op_neg (Ht rfl) (w64 (by omega))) (ro rfl (eZ fa_91_0 (Ht rfl) rfl) (R_st Z_2 (Ht rfl) (Ht rfl) (i := 2) rfl (aK rfl) rfl (eX (T_joined (-((smR r).re)) (by rw [absI, if_pos hb2]) (aQ rfl (aQ rfl (aQ rfl aX))) (HSub.refl _))))))))
  ·have hb2 : ¬ (smR r).re < 0 := of_decide_eq_false hb
   refine cU (T_joined ((smR r).re) (by rw [absI, if_neg hb2]) (aQ rfl (aQ rfl (aQ rfl aX))) (HSub.refl _))
 ·have b2 := absI_b b1
  rw [← hx] at b2
  refine ts (ro rfl (eZ fa_91_0 (Ht rfl) rfl) (ro rfl (eY A_2 Z_2 (Ht rfl) (i := 2) rfl rfl) (ro rfl (op_add (Ht rfl) cV (w64 (by omega))) (ro rfl (eZ fa_91_2 (Ht rfl) rfl) (ro rfl (eY A_2 Z_2 (Ht rfl) (i := 2) rfl rfl) (ro rfl (bld_91_0_2 (Ht rfl) (Ht rfl)) (gQ Z_91 (Ht rfl) (Ht rfl) rfl (i := 1) rfl (aK rfl) rfl rfl (eX (fW rfl (fX (fK A_91 Z_91 rfl (i := 1) rfl rfl) ?_))))))))))
  exact (fun v V h => by rw [hx] at h; exact h)
theorem c_pick {l : List Rt} {i : Nat} : Fun Tryz.prog 75 [RatsT l, NT .i64 i] (RatT (pkR l i)) := by
 refine Fun.intro Tryz.func75 rfl Tryz.ntmps75 rfl (fun cx => (ts (rn rfl (eW (Ts := [Is (.int .i64 0), Is (.int .i64 0), Is (.int .i64 0)]) O_91 rfl (fun V => aW ⟨rfl, trivial⟩ (aW ⟨rfl, trivial⟩ (aW ⟨rfl, trivial⟩ (aG))))) fun B4 => (eX (cK (ts (rm rfl (ro rfl (dG U_22 (Ht rfl) len_map) (ro rfl (op_eqlN (Ht rfl) (cJ 0)) (eX (dQ (Ht rfl) (fun hb => ?_) (fun hb => ?_))))))))))))
 ·have hb2 : l.length = 0 := by simpa only [decide_eq_true_eq] using hb
  refine ts (ro rfl (bld_91_ ) (gQ Z_91 (Ht rfl) (Ht rfl) rfl (i := 0) rfl (aK rfl) rfl rfl (eX (fW rfl (fX (fK A_91 Z_91 rfl (i := 0) rfl rfl) ?_)))))
  exact (fun v V h => by rw [pkR, if_pos hb2]; exact h)
 ·have hb2 : ¬ l.length = 0 := by simpa only [decide_eq_false_iff_not] using hb
  have hm := Nat.mod_lt i (Nat.pos_of_ne_zero hb2)
  refine cU (ts (rm rfl (rm rfl (rm rfl (ro rfl (dG U_22 (Ht rfl) len_map) (ro rfl (op_remN (Ht rfl) (Ht rfl) (by omega)) (ro rfl (dZ U_22 Z_91 (Ht rfl) (Ht rfl) rfl (dY (dU (d := default) hm))) (ro rfl (dJ A_91 Z_91 (Ht rfl)) (gQ Z_91 (Ht rfl) (Ht rfl) rfl (i := 0) rfl (aK rfl) rfl rfl (eX (fW rfl (fX (fK A_91 Z_91 rfl (i := 0) rfl rfl) ?_))))))))))))
  exact (fun v V h => by rw [pkR, if_neg hb2]; exact h)
end
section
open Go Go.RowKit
namespace Qi
def npow' (x : Qi) : Nat → Qi
 | 0 => Qi.ofInt 1
 | k + 1 => npow' x k * x
theorem one_mul2 (x : Qi) : Qi.ofInt 1 * x = x := ext' (by show ((1 : Int) : Rat) * x.re - 0 * x.im = x.re; grind) (by show ((1 : Int) : Rat) * x.im + 0 * x.re = x.im; grind)
theorem mul_one2 (x : Qi) : x * Qi.ofInt 1 = x := by rw [mul_comm', one_mul2]
end Qi
instance qiField : Lean.Grind.CommRing Qi where
 natCast := ⟨fun n => Qi.ofInt n⟩
 ofNat n := ⟨Qi.ofInt n⟩
 nsmul := ⟨fun n x => Qi.ofInt n * x⟩
 npow := ⟨Qi.npow'⟩
 add_zero := Qi.add_zero'
 add_comm := Qi.add_comm'
 add_assoc := Qi.add_assoc'
 mul_assoc := Qi.mul_assoc'
 mul_comm := Qi.mul_comm'
 mul_one := Qi.mul_one2
 one_mul := Qi.one_mul2
 left_distrib := Qi.mul_add'
 right_distrib := Qi.add_mul'
 zero_mul := Qi.zero_mul'
 mul_zero := Qi.mul_zero'
 pow_zero _ := rfl
 pow_succ _ _ := rfl
 ofNat_succ n := Qi.ext' (by show (((n + 1 : Nat) : Int) : Rat) = ((n : Int) : Rat) + ((1 : Int) : Rat); rw [Int.natCast_add, Rat.intCast_add]; rfl) (by show (0 : Rat) = 0 + 0; grind)
 intCast := ⟨Qi.ofInt⟩
 zsmul := ⟨fun n x => Qi.ofInt n * x⟩
 neg_add_cancel x := Qi.ext' (by show -x.re + x.re = ((0 : Int) : Rat); grind) (by show -x.im + x.im = 0; grind)
 sub_eq_add_neg := Qi.sub_def
 neg_zsmul i x := Qi.ext' (by show ((-i : Int) : Rat) * x.re - 0 * x.im = -((i : Rat) * x.re - 0 * x.im); rw [Rat.intCast_neg]; grind) (by show ((-i : Int) : Rat) * x.im + 0 * x.re = -((i : Rat) * x.im + 0 * x.re); rw [Rat.intCast_neg]; grind)
 intCast_neg i := Qi.ext' (Rat.intCast_neg i) (by show (0 : Rat) = -0; grind)
theorem q0 : Qi.zero = 0 := rfl
theorem q1 : Qi.ofInt 1 = 1 := rfl
theorem mul_inv2 {x : Qi} (h : x ≠ 0) : x * Qi.inv x = 1 := by
 have hn : x.nrm ≠ 0 := fun e => h (Qi.nrm_zero.1 e)
 have e : x.re * x.re + x.im * x.im = x.nrm := rfl
 refine Qi.ext' ?_ ?_
 ·show x.re * (x.re / x.nrm) - x.im * (-x.im / x.nrm) = ((1 : Int) : Rat)
  grind
 ·show x.re * (-x.im / x.nrm) + x.im * (x.re / x.nrm) = 0
  grind
theorem div_eq {x y : Qi} (h : y ≠ 0) : x / y * y = x := by
 rw [Qi.div_def]
 have := mul_inv2 h
 grind
theorem mul_zero_or {x y : Qi} (h : x * y = 0) : x = 0 ∨ y = 0 := by
 by_cases e : x = 0
 ·exact .inl e
 ·right; have := mul_inv2 e; grind
end
section
open Go Go.RowKit
theorem sumN_sub (m : Nat) (f : Qi) (a b : Nat → Qi) : sumN m (fun k => a k - f * b k) = sumN m a - f * sumN m b := by
 induction m with
 | zero => simp only [sumN, q0]; grind
 | succ m ih => simp only [sumN, ih]; grind
theorem sumN_single {m i : Nat} (hi : i < m) {f : Nat → Qi} (h : ∀ k, k < m → k ≠ i → f k = 0) : sumN m f = f i := by
 induction m with
 | zero => omega
 | succ m ih =>
  by_cases e : i = m
  ·subst e
   have : sumN i f = 0 := by
    rw [← q0, ← sumN_zero i]
    exact sumN_congr fun k hk => h k (by omega) (by omega)
   simp only [sumN, this]; grind
  ·have h1 := ih (by omega) (fun k hk => h k (by omega))
   have h2 := h m (by omega) (by omega)
   simp only [sumN, h1, h2]; grind
theorem sumN_two {m i c : Nat} (hi : i < m) (hc : c < m) (hic : i ≠ c) {f : Nat → Qi} (h : ∀ k, k < m → k ≠ i → k ≠ c → f k = 0) : sumN m f = f i + f c := by
 have e : sumN m f = sumN m fun k => (if k = i then f i else 0) + (if k = c then f c else 0) := sumN_congr fun k hk => by
  by_cases e1 : k = i
  ·subst e1; rw [if_pos rfl, if_neg hic]; grind
  ·by_cases e2 : k = c
   ·subst e2; rw [if_neg e1, if_pos rfl]; grind
   ·rw [if_neg e1, if_neg e2, h k hk e1 e2]; grind
 rw [e, sumN_add, sumN_single hi (fun k _ hk => if_neg hk), sumN_single hc (fun k _ hk => if_neg hk), if_pos rfl, if_pos rfl]
theorem sumN_all0 {m : Nat} {f : Nat → Qi} (h : ∀ k, k < m → f k = 0) : sumN m f = 0 := by
 rw [← q0, ← sumN_zero m]; exact sumN_congr h
def Ker (M : List (List Qi)) (n m : Nat) (x : Nat → Qi) : Prop := ∀ i, i < n → sumN m (fun k => gm M i k * x k) = 0
def redJR (rr rc : List Qi) (c k : Nat) : List Qi := tab rr.length fun j => if c ≤ j ∧ j < k then gv rr j - gv rr c / gv rc c * gv rc j else gv rr j
def redJ (M : List (List Qi)) (c r : Nat) : List (List Qi) := tab M.length fun i => if i ≠ c ∧ i < r then redJR (rw' M i) (rw' M c) c (rw' M i).length else rw' M i
def gjTo (M : List (List Qi)) : Nat → Option (List (List Qi))
 | 0 => some M
 | c + 1 => (gjTo M c).bind fun A => if pv A c M.length = M.length then none else some (redJ (swp [] A (pv A c M.length) c) c M.length)
theorem redJ_len (M : List (List Qi)) (c r : Nat) : (redJ M c r).length = M.length := tab_len _ _
theorem redJR_len (rr rc : List Qi) (c k : Nat) : (redJR rr rc c k).length = rr.length := tab_len _ _
theorem redJ_row {M : List (List Qi)} {c r i : Nat} (hi : i < M.length) : rw' (redJ M c r) i = if i ≠ c ∧ i < r then redJR (rw' M i) (rw' M c) c (rw' M i).length else rw' M i := by
 simp only [rw', redJ, List.getD]; rw [tab_get hi]; rfl
theorem redJ_shp {M : List (List Qi)} {n m c r : Nat} (h : Shp M n m) : Shp (redJ M c r) n m := by
 refine ⟨(redJ_len _ _ _).trans h.1, fun x hx => ?_⟩
 obtain ⟨i, hi, rfl⟩ := tab_mem.1 hx
 have hr := h.row (i := i) (by rw [← h.1]; exact hi)
 show (if i ≠ c ∧ i < r then redJR (rw' M i) (rw' M c) c (rw' M i).length else rw' M i).length = m
 split
 ·rw [redJR_len]; exact hr
 ·exact hr
theorem redJ_gm {M : List (List Qi)} {n m c i j : Nat} (h : Shp M n m) (hi : i < n) (hj : j < m) : gm (redJ M c n) i j = if i ≠ c ∧ c ≤ j then gm M i j - gm M i c / gm M c c * gm M c j else gm M i j := by
 have hr : (rw' M i).length = m := h.row hi
 show gv (rw' (redJ M c n) i) j = _
 rw [redJ_row (by rw [h.1]; exact hi)]
 by_cases e : i = c
 ·rw [if_neg (fun k => k.1 e), if_neg (fun k => k.1 e)]
 ·rw [if_pos ⟨e, hi⟩, redJR, gv_tab (by omega)]
  by_cases e2 : c ≤ j
  ·rw [if_pos ⟨e2, by omega⟩, if_pos ⟨e, e2⟩]
  ·rw [if_neg (fun k => e2 k.1), if_neg (fun k => e2 k.2)]
theorem swp_rw {M : List (List Qi)} {p c i : Nat} (hp : p < M.length) (hc : c < M.length) : rw' (swp [] M p c) i = rw' M (if i = c then p else if i = p then c else i) := by
 simp only [rw', swp, List.getD]
 by_cases e : i = c
 ·subst e; rw [List.getElem?_set_self (by simpa using hc), if_pos rfl]; rfl
 ·rw [List.getElem?_set_ne (Ne.symm e), if_neg e]
  by_cases e2 : i = p
  ·subst e2; rw [List.getElem?_set_self hp, if_pos rfl]; rfl
  ·rw [List.getElem?_set_ne (Ne.symm e2), if_neg e2]
theorem ker_swp {M : List (List Qi)} {n m p c : Nat} {x : Nat → Qi} (hl : M.length = n) (hp : p < n) (hc : c < n) : Ker (swp [] M p c) n m x ↔ Ker M n m x := by
 have key : ∀ i, gm (swp [] M p c) i = gm M (if i = c then p else if i = p then c else i) := fun i => by
  funext j; exact congrArg (fun r => gv r j) (swp_rw (by omega) (by omega))
 constructor
 ·intro h i hi
  have h1 := h (if i = c then p else if i = p then c else i) (by split <;> (try split) <;> omega)
  rw [key] at h1
  have e : (if (if i = c then p else if i = p then c else i) = c then p else if (if i = c then p else if i = p then c else i) = p then c else (if i = c then p else if i = p then c else i)) = i := by
   by_cases e1 : i = c
   ·subst e1; rw [if_pos rfl]
    by_cases e2 : p = i
    ·rw [if_pos e2]; exact e2
    ·rw [if_neg e2, if_pos rfl]
   ·rw [if_neg e1]
    by_cases e2 : i = p
    ·subst e2; rw [if_pos rfl, if_pos rfl]
    ·rw [if_neg e2, if_neg e1, if_neg e2]
  rw [e] at h1; exact h1
 ·intro h i hi
  rw [key]; exact h _ (by split <;> (try split) <;> omega)
theorem ker_red {M : List (List Qi)} {n m c : Nat} {x : Nat → Qi} (hs : Shp M n m) (hc : c < n) (hz : ∀ j, j < c → gm M c j = 0) : Ker (redJ M c n) n m x ↔ Ker M n m x := by
 have key : ∀ i, i < n → i ≠ c → sumN m (fun k => gm (redJ M c n) i k * x k) = sumN m (fun k => gm M i k * x k) - gm M i c / gm M c c * sumN m (fun k => gm M c k * x k) := fun i hi e => by
  rw [← sumN_sub]
  refine sumN_congr fun k hk => ?_
  rw [redJ_gm hs hi hk]
  by_cases e2 : c ≤ k
  ·rw [if_pos ⟨e, e2⟩]; grind
  ·rw [if_neg (fun h => e2 h.2), hz k (by omega)]; grind
 have keyc : sumN m (fun k => gm (redJ M c n) c k * x k) = sumN m (fun k => gm M c k * x k) := sumN_congr fun k hk => by rw [redJ_gm hs hc hk, if_neg (fun h => h.1 rfl)]
 constructor
 ·intro h i hi
  have h0 := h c hc
  rw [keyc] at h0
  by_cases e : i = c
  ·rw [e]; exact h0
  ·have h1 := h i hi
   rw [key i hi e, h0] at h1
   grind
 ·intro h i hi
  have h0 := h c hc
  by_cases e : i = c
  ·rw [e, keyc]; exact h0
  ·rw [key i hi e, h0, h i hi]; grind
structure GJ (M A : List (List Qi)) (n m c : Nat) : Prop where
 sh : Shp A n m
 ker : ∀ x, Ker A n m x ↔ Ker M n m x
 off : ∀ j, j < c → ∀ i, i < n → i ≠ j → gm A i j = 0
 dg : ∀ j, j < c → gm A j j ≠ 0
theorem GJ.next {M A : List (List Qi)} {n m c p : Nat} (h : GJ M A n m c) (hc : c < n) (hnm : n ≤ m) (hcp : c ≤ p) (hp : p < n) (hz : gm A p c ≠ 0) : GJ M (redJ (swp [] A p c) c n) n m (c + 1) := by
 have hs : Shp (swp [] A p c) n m := swp_shp h.sh hp hc
 have hl := h.sh.1
 have key : ∀ i, gm (swp [] A p c) i = gm A (if i = c then p else if i = p then c else i) := fun i => by
  funext j; exact congrArg (fun r => gv r j) (swp_rw (by omega) (by omega))
 have hcc : gm (swp [] A p c) c c ≠ 0 := by rw [key, if_pos rfl]; exact hz
 have hoff : ∀ j, j < c → ∀ i, i < n → i ≠ j → gm (swp [] A p c) i j = 0 := fun j hj i hi hij => by
  rw [key]
  by_cases e1 : i = c
  ·rw [if_pos e1]; exact h.off j hj p hp (by omega)
  ·rw [if_neg e1]
   by_cases e2 : i = p
   ·rw [if_pos e2]; exact h.off j hj c hc (by omega)
   ·rw [if_neg e2]; exact h.off j hj i hi hij
 refine ⟨redJ_shp hs, fun x => (ker_red hs hc (fun j hj => hoff j hj c hc (by omega))).trans ((ker_swp hl hp hc).trans (h.ker x)), fun j hj i hi hij => ?_, fun j hj => ?_⟩
 ·rw [redJ_gm hs hi (by omega)]
  by_cases e : j = c
  ·subst e
   rw [if_pos ⟨hij, Nat.le_refl _⟩]
   have := div_eq (x := gm (swp [] A p j) i j) hcc
   grind
  ·rw [if_neg (fun k => by omega)]; exact hoff j (by omega) i hi hij
 ·rw [redJ_gm hs (by omega) (by omega)]
  by_cases e : j = c
  ·subst e; rw [if_neg (fun k => k.1 rfl)]; exact hcc
  ·rw [if_neg (fun k => by omega), key, if_neg (by omega), if_neg (by omega)]; exact h.dg j (by omega)
theorem gj_inv {M : List (List Qi)} {n m : Nat} (hs : Shp M n m) (hnm : n ≤ m) : ∀ {c : Nat} {A : List (List Qi)}, c ≤ n → gjTo M c = some A → GJ M A n m c
 | 0, A, _, h => by
  obtain rfl := Option.some.inj h
  exact ⟨hs, fun _ => Iff.rfl, fun j hj => by omega, fun j hj => by omega⟩
 | c + 1, A, hc, h => by
  simp only [gjTo] at h
  obtain ⟨B, h1, h2⟩ := Option.bind_eq_some_iff.1 h
  split at h2
  ·cases h2
  ·rename_i e
   obtain rfl := Option.some.inj h2
   have ih := gj_inv hs hnm (c := c) (by omega) h1
   rw [hs.1] at e ⊢
   obtain ⟨_, i2, i3, i4⟩ := pv_spec (M := B) (c := c) (n := n) (by omega)
   exact ih.next (by omega) hnm i2 (by omega) (i4 (by omega))
theorem gj_stop {M : List (List Qi)} : ∀ {n : Nat}, gjTo M n = none → ∃ c A, c < n ∧ gjTo M c = some A ∧ pv A c M.length = M.length
 | 0, h => by cases h
 | c + 1, h => by
  cases e : gjTo M c with
  | none =>
   obtain ⟨d, A, h1, h2, h3⟩ := gj_stop e
   exact ⟨d, A, by omega, h2, h3⟩
  | some A =>
   refine ⟨c, A, by omega, e, ?_⟩
   simp only [gjTo, e, Option.bind_some] at h
   by_cases e2 : pv A c M.length = M.length
   ·exact e2
   ·rw [if_neg e2] at h; cases h
theorem gj_sol {M A : List (List Qi)} {n : Nat} (h : GJ M A n (n + 1) n) : Ker M n (n + 1) fun k => if k < n then gm A k n / gm A k k else -1 := (h.ker _).1 fun i hi => by
 have hd := h.dg i hi
 have e : sumN n (fun k => gm A i k * if k < n then gm A k n / gm A k k else -1) = gm A i n := by
  rw [sumN_single hi (fun k hk hki => by rw [h.off k hk i hi (Ne.symm hki)]; grind), if_pos hi]
  have := div_eq (x := gm A i n) hd
  grind
 simp only [sumN, e]
 rw [if_neg (by omega)]; grind
theorem gj_triv {M A : List (List Qi)} {n : Nat} (h : GJ M A n (n + 1) n) {x : Nat → Qi} (hx : Ker M n (n + 1) x) (h0 : x n = 0) : ∀ k, k < n → x k = 0 := fun k hk => by
 have h1 := (h.ker x).2 hx k hk
 have e : sumN n (fun j => gm A k j * x j) = gm A k k * x k := sumN_single hk (fun j hj hjk => by rw [h.off j hj k hk (Ne.symm hjk)]; grind)
 simp only [sumN, e, h0] at h1
 rcases mul_zero_or (x := gm A k k) (y := x k) (by grind) with h2 | h2
 ·exact absurd h2 (h.dg k hk)
 ·exact h2
theorem gj_sing {M A : List (List Qi)} {n m c : Nat} (h : GJ M A n m c) (hc : c < n) (hnm : n ≤ m) (hz : ∀ r, c ≤ r → r < n → gm A r c = 0) : Ker M n m fun k => if k < c then -(gm A k c / gm A k k) else if k = c then 1 else 0 := (h.ker _).1 fun i hi => by
 by_cases e : i < c
 ·rw [sumN_two (i := i) (c := c) (by omega) (by omega) (by omega) (fun k hk h1 h2 => ?_)]
  ·rw [if_pos e, if_neg (by omega), if_pos rfl]
   have := div_eq (x := gm A i c) (h.dg i e)
   grind
  ·by_cases e2 : k < c
   ·rw [h.off k e2 i hi (Ne.symm h1)]; grind
   ·rw [if_neg e2, if_neg h2]; grind
 ·refine sumN_all0 fun k hk => ?_
  by_cases e2 : k < c
  ·rw [h.off k e2 i hi (by omega)]; grind
  ·rw [if_neg e2]
   by_cases e3 : k = c
   ·rw [e3, hz i (by omega) hi]; grind
   ·rw [if_neg e3]; grind
def gjX (M : List (List Qi)) (b : List Qi) (n : Nat) : Option (List Qi) := (gjTo (copyM M [b] n) n).map fun A => tab n fun i => gm A i n / gm A i i
theorem gv_app {l : List Qi} {z : Qi} {k : Nat} (h : k < l.length) : gv (l ++ [z]) k = gv l k := by
 simp only [gv, List.getD]; rw [List.getElem?_append_left h]
theorem gv_end {l : List Qi} {z : Qi} : gv (l ++ [z]) l.length = z := by
 simp [gv, List.getD]
theorem cp_gm {M : List (List Qi)} {b : List Qi} {n i : Nat} (h : Shp M n n) (hi : i < n) : (∀ k, k < n → gm (copyM M [b] n) i k = gm M i k) ∧ gm (copyM M [b] n) i n = gv b i := by
 obtain ⟨r, hr⟩ : ∃ r, r = rw' M i := ⟨_, rfl⟩
 have hl : r.length = n := by rw [hr]; exact h.row hi
 have e : rw' (copyM M [b] n) i = r ++ [gv b i] := by
  rw [hr]; simp only [rw', copyM, List.getD]; rw [tab_get hi]; rfl
 refine ⟨fun k hk => ?_, ?_⟩
 ·show gv (rw' (copyM M [b] n) i) k = gv (rw' M i) k
  rw [e, ← hr, gv_app (by omega)]
 ·show gv (rw' (copyM M [b] n) i) n = gv b i
  rw [e, ← hl, gv_end]
theorem cp_sum {M : List (List Qi)} {b : List Qi} {n i : Nat} (h : Shp M n n) (hi : i < n) (x : Nat → Qi) : sumN (n + 1) (fun k => gm (copyM M [b] n) i k * x k) = sumN n (fun k => gm M i k * x k) + gv b i * x n := by
 obtain ⟨h1, h2⟩ := cp_gm (b := b) h hi
 simp only [sumN, h2]
 rw [sumN_congr (fun k hk => by rw [h1 k hk])]
theorem gjX_some {M : List (List Qi)} {b X : List Qi} {n : Nat} (h : Shp M n n) (hX : gjX M b n = some X) : X.length = n ∧ (∀ i, i < n → sumN n (fun k => gm M i k * gv X k) = gv b i) ∧ ∀ y : Nat → Qi, (∀ i, i < n → sumN n (fun k => gm M i k * y k) = 0) → ∀ k, k < n → y k = 0 := by
 obtain ⟨A, hA, rfl⟩ := Option.map_eq_some_iff.1 hX
 have hg := gj_inv (copyM_shp (bs := [b]) h) (Nat.le_succ n) (Nat.le_refl n) hA
 refine ⟨tab_len _ _, fun i hi => ?_, fun y hy k hk => ?_⟩
 ·have h1 := gj_sol hg i hi
  rw [cp_sum h hi] at h1
  have e : sumN n (fun k => gm M i k * if k < n then gm A k n / gm A k k else -1) = sumN n (fun k => gm M i k * gv (tab n fun i => gm A i n / gm A i i) k) := sumN_congr fun k hk => by rw [if_pos hk, gv_tab hk]
  rw [e, if_neg (by omega)] at h1
  grind
 ·have h1 := gj_triv hg (x := fun k => if k < n then y k else 0) (fun i hi => ?_) (if_neg (by omega)) k hk
  ·simpa [hk] using h1
  ·rw [cp_sum h hi, if_neg (by omega), sumN_congr (fun k hk => by rw [if_pos hk]), hy i hi]; grind
theorem gjX_none {M : List (List Qi)} {b : List Qi} {n : Nat} (h : Shp M n n) (hX : gjX M b n = none) : ∃ y : Nat → Qi, (∀ i, i < n → sumN n (fun k => gm M i k * y k) = 0) ∧ ∃ k, k < n ∧ y k ≠ 0 := by
 have hcs : Shp (copyM M [b] n) n (n + 1) := copyM_shp h
 obtain ⟨c, A, hc, hA, hp⟩ := gj_stop (Option.map_eq_none_iff.1 hX)
 have hg := gj_inv hcs (Nat.le_succ n) (by omega) hA
 rw [hcs.1] at hp
 have hz := (pv_spec (M := A) (c := c) (n := n) (by omega)).1
 rw [hp] at hz
 have hk := gj_sing hg hc (Nat.le_succ n) hz
 refine ⟨fun k => if k < c then -(gm A k c / gm A k k) else if k = c then 1 else 0, fun i hi => ?_, c, hc, ?_⟩
 ·have h1 := hk i hi
  rw [cp_sum h hi, if_neg (by omega), if_neg (by omega)] at h1
  grind
 ·show (if c < c then -(gm A c c / gm A c c) else if c = c then (1 : Qi) else 0) ≠ 0
  rw [if_neg (by omega), if_pos rfl]
  intro e
  have := congrArg Qi.re e
  exact absurd this (by decide)
theorem redJR_fit {rr rc : List Qi} {L c k : Nat} (h1 : FitL rr L) (h2 : FitL rc L) (hL : 1 ≤ L) (hp : gv rc c ≠ Qi.zero) : FitL (redJR rr rc c k) (6 * L + 4) := FitL.tab fun j _ => by
 split
 ·exact elt_fit h1 h2 hL hp
 ·exact (h1.get hL j).le (by omega)
theorem redJ_fit {M : List (List Qi)} {L c r : Nat} (h : FitM M L) (hL : 1 ≤ L) (hp : gm M c c ≠ Qi.zero) : FitM (redJ M c r) (6 * L + 4) := fun x hx => by
 obtain ⟨i, hi, rfl⟩ := tab_mem.1 hx
 show FitL (if i ≠ c ∧ i < r then redJR (rw' M i) (rw' M c) c (rw' M i).length else rw' M i) _
 split
 ·exact redJR_fit (h.row i) (h.row c) hL hp
 ·exact (h.row i).le (by omega)
theorem gj_fit {M : List (List Qi)} {n m L : Nat} (hs : Shp M n m) (hnm : n ≤ m) (h : FitM M L) (hL : 1 ≤ L) : ∀ {c : Nat} {A : List (List Qi)}, c ≤ n → gjTo M c = some A → FitM A (grow L c)
 | 0, A, _, e => by obtain rfl := Option.some.inj e; exact h
 | c + 1, A, hc, e => by
  simp only [gjTo] at e
  obtain ⟨B, h1, h2⟩ := Option.bind_eq_some_iff.1 e
  split at h2
  ·cases h2
  ·rename_i e3
   obtain rfl := Option.some.inj h2
   have ih := gj_fit hs hnm h hL (c := c) (by omega) h1
   have hsB := (gj_inv hs hnm (c := c) (by omega) h1).sh
   rw [hs.1] at e3 ⊢
   obtain ⟨_, i2, i3, i4⟩ := pv_spec (M := B) (c := c) (n := n) (by omega)
   refine redJ_fit (swp_fit ih) (Nat.le_trans hL (grow_le L c)) ?_
   show gv (rw' (swp [] _ _ c) c) c ≠ _
   rw [swp_at (by rw [hsB.1]; omega)]
   exact i4 (by omega)
theorem redJR_start {rr rc : List Qi} {c : Nat} : rr = redJR rr rc c c := by
 unfold redJR
 have : (tab rr.length fun j => if c ≤ j ∧ j < c then gv rr j - gv rr c / gv rc c * gv rc j else gv rr j) = tab rr.length (gv rr) := tab_congr fun j _ => by rw [if_neg (by omega)]
 rw [this]; exact list_tab rfl
theorem redJR_get {rr rc : List Qi} {c k : Nat} (hk : k < rr.length) : gv (redJR rr rc c k) k = gv rr k := by
 rw [redJR, gv_tab hk, if_neg (by omega)]
theorem redJR_next {rr rc : List Qi} {c k : Nat} (hk : k < rr.length) (h : c ≤ k) : (redJR rr rc c k).set k (gv (redJR rr rc c k) k - gv rr c / gv rc c * gv rc k) = redJR rr rc c (k + 1) := by
 rw [redJR_get hk]
 apply List.ext_getElem?
 intro j
 by_cases hj : j < rr.length
 ·by_cases e : j = k
  ·subst e
   rw [List.getElem?_set_self (by rw [redJR_len]; exact hj), redJR, tab_get hj, if_pos (by omega)]
  ·rw [List.getElem?_set_ne (Ne.symm e), redJR, redJR, tab_get hj, tab_get hj]
   by_cases e2 : c ≤ j ∧ j < k
   ·rw [if_pos e2, if_pos (by omega)]
   ·rw [if_neg e2, if_neg (by omega)]
 ·rw [List.getElem?_eq_none (by rw [List.length_set, redJR_len]; omega), List.getElem?_eq_none (by rw [redJR_len]; omega)]
theorem redJ_start {M : List (List Qi)} {c : Nat} : M = redJ M c 0 := by
 unfold redJ
 have : (tab M.length fun i => if i ≠ c ∧ i < 0 then redJR (rw' M i) (rw' M c) c (rw' M i).length else rw' M i) = tab M.length (rw' M) := tab_congr fun i _ => by rw [if_neg (by omega)]
 rw [this]; exact tab_eq (h := rfl)
theorem redJ_at {M : List (List Qi)} {c r i : Nat} (hi : i < M.length) (h : ¬ (i ≠ c ∧ i < r)) : rw' (redJ M c r) i = rw' M i := by rw [redJ_row hi, if_neg h]
theorem redJ_skip {M : List (List Qi)} {c : Nat} : redJ M c c = redJ M c (c + 1) := tab_congr fun i _ => by
 by_cases e : i ≠ c ∧ i < c
 ·rw [if_pos e, if_pos (by omega)]
 ·rw [if_neg e, if_neg (by omega)]
theorem redJ_next {M : List (List Qi)} {c r : Nat} (hr : r < M.length) (h : r ≠ c) : (redJ M c r).set r (redJR (rw' M r) (rw' M c) c (rw' M r).length) = redJ M c (r + 1) := by
 apply List.ext_getElem?
 intro j
 by_cases hj : j < M.length
 ·by_cases e : j = r
  ·subst e
   rw [List.getElem?_set_self (by rw [redJ_len]; exact hj), redJ, tab_get hj, if_pos ⟨h, by omega⟩]
  ·rw [List.getElem?_set_ne (Ne.symm e), redJ, redJ, tab_get hj, tab_get hj]
   by_cases e2 : j ≠ c ∧ j < r
   ·rw [if_pos e2, if_pos ⟨e2.1, by omega⟩]
   ·rw [if_neg e2, if_neg (fun k => e2 ⟨k.1, by omega⟩)]
 ·rw [List.getElem?_eq_none (by rw [List.length_set, redJ_len]; omega), List.getElem?_eq_none (by rw [redJ_len]; omega)]
theorem stepJ_row {D : List (List Qi)} {r c : Nat} (hr : r < D.length) (h : r ≠ c) (hc : c < D.length) :
  (redJ D c r).set r (redJR (rw' (redJ D c r) r) (rw' (redJ D c r) c) c (rw' (redJ D c r) r).length) = redJ D c (r + 1) := by
 rw [redJ_at hr (by omega), redJ_at hc (by omega)]; exact redJ_next hr h
theorem stepJ_elt {X : List (List Qi)} {r c k : Nat} (hr : r < X.length) (hne : r ≠ c) (hk : k < (rw' X r).length) (hck : c ≤ k) :
  (X.set r (redJR (rw' X r) (rw' X c) c k)).set r ((rw' (X.set r (redJR (rw' X r) (rw' X c) c k)) r).set k (gm (X.set r (redJR (rw' X r) (rw' X c) c k)) r k - gm X r c / gm X c c * gm (X.set r (redJR (rw' X r) (rw' X c) c k)) c k)) = X.set r (redJR (rw' X r) (rw' X c) c (k + 1)) := by
 rw [set_set', rw_set hr]
 have e1 : gm (X.set r (redJR (rw' X r) (rw' X c) c k)) r k = gv (redJR (rw' X r) (rw' X c) c k) k := by show gv (rw' (X.set r _) r) k = _; rw [rw_set hr]
 have e2 : gm (X.set r (redJR (rw' X r) (rw' X c) c k)) c k = gv (rw' X c) k := by show gv (rw' (X.set r _) c) k = _; rw [rw_set_ne hne]
 rw [e1, e2]
 exact congrArg _ (redJR_next hk hck)
theorem eltJ_r {X : List (List Qi)} {r c k : Nat} (hr : r < X.length) (hk : k < (rw' X r).length) : gm (X.set r (redJR (rw' X r) (rw' X c) c k)) r k = gv (rw' X r) k := by
 show gv (rw' (X.set r _) r) k = _
 rw [rw_set hr, redJR_get hk]
theorem eltJ_c {X : List (List Qi)} {r c k j : Nat} (h : r ≠ c) : gm (X.set r (redJR (rw' X r) (rw' X c) c k)) c j = gv (rw' X c) j := by
 show gv (rw' (X.set r _) c) j = _
 rw [rw_set_ne h]
theorem gj_next {M A : List (List Qi)} {n c p : Nat} (hl : M.length = n) (hA : gjTo M c = some A) (hp : pv A c n = p) (hpn : p < n) : gjTo M (c + 1) = some (redJ (swp [] A p c) c n) := by
 simp only [gjTo, hA, Option.bind_some, hl, hp]
 rw [if_neg (by omega)]
theorem gj_end {M A : List (List Qi)} {n c : Nat} (hl : M.length = n) (hA : gjTo M c = some A) (hp : pv A c n = n) : ∀ {d : Nat}, c < d → gjTo M d = none
 | 0, h => by omega
 | d + 1, h => by
  simp only [gjTo]
  by_cases e : c = d
  ·rw [← e, hA, Option.bind_some, hl, if_pos hp]
  ·rw [gj_end hl hA hp (d := d) (by omega)]; rfl
def gjL (M : List (List Qi)) (b : List Qi) (n : Nat) : List Qi := (gjX M b n).getD []
def gjE (M : List (List Qi)) (b : List Qi) (n : Nat) : Int := if (gjX M b n).isSome then 0 else 6
end
section
open Go Go.RowKit
theorem c_rValid {M : List (List Qi)} {n m : Nat} (h : Shp M n m) (hn : n ≤ 32) (hm : m ≤ 32) : Fun Tryz.prog 214 [QM M] (BoolT true) := by
 have hl := h.1
 refine Fun.intro Tryz.func214 rfl Tryz.ntmps214 rfl (fun cx => (ts (ro rfl (cQ cV) (eX (cK (ts (rm rfl (ro rfl (dG U_32 (Ht rfl) len_map) (ro rfl (op_gtrN (Ht rfl) (cJ 32)) (eX (T_condF (Ht rfl) (by simp [hl]; omega) ?_)))))))))))
 refine cU (cK (ts (ro rfl (cQ (cJ 0)) (eX (eG ?_)))))
 refine T_loop (fun (i : Nat) => i ≤ n) (fun (i : Nat) => n - i) (fun (i : Nat) => [(0, QM M), (3, NT .i64 i)]) (fun (i : Nat) => []) 0 (Nat.zero_le _)
  (aQ rfl (aQ rfl aX)) aY (fun i hi => ?_)
 refine cK (ts (rm rfl (rm rfl (ro rfl (dG U_32 (Ht rfl) len_map) (ro rfl (gX (Ht rfl) (Ht rfl)) (eX (dQ (Ht rfl) (fun hd => ?_) (fun hd => ?_))))))))
 ·have hdn : i < n := by simp only [decide_eq_true_eq] at hd; omega
  have hr := h.row hdn
  have hr0 := h.row (i := 0) (by omega)
  simp at hr hr0
  refine cU (cK (eG (cK (fZ (m := 13) (dp 0 rfl (cX (Ht rfl)) (dp 3 rfl (cX (Ht rfl)) (dqq 13 0 14 1 rfl (dZ U_32 Z_31 (Ht rfl) (Ht rfl) rfl (dY (dU (d := []) (by omega)))) (dq 15 2 rfl (dJ A_31 Z_31 (Ht rfl)) (dq 16 3 rfl (dG U_31 (Ht rfl) len_map) (dp 0 rfl (cX (Ht rfl)) (dq 18 5 rfl (dZ U_32 Z_31 (Ht rfl) (cJ 0) rfl (dY (dU (d := []) (by omega)))) (dq 19 6 rfl (dJ A_31 Z_31 (Ht rfl)) (dq 20 7 rfl (dG U_31 (Ht rfl) len_map) ?_)))))))))))))
  refine dqq 17 4 21 8 rfl (op_neqN (Ht rfl) (Ht rfl)) (dq 22 9 rfl (cX (Ht rfl)) (C.D_step (Ei := [(0, _), (23, _)]) rfl rfl (bV (bK rfl rfl) (bV (bG 10 rfl rfl) bW)) (eK rfl rfl (Ht rfl) (fun h => cX (Ht rfl))) (C.D_step (Ei := [(3, _), (23, _)]) rfl rfl (bV (bK rfl rfl) (bV (bG 10 rfl rfl) bW)) (eK rfl rfl (Ht rfl) (fun h => cX (Ht rfl))) (fV mixed rfl (by kernel_rfl) (aJ (aJ (aJ (aJ (aJ (aJ (aJ (aJ (aJ (aJ (aJ (aJ (aJ (aV ?_))))))))))))))))))
  refine fQ rfl rfl (eK rfl rfl (Ht rfl) (fun h => dZ U_32 Z_31 (fJ rfl h) (fJ rfl h) rfl (dY (dU (d := []) (by omega))))) (fQ rfl rfl (eK rfl rfl (Ht rfl) (fun h => dJ A_31 Z_31 (fJ rfl h))) (fQ rfl rfl (eK rfl rfl (Ht rfl) (fun h => dG U_31 (fJ rfl h) len_map)) (fQ rfl rfl (eK rfl rfl (Ht rfl) (fun h => op_gtrN (fJ rfl h) (cJ 32))) (ro rfl (op_or (Ht rfl) (fun h => (fJ rfl h))) (eX (T_condF (Ht rfl) (by simp [hr, hr0]; omega) ?_))))))
  refine cU (T_blk (cY (rm rfl (ro rfl (dV (Ht rfl) (cJ 1) (by show _ < 9223372036854775808; first | omega | (simp only [lim]; omega))) (ra rfl (eX (fU (i + 1) hdn (by omega) (aQ rfl (aQ rfl aX)) aY)))))))
 ·refine gV rfl (ts (ro rfl (cQ cV) (eX ?_)))
  exact fW rfl (eU rfl)
theorem c_rColumns {M : List (List Qi)} {n m : Nat} (h : Shp M n m) (h1 : 1 ≤ n) : Fun Tryz.prog 215 [QM M] (NT .i64 m) := by
 have hl := h.1
 have hr0 := h.row (i := 0) (by omega)
 refine Fun.intro Tryz.func215 rfl Tryz.ntmps215 rfl (fun cx => (ts (ro rfl (cQ (cJ 0)) (eX (cK (ts (rm rfl (ro rfl (dG U_32 (Ht rfl) len_map) (ro rfl (op_eqlN (Ht rfl) (cJ 0)) (eX (T_condF (Ht rfl) (by simp [hl]; omega) ?_)))))))))))
 refine cU (ts (rm rfl (ro rfl (dZ U_32 Z_31 (Ht rfl) (cJ 0) rfl (dY (dU (d := []) (by omega)))) (ro rfl (dJ A_31 Z_31 (Ht rfl)) (ro rfl (dG U_31 (Ht rfl) len_map) (ra rfl (eX (fW rfl (fX (eU rfl) ?_)))))))))
 exact (nt_of hr0)
theorem c_rSquare {M : List (List Qi)} {n : Nat} (hM : Shp M n n) (h1 : 1 ≤ n) (hn : n ≤ 32) : Fun Tryz.prog 252 [QM M] (BoolT true) := by
 have hl := hM.1
 refine Fun.intro Tryz.func252 rfl Tryz.ntmps252 rfl (fun cx => (ts (ro rfl (cQ cV) (eX (ts (rm rfl (ro rfl (cZ Tryz.call214 (c_rValid hM hn hn) ⟨(Ht rfl), trivial⟩) (rm rfl (fQ rfl rfl (eK rfl rfl (Ht rfl) (fun h => cX (Ht rfl))) (fQ rfl rfl (eK rfl rfl (Ht rfl) (fun h => dG U_32 (fJ rfl h) len_map)) (fQ rfl rfl (eK rfl rfl (Ht rfl) (fun h => cX (Ht rfl))) (fQ rfl rfl (eK rfl rfl (Ht rfl) (fun h => cZ Tryz.call215 (c_rColumns hM h1) ⟨(fJ rfl h), trivial⟩)) (fQ rfl rfl (eK rfl rfl (Ht rfl) (fun h => op_eqlN (fJ rfl h) (fJ rfl h))) ?_)))))))))))))
 refine ro rfl (op_and (Ht rfl) (fun h => (fJ rfl h))) (ra rfl (eX (fW rfl (fX (eU rfl) ?_))))
 exact (bool_of (by simp [hl]))
theorem c_rCopyO {M : List (List Qi)} {n m : Nat} (hM : Shp M n m) (hn : n ≤ 1000) (h1 : 1 ≤ m) (hm : m ≤ 1000) : FunO Tryz.prog 105 [QM M] [] (Nat) (fun B => Is (.slice (some ⟨B, 0, none⟩) n n)) (fun B => [matO B 31 98 5 (FRow QT M)]) (fun _ => True) := by
 have hMl := hM.1
 refine FunO.intro Tryz.func105 rfl Tryz.ntmps105 rfl (fun cx Z => (ts (ro rfl (cQ cV) (eX (ts (rm rfl (ro rfl (dG U_32 (Ht rfl) (by rw [List.length_map, hMl])) ?_)))))))
 refine rn rfl (new_make (T := Is (.slice none 0 0)) (i := Tryz.t31) Tryz.underlying32 info_31 rfl rfl (Ht rfl) rfl (fun _ => rfl) trivial (by show 24 * _ ≤ _; omega) (by omega)) fun B7 => ra rfl (eX (cK (ts (ro rfl (cQ (cJ 0)) (eX (eG (T_conv 1 rfl (mat_nil (e := 98) (s := 5)) ?_)))))))
 refine T_loop (fun (i : Nat) => i ≤ n) (fun (i : Nat) => n - i) (fun (i : Nat) => [(0, QM M), (3, Is (.slice (some ⟨B7, 0, none⟩) n n)), (4, NT .i64 i)]) (fun (i : Nat) => [Z, matO B7 31 98 5 (FRow QT (mixT (rw' M) [] n i))]) 0 (Nat.zero_le _)
  (aQ rfl (aQ rfl (aQ rfl aX))) (aU (fun _ _ _ h => h) (aU (matO_of (by rw [← mix_zero, tab_const]; exact rep_FRow QT n)) aY)) (fun i hi => ?_)
 refine cK (ts (rm rfl (rm rfl (ro rfl (dG U_32 (Ht rfl) len_map) (ro rfl (gX (Ht rfl) (Ht rfl)) (eX (dQ (Ht rfl) (fun hd0 => ?_) (fun hd0 => ?_))))))))
 ·have hdn : i < n := by simp only [decide_eq_true_eq] at hd0; omega
  have hrl : (rw' M i).length = m := hM.row hdn
  have hrl2 : (M.getD i []).length = m := hrl
  refine T_focus 1 (i) rfl (frow_mix hdn) (fun v0 => (cU (cK (eG (cY (rm rfl (rm rfl (rn rfl (new_bslice0 U_31 Z_98 O_98) fun B16 => (rm rfl (rm rfl (ro rfl (dZ U_32 Z_31 (Ht rfl) (Ht rfl) rfl (dY (dU (d := []) (by omega)))) (ro rfl (dJ A_31 Z_31 (Ht rfl)) (R_appendA (inf := Tryz.t98) und_31 info_98 rfl rfl rfl (Ht rfl) (Ht rfl) (i := 3) rfl (fun T hT => by obtain ⟨x, _, rfl⟩ := List.mem_map.1 hT; exact El.ag rfl) (by show _ * 88 ≤ _; simp only [List.length_map, List.length_append, List.length_take, List.length_cons, List.length_nil]; omega) (by simp only [List.length_map, List.length_append, List.length_take, List.length_cons, List.length_nil]; omega) rfl (fun v1 => ?_))))))))))))))
  refine ro rfl (fY U_32 Z_31 (Ht rfl) (Ht rfl) rfl (by omega) (by rw [Nat.mul_one, Nat.zero_add])) ?_
  refine R_stH Z_31 (Ht rfl) (Ht rfl) (by simp only [FRow, List.length_map, mix_len]; omega) (j := 1) (l := 3) rfl rfl rfl ?_
  refine eX (T_blk (T_keep [0, 1, 3] rfl (by decide) (T_unfocus 1 2 rfl rfl (by decide) (by simp only [FRow, List.length_map, mix_len]; omega) ?_)))
  refine cY (rm rfl (ro rfl (dV (Ht rfl) (cJ 1) (by show _ < 9223372036854775808; first | omega | (simp only [lim]; omega))) (ra rfl (eX (T_keep [0, 1] rfl (by decide) (fU (i + 1) hdn (by omega) (aQ rfl (aQ rfl (aQ rfl aX))) (aU (fun _ _ _ h => h) (aU (matO_of (by rw [List.nil_append, set_FRow, ← mix_set (f := rw' M)])) aY))))))))
 ·have hin : i = n := by simp only [decide_eq_false_iff_not] at hd0; omega
  subst hin
  refine gV rfl (ts (rm rfl (ra rfl (eX ?_))))
  exact T_retO B7 trivial [0, 1] ⟨⟨_, rfl, fun _ _ _ h => h⟩, ⟨_, rfl, (matO_of (by rw [mix_fin]; exact congrArg _ (tab_eq (h := hMl)).symm))⟩, trivial⟩ (by decide) (rvs1 rfl (eU rfl))
theorem c_rIdO {n : Nat} (hn : n ≤ 32) : FunO Tryz.prog 213 [NT .i64 n] [] (Nat) (fun B => Is (.slice (some ⟨B, 0, none⟩) n n)) (fun B => [matP exactH B 31 98 5 (FRow QT (idM n))]) (fun _ => True) := by
 refine FunO.intro Tryz.func213 rfl Tryz.ntmps213 rfl (fun cx Z => (ts (ro rfl (cQ cV) (eX (cK (ts (rm rfl (ro rfl (gX (Ht rfl) (cJ 0)) (eX (T_condF (Ht rfl) (by simp) ?_))))))))))
 refine cU (cK (ts (rm rfl (ro rfl (op_gtrN (Ht rfl) (cJ 32)) (eX (T_condF (Ht rfl) (by simp; omega) ?_))))))
 refine cU (ts (rm rfl (rm rfl (R_call0 Tryz.call138 (c_ZerosO (n := n) (m := n) (by omega) (by omega)) ⟨(Ht rfl), (Ht rfl), trivial⟩ rfl (fun B11 _ => (ra rfl (eX (cK (ts (ro rfl (cQ (cJ 0)) (eX (eG ?_))))))))))))
 refine T_loop (fun (i : Nat) => i ≤ n) (fun (i : Nat) => n - i) (fun (i : Nat) => [(0, NT .i64 n), (3, Is (.slice (some ⟨B11, 0, none⟩) n n)), (4, NT .i64 i)]) (fun (i : Nat) => [Z, matP exactH B11 31 98 5 (FRow QT (mixT (unitR n) (tab n fun _ => Qi.zero) n i))]) 0 (Nat.zero_le _)
  (aQ rfl (aQ rfl (aQ rfl aX))) (aU (fun _ _ _ h => h) (aU (matO_of (by rw [zeroM, mix_zero])) aY)) (fun i hi => ?_)
 refine cK (ts (rm rfl (rm rfl (ro rfl (gX (Ht rfl) (Ht rfl)) (eX (dQ (Ht rfl) (fun hd0 => ?_) (fun hd0 => ?_)))))))
 ·have hdn : i < n := by simp only [decide_eq_true_eq] at hd0; omega
  refine T_focusE 1 (i) rfl (frow_mix hdn) (fun v0 hv0 => (cU (cK (eG (fZ (m := 6) (dp 3 rfl (cX (Ht rfl)) (dp 4 rfl (cX (Ht rfl)) (dqq 17 0 18 1 rfl (fY U_32 Z_31 (Ht rfl) (Ht rfl) rfl (by omega) (by rw [Nat.mul_one, Nat.zero_add])) ?_))))))))
  refine dq 19 2 rfl (op_ldH A_31 Z_31 (Ht rfl) (j := 1) rfl) (dp 4 rfl (cX (Ht rfl)) (d0 rfl (cZ Tryz.call117 (c_rWhole (n := 1) (by decide) (by decide)) ⟨(cJ 1), trivial⟩) (fV mixed rfl (by kernel_rfl) (aJ (aJ (aJ (aJ (aJ (aJ (aV (ro rfl (op_idxO U_31 Z_98 (Ht rfl) (Ht rfl) rfl (i := 2) rfl (by simp only [List.length_map, tab_len]; omega) rfl) ?_)))))))))))
  refine R_stO Z_98 (Ht rfl) (Ht rfl) (El.ag rfl) (i := 2) rfl rfl (by simp only [List.length_map, tab_len]; omega) rfl ?_
  refine eX (T_blk (T_unfocus 1 2 rfl rfl (by decide) (by simp only [FRow, List.length_map, mix_len]; omega) ?_))
  refine cY (rm rfl (ro rfl (dV (Ht rfl) (cJ 1) (by show _ < 9223372036854775808; first | omega | (simp only [lim]; omega))) (ra rfl (eX (T_keep [0, 1] rfl (by decide) (fU (i + 1) hdn (by omega) (aQ rfl (aQ rfl (aQ rfl aX))) (aU (fun _ _ _ h => h) (aU (matO_of (by rw [set_mapF, set_FRow, ← mix_set (f := unitR n), unitR])) aY))))))))
 ·have hin : i = n := by simp only [decide_eq_false_iff_not] at hd0; omega
  subst hin
  refine gV rfl (ts (rm rfl (ra rfl (eX ?_))))
  exact T_retO B11 trivial [0, 1] ⟨⟨_, rfl, fun _ _ _ h => h⟩, ⟨_, rfl, (matO_of (by rw [mix_fin]; rfl))⟩, trivial⟩ (by decide) (rvs1 rfl (eU rfl))
end
section
open Go Go.RowKit
def apM (M : List (List Qi)) (b : List Qi) (n i : Nat) : List (List Qi) := tab n fun j => if j < i then cpRow M [b] j else rw' M j
theorem ap_start {M : List (List Qi)} {b : List Qi} {n : Nat} (h : M.length = n) : M = apM M b n 0 := by
 have : apM M b n 0 = tab n (rw' M) := tab_congr fun j _ => by rw [if_neg (by omega)]
 rw [this]; exact tab_eq (h := h)
theorem ap_fin {M : List (List Qi)} {b : List Qi} {n : Nat} : apM M b n n = copyM M [b] n := tab_congr fun j hj => by rw [if_pos hj]
theorem ap_len {M : List (List Qi)} {b : List Qi} {n i : Nat} : (apM M b n i).length = n := tab_len _ _
theorem frow_ap {M : List (List Qi)} {b : List Qi} {n i : Nat} (h : i < n) : (FRow QT (apM M b n i))[i]? = some ((rw' M i).map QT) := by
 rw [FRow, List.getElem?_map, apM, tab_get h, if_neg (by omega)]; rfl
theorem ap_next {M : List (List Qi)} {b : List Qi} {n i : Nat} (h : i < n) : (apM M b n i).set i (cpRow M [b] i) = apM M b n (i + 1) := by
 apply List.ext_getElem?
 intro j
 by_cases hj : j < n
 ·by_cases e : j = i
  ·subst e
   rw [List.getElem?_set_self (by rw [ap_len]; exact hj), apM, tab_get hj, if_pos (by omega)]
  ·rw [List.getElem?_set_ne (Ne.symm e), apM, apM, tab_get hj, tab_get hj]
   by_cases e2 : j < i
   ·rw [if_pos e2, if_pos (by omega)]
   ·rw [if_neg e2, if_neg (by omega)]
 ·rw [List.getElem?_eq_none (by rw [List.length_set, ap_len]; omega), List.getElem?_eq_none (by rw [ap_len]; omega)]
theorem gjL_of {M A : List (List Qi)} {b : List Qi} {n : Nat} (h : gjTo (copyM M [b] n) n = some A) : (tab n fun i => QT (gm A i n / gm A i i)) = (gjL M b n).map QT := by rw [gjL, gjX, h, Option.map_some, Option.getD_some, tab_map]
theorem gjE_of {M A : List (List Qi)} {b : List Qi} {n : Nat} (h : gjTo (copyM M [b] n) n = some A) : gjE M b n = 0 := by rw [gjE, gjX, h]; rfl
theorem gjL_no {M : List (List Qi)} {b : List Qi} {n : Nat} (h : gjTo (copyM M [b] n) n = none) : gjL M b n = [] := by rw [gjL, gjX, h]; rfl
theorem gjE_no {M : List (List Qi)} {b : List Qi} {n : Nat} (h : gjTo (copyM M [b] n) n = none) : gjE M b n = 6 := by rw [gjE, gjX, h]; rfl
theorem c_rSolve {M : List (List Qi)} {b : List Qi} {n L : Nat} (hM : Shp M n n) (hb : b.length = n) (hf : FitM M L) (hfb : FitL b L) (hL : 1 ≤ L) (h1 : 1 ≤ n) (hn : n ≤ 32) (hg : 6 * grow L n + 4 ≤ 17592186044415) : Fun Tryz.prog 230 [QM M, QsT b] (TupT [QsT (gjL M b n), IntT .i64 (gjE M b n)]) := by
 have hMl := hM.1
 obtain ⟨CM, hC⟩ : ∃ CM, CM = copyM M [b] n := ⟨_, rfl⟩
 have hs : Shp CM n (n + 1) := by rw [hC]; exact copyM_shp hM
 have hcf : FitM CM L := by rw [hC]; exact copyM_fit hf (fun r hr => by simp at hr; subst hr; exact hfb) hL
 have hs1 := hs.1
 refine Fun.intro Tryz.func230 rfl Tryz.ntmps230 rfl (fun cx => (ts (ro rfl (cQ cV) (ro rfl (cQ (cJ 0)) (eX (cK (ts (rm rfl (ro rfl (cZ Tryz.call252 (c_rSquare hM h1 hn) ⟨(Ht rfl), trivial⟩) (ro rfl (op_not (Ht rfl)) (rm rfl (fQ rfl rfl (eK rfl rfl (Ht rfl) (fun h => cX (Ht rfl))) (fQ rfl rfl (eK rfl rfl (Ht rfl) (fun h => dG U_31 (fJ rfl h) len_map)) (fQ rfl rfl (eK rfl rfl (Ht rfl) (fun h => cX (Ht rfl))) (fQ rfl rfl (eK rfl rfl (Ht rfl) (fun h => dG U_32 (fJ rfl h) len_map)) ?_)))))))))))))))
 refine fQ rfl rfl (eK rfl rfl (Ht rfl) (fun h => op_neqN (fJ rfl h) (fJ rfl h))) (ro rfl (op_or (Ht rfl) (fun h => (fJ rfl h))) (eX (T_condF (Ht rfl) (by simp [hMl, hb]) ?_)))
 refine cU (ts (rm rfl (ro rfl (dG U_32 (Ht rfl) (by rw [List.length_map, hMl])) ?_)))
 refine ra rfl (eX (ts (rm rfl (R_call0 Tryz.call105 (c_rCopyO hM (by omega) h1 (by omega)) ⟨(Ht rfl), trivial⟩ rfl (fun B30 _ => (ra rfl (eX (cK (ts (ro rfl (cQ (cJ 0)) (eX (eG ?_))))))))))))
 refine T_loop (fun (i : Nat) => i ≤ n) (fun (i : Nat) => n - i) (fun (i : Nat) => [(0, QM M), (1, QsT b), (6, NT .i64 n), (7, Is (.slice (some ⟨B30, 0, none⟩) n n)), (8, NT .i64 i)]) (fun (i : Nat) => [matO B30 31 98 5 (FRow QT (apM M b n i))]) 0 (Nat.zero_le _)
  (aQ rfl (aQ rfl (aQ rfl (aQ rfl (aQ rfl aX))))) (aU (matO_of (congrArg _ (ap_start hMl))) aY) (fun i hi => ?_)
 refine cK (ts (rm rfl (rm rfl (ro rfl (gX (Ht rfl) (Ht rfl)) (eX (dQ (Ht rfl) (fun hd0 => ?_) (fun hd0 => ?_)))))))
 ·have hdn : i < n := by simp only [decide_eq_true_eq] at hd0; omega
  have hrl : (rw' M i).length = n := hM.row hdn
  have hrl2 : (M.getD i []).length = n := hrl
  refine T_focus 0 (i) rfl (frow_ap hdn) (fun v0 => (cU (cK (eG (Y.D_startA (m := 12) [] 11 1 rfl rfl (bY (Ei := [(7, _)]) rfl rfl (bQ (bJ rfl rfl) bX) rfl rfl (dX rfl (cX (Ht rfl))) (bY (Ei := [(8, _)]) rfl rfl (bQ (bJ rfl rfl) bX) rfl rfl (dX rfl (cX (Ht rfl))) (bY (Ei := [(7, _)]) rfl rfl (bQ (bJ rfl rfl) bX) rfl rfl (dX rfl (cX (Ht rfl))) (bY (Ei := [(8, _)]) rfl rfl (bQ (bJ rfl rfl) bX) rfl rfl (dX rfl (cX (Ht rfl))) ?_)))))))))
  refine bY (Ei := [(38, _), (39, _)]) rfl rfl (bQ (bZ 2 rfl rfl) (bQ (bZ 3 rfl rfl) bX)) rfl rfl (dX rfl (fY U_32 Z_31 (Ht rfl) (Ht rfl) rfl (by omega) (by rw [Nat.mul_one, Nat.zero_add]))) ?_
  refine bY (Ei := [(40, _)]) rfl rfl (bQ (bZ 4 rfl rfl) bX) rfl rfl (dX rfl (op_ldH A_31 Z_31 (Ht rfl) (j := 0) rfl)) (bY (Ei := [(1, _)]) rfl rfl (bQ (bJ rfl rfl) bX) rfl rfl (dX rfl (cX (Ht rfl))) (bY (Ei := [(8, _)]) rfl rfl (bQ (bJ rfl rfl) bX) rfl rfl (dX rfl (cX (Ht rfl))) (bY (Ei := [(42, _), (43, _)]) rfl rfl (bQ (bZ 6 rfl rfl) (bQ (bZ 7 rfl rfl) bX)) rfl rfl (dX rfl (dZ U_31 Z_98 (Ht rfl) (Ht rfl) rfl (dY (dU (d := Qi.zero) (by omega))))) ?_)))
  refine bY (Ei := [(44, _)]) rfl rfl (bQ (bZ 8 rfl rfl) bX) rfl rfl (dX rfl (dJ A_98 Z_98 (Ht rfl))) (bY (Ei := [(45, _)]) rfl rfl (bQ (bZ 9 rfl rfl) bX) rfl rfl (dX rfl (op_bslice (xs := [.tmp 45]) U_31 Z_98 O_98 (cW (Ht rfl) cG) rfl rfl rfl)) (Y.D_app (Ei := [(41, _), (46, _)]) rfl rfl rfl rfl (bQ (bZ 5 rfl rfl) (bQ (bZ 10 rfl rfl) bX)) rfl (A_append (inf := Tryz.t98) und_31 info_98 rfl rfl rfl (Ht rfl) (Ht rfl) (by simp) (fun T hT => by simp at hT; subst hT; exact El.ag rfl) (by show _ * 88 ≤ _; simp only [List.length_map, List.length_append, List.length_take, List.length_cons, List.length_nil]; omega) (by simp only [List.length_map, List.length_append, List.length_take, List.length_cons, List.length_nil]; omega)) ?_))
  refine Y.D_done mixed rfl (by kernel_rfl) rfl (by simp [Y.okP]) rfl rfl (bU (bU (bU (bU (bU (bU (bU (bU (bU (bU (bU (Y.F_app (fun v2 => Y.F_nil ?_)))))))))))))
  refine ro rfl (fY U_32 Z_31 (Ht rfl) (Ht rfl) rfl (by omega) (by rw [Nat.mul_one, Nat.zero_add])) ?_
  refine R_stH Z_31 (Ht rfl) (Ht rfl) (by simp only [FRow, List.length_map, ap_len]; omega) (j := 0) (l := 2) rfl rfl rfl ?_
  refine eX (T_blk (T_keep [0, 2] rfl (by decide) (T_unfocus 0 1 rfl rfl (by decide) (by simp only [FRow, List.length_map, ap_len]; omega) ?_)))
  refine cY (rm rfl (ro rfl (dV (Ht rfl) (cJ 1) (by show _ < 9223372036854775808; first | omega | (simp only [lim]; omega))) (ra rfl (eX (T_keep [0] rfl (by decide) (fU (i + 1) hdn (by omega) (aQ rfl (aQ rfl (aQ rfl (aQ rfl (aQ rfl aX))))) (aU (matO_of (by rw [app_mapF QT _ (gv b i), set_FRow]; exact congrArg _ (ap_next hdn))) aY)))))))
 ·have hin : i = n := by simp only [decide_eq_false_iff_not] at hd0; omega
  subst hin
  rw [ap_fin, ← hC]
  refine gV rfl (T_openW 0 rfl (fun vs hvs => ?_))
  have hvs2 : Hds vs i := by have h := hvs; rw [FRow, List.length_map, hs1] at h; exact h
  refine cK (ts (ro rfl (cQ (cJ 0)) (eX (eG ?_))))
  refine T_loop3 (fun (c : Nat) (vs : List Value) (A : List (List Qi)) => c ≤ i ∧ gjTo CM c = some A ∧ Hds vs i) (fun (c : Nat) (vs : List Value) (A : List (List Qi)) => i - c) (fun (c : Nat) (vs : List Value) (A : List (List Qi)) => [(6, NT .i64 i), (7, Is (.slice (some ⟨B30, 0, none⟩) i i)), (9, NT .i64 c)]) (fun (c : Nat) (vs : List Value) (A : List (List Qi)) => [matW B30 31 98 5 vs vs (FRow QT A)]) 0 vs CM ⟨Nat.zero_le _, rfl, hvs2⟩
   (aQ rfl (aQ rfl (aQ rfl aX))) (HSub.refl _) (fun c vs A ⟨hc, hA, hvs⟩ => ?_)
  refine cK (ts (rm rfl (rm rfl (ro rfl (gX (Ht rfl) (Ht rfl)) (eX (dQ (Ht rfl) (fun hcn => ?_) (fun hcn => ?_)))))))
  ·simp only [decide_eq_true_eq] at hcn
   have hcn : c < i := by omega
   have hvl := hvs.len
   have hgj := gj_inv hs (Nat.le_succ i) hc hA
   have hAs : Shp A i (i + 1) := hgj.sh
   have hAf : FitM A (grow L c) := gj_fit hs (Nat.le_succ i) hcf hL hc hA
   have hAl := hAs.1
   have hgr : grow L c ≤ grow L i := grow_mono L hc
   have hG1 : 1 ≤ grow L c := Nat.le_trans hL (grow_le L c)
   refine cU (cK (eG (ts (rm rfl (ra rfl (eX (cK (eG ?_))))))))
   refine T_loop (fun (p : Nat) => (c ≤ p ∧ p ≤ i) ∧ ∀ r, c ≤ r → r < p → gm A r c = Qi.zero) (fun (p : Nat) => i - p) (fun (p : Nat) => [(6, NT .i64 i), (7, Is (.slice (some ⟨B30, 0, none⟩) i i)), (9, NT .i64 c), (10, NT .i64 p)]) (fun (p : Nat) => [matW B30 31 98 5 vs vs (FRow QT A)]) c ⟨⟨Nat.le_refl _, hc⟩, fun r h1 h2 => by omega⟩
    (aQ rfl (aQ rfl (aQ rfl (aQ rfl aX)))) (HSub.refl _) (fun p ⟨⟨hcp, hpn⟩, hz⟩ => ?_)
   refine cK (ts (rm rfl (rm rfl (ro rfl (gX (Ht rfl) (Ht rfl)) (rm rfl (fQ rfl rfl (eK rfl rfl (Ht rfl) (fun h => cX (Ht rfl))) (fQ rfl rfl (eK rfl rfl (Ht rfl) (fun h => cX (Ht rfl))) (fQ rfl rfl (eK rfl rfl (Ht rfl) (fun h => fY U_32 Z_31 (fJ rfl h) (fJ rfl h) rfl (by first | omega | (simp at h; omega)) (by rw [Nat.mul_one, Nat.zero_add]))) ?_))))))))
   refine fQ rfl rfl (eK rfl rfl (Ht rfl) (fun h => op_ldHW A_31 Z_31 (fJ rfl h) (j := 0) rfl (by simp at h; omega))) ?_
   refine fQ rfl rfl (eK rfl rfl (Ht rfl) (fun h => cX (Ht rfl))) (fQ rfl rfl (eK rfl rfl (Ht rfl) (fun h => op_idxW U_31 Z_98 (fJ rfl h) (fJ rfl h) rfl (j := 0) rfl (by omega) (by simp at h; omega) (by simp at h; rw [hAs.row h]; omega))) ?_)
   refine fQ rfl rfl (eK rfl rfl (Ht rfl) (fun h => op_ldW A_98 Z_98 (fJ rfl h) (j := 0) rfl (by omega) (by simp at h; omega) (by simp at h; rw [hAs.row h]; omega))) ?_
   refine fQ rfl rfl (eK rfl rfl (Ht rfl) (fun h => cZ Tryz.call160 (c_rZero (x := gm A p c)) ⟨(fJ rfl h), trivial⟩)) (ro rfl (op_and (Ht rfl) (fun h => (fJ rfl h))) (eX (dQ (Ht rfl) (fun he => ?_) (fun he => ?_))))
   ·have he2 : p < i ∧ gm A p c = Qi.zero := by simpa using he
    refine cU (eG (cY (rm rfl (ro rfl (dV (Ht rfl) (cJ 1) (by show _ < 9223372036854775808; first | omega | (simp only [lim]; omega))) (ra rfl (eX (T_blk ?_)))))))
    refine fU (p + 1) ⟨⟨by omega, by omega⟩, fun r h1 h2 => by
      by_cases e : r = p
      ·rw [e]; exact he2.2
      ·exact hz r h1 (by omega)⟩ (by omega) (aQ rfl (aQ rfl (aQ rfl (aQ rfl aX)))) (HSub.refl _)
   ·have hpv : pv A c i = p := pv_eq hcp hpn hz (fun h => by simp at he; exact he h)
    refine gV rfl (cK (ts (rm rfl (rm rfl (ro rfl (op_eqlN (Ht rfl) (Ht rfl)) (eX (dQ (Ht rfl) (fun hp => ?_) (fun hp => ?_))))))))
    ·have hp2 : p = i := by simpa using hp
     have hend : gjTo CM i = none := gj_end hs1 hA (by rw [hpv]; exact hp2) hcn
     rw [hC] at hend
     refine ts (ro rfl (cQ cV) (ro rfl (cQ (cJ 6)) (eX (T_ret2 rfl (fX (eU rfl) ?_) (fX (eU rfl) ?_)))))
     ·exact (fun v V k => by rw [gjL_no hend]; exact nil_slT v V k)
     ·exact (int_of (gjE_no hend).symm)
    ·have hp2 : p < i := by simp at hp; omega
     have hpz := (pv_spec (M := A) (c := c) (n := i) hc).2.2.2 (by rw [hpv]; exact hp2)
     rw [hpv] at hpz
     have hnx := gj_next hs1 hA hpv hp2
     refine cU (cK (Y.D_start (m := 14) [(13, 0, matW B30 31 98 5 (vs.set p (hd vs c)) vs (FRow QT A))] (Y.D_step (Ei := [(7, _)]) rfl rfl (bQ (bJ rfl rfl) bX) rfl rfl (by kernel_rfl) (dX rfl (cX (Ht rfl))) (Y.D_step (Ei := [(10, _)]) rfl rfl (bQ (bJ rfl rfl) bX) rfl rfl (by kernel_rfl) (dX rfl (cX (Ht rfl))) (bY (Ei := [(7, _)]) rfl rfl (bQ (bJ rfl rfl) bX) rfl rfl (dX rfl (cX (Ht rfl))) (bY (Ei := [(9, _)]) rfl rfl (bQ (bJ rfl rfl) bX) rfl rfl (dX rfl (cX (Ht rfl))) ?_))))))
     refine Y.D_step (Ei := [(7, _)]) rfl rfl (bQ (bJ rfl rfl) bX) rfl rfl (by kernel_rfl) (dX rfl (cX (Ht rfl))) (Y.D_step (Ei := [(9, _)]) rfl rfl (bQ (bJ rfl rfl) bX) rfl rfl (by kernel_rfl) (dX rfl (cX (Ht rfl))) (Y.D_step (Ei := [(77, _), (78, _)]) rfl rfl (bQ (bZ 4 rfl rfl) (bQ (bZ 5 rfl rfl) bX)) rfl rfl (by kernel_rfl) (dX rfl (fY U_32 Z_31 (Ht rfl) (Ht rfl) rfl (by omega) (by rw [Nat.mul_one, Nat.zero_add]))) ?_))
     refine Y.D_step (Ei := [(79, _)]) rfl rfl (bQ (bZ 6 rfl rfl) bX) rfl rfl (by kernel_rfl) (dX rfl (op_ldHW A_31 Z_31 (Ht rfl) (j := 0) rfl (by omega))) (Y.D_step (Ei := [(7, _)]) rfl rfl (bQ (bJ rfl rfl) bX) rfl rfl (by kernel_rfl) (dX rfl (cX (Ht rfl))) (Y.D_step (Ei := [(10, _)]) rfl rfl (bQ (bJ rfl rfl) bX) rfl rfl (by kernel_rfl) (dX rfl (cX (Ht rfl))) (Y.D_step (Ei := [(81, _), (82, _)]) rfl rfl (bQ (bZ 8 rfl rfl) (bQ (bZ 9 rfl rfl) bX)) rfl rfl (by kernel_rfl) (dX rfl (fY U_32 Z_31 (Ht rfl) (Ht rfl) rfl (by omega) (by rw [Nat.mul_one, Nat.zero_add]))) ?_)))
     refine Y.D_step (Ei := [(83, _)]) rfl rfl (bQ (bZ 10 rfl rfl) bX) rfl rfl (by kernel_rfl) (dX rfl (op_ldHW A_31 Z_31 (Ht rfl) (j := 0) rfl (by omega))) (Y.D_step (Ei := [(73, _), (74, _)]) rfl rfl (bQ (bZ 0 rfl rfl) (bQ (bZ 1 rfl rfl) bX)) rfl rfl (by kernel_rfl) (dX rfl (fY U_32 Z_31 (Ht rfl) (Ht rfl) rfl (by omega) (by rw [Nat.mul_one, Nat.zero_add]))) ?_)
     refine Y.D_putI (Ei := [(85, _), (80, _)]) 0 rfl rfl rfl (bQ (bZ 12 rfl rfl) (bQ (bZ 7 rfl rfl) bX)) (.head _) rfl (P_stHW Z_31 (Ht rfl) (Ht rfl) (hvs.pl c (by omega)) (i := p) (hs := vs) (by omega)) (Y.D_done mixed rfl (by kernel_rfl) rfl (by simp [Y.okP]) rfl rfl (bU (bU (bU (bU (bU (bU (bU (bU (bU (bU (bU (bU (bU (Y.F_putI (Y.F_nil ?_))))))))))))))))
     refine ro rfl (fY U_32 Z_31 (Ht rfl) (Ht rfl) rfl (by omega) (by rw [Nat.mul_one, Nat.zero_add])) ?_
     refine R_stHW Z_31 (Ht rfl) (Ht rfl) (j := 0) rfl (hvs.pl p (by omega)) (by rw [List.length_set]; omega) rfl ?_
     refine eX (cK (T_conv 0 rfl (matW_swap (hs := swp nilV vs p c) (p := p) (c := c) (by omega) (by omega) (by omega)) ?_))
     have hus := hvs.swp hp2 hcn
     have hDs : Shp (swp [] A p c) i (i + 1) := swp_shp hAs hp2 hcn
     have hDf : FitM (swp [] A p c) (grow L c) := swp_fit hAf
     have hDz : gm (swp [] A p c) c c ≠ Qi.zero := by
      show gv (rw' (swp [] A p c) c) c ≠ _
      rw [swp_at (by omega)]; exact hpz
     obtain ⟨us, hus2⟩ : ∃ us, us = swp nilV vs p c := ⟨_, rfl⟩
     obtain ⟨D, hD⟩ : ∃ D, D = swp [] A p c := ⟨_, rfl⟩
     rw [← hus2] at hus ⊢
     rw [← hD] at hDs hDf hDz hnx ⊢
     have hul := hus.len
     have hDl := hDs.1
     refine cY (ro rfl (cQ (cJ 0)) (eX (eG ?_)))
     refine T_loop (fun (r : Nat) => r ≤ i) (fun (r : Nat) => i - r) (fun (r : Nat) => [(6, NT .i64 i), (7, Is (.slice (some ⟨B30, 0, none⟩) i i)), (9, NT .i64 c), (11, NT .i64 r)]) (fun (r : Nat) => [matW B30 31 98 5 us us (FRow QT (redJ D c r))]) 0 (Nat.zero_le _)
      (aQ rfl (aQ rfl (aQ rfl (aQ rfl aX)))) (aU (matW_of (congrArg _ redJ_start)) aY) (fun r hrn => ?_)
     refine cK (ts (rm rfl (rm rfl (ro rfl (gX (Ht rfl) (Ht rfl)) (eX (dQ (Ht rfl) (fun hr => ?_) (fun hr => ?_)))))))
     ·have hr : r < i := by simp only [decide_eq_true_eq] at hr; omega
      refine cU (cK (eG (ts (rm rfl (rm rfl (ro rfl (op_neqN (Ht rfl) (Ht rfl)) (eX (dQ (Ht rfl) (fun hrc => ?_) (fun hrc => ?_)))))))))
      ·have hrc : r ≠ c := by simpa using hrc
       obtain ⟨X, hX⟩ : ∃ X, X = redJ D c r := ⟨_, rfl⟩
       have hXr : rw' X r = rw' D r := by rw [hX]; exact redJ_at (by omega) (by omega)
       have hXc : rw' X c = rw' D c := by rw [hX]; exact redJ_at (by omega) (by omega)
       have hXl : X.length = i := by rw [hX, redJ_len]; exact hDl
       have hXrl : (rw' X r).length = i + 1 := by rw [hXr]; exact hDs.row hr
       have hXcl : (rw' X c).length = i + 1 := by rw [hXc]; exact hDs.row hcn
       have hXrg : (X.getD r []).length = i + 1 := hXrl
       have hXcg : (X.getD c []).length = i + 1 := hXcl
       have hXfr : FitL (rw' X r) (grow L c) := by rw [hXr]; exact hDf.row r
       have hXfc : FitL (rw' X c) (grow L c) := by rw [hXc]; exact hDf.row c
       haveI g1 : FitC (gm X r c) (grow L c) := hXfr.get hG1 c
       haveI g2 : FitC (gm X c c) (grow L c) := hXfc.get hG1 c
       have hXz : gm X c c ≠ Qi.zero := by show gv (rw' X c) c ≠ _; rw [hXc]; exact hDz
       haveI g3 : FitC (gm X r c / gm X c c) (grow L c + 3 * grow L c + 2) := ⟨g1.fit.div g2.fit hXz⟩
       have hend := stepJ_row (D := D) (r := r) (c := c) (by omega) hrc (by omega)
       rw [← hX] at hend ⊢
       rw [hXrl] at hend
       have hrU : r < us.length := by rw [hul]; exact hr
       have hcU : c < us.length := by rw [hul]; exact hcn
       have hXU : us.length = X.length := by rw [hul, hXl]
       have hrX : r < X.length := by rw [hXl]; exact hr
       have hcX : c < X.length := by rw [hXl]; exact hcn
       have hcr : c < (X.getD r []).length := by rw [hXrg]; exact Nat.lt_succ_of_lt hcn
       have hcc : c < (X.getD c []).length := by rw [hXcg]; exact Nat.lt_succ_of_lt hcn
       clear hXrg hXcg hXr hXc
       refine cK (Y.D_start (m := 20) [] (bY (Ei := [(7, _)]) rfl rfl (bQ (bJ rfl rfl) bX) rfl rfl (dX rfl (cX (Ht rfl))) (bY (Ei := [(11, _)]) rfl rfl (bQ (bJ rfl rfl) bX) rfl rfl (dX rfl (cX (Ht rfl))) (bY (Ei := [(96, _), (97, _)]) rfl rfl (bQ (bZ 0 rfl rfl) (bQ (bZ 1 rfl rfl) bX)) rfl rfl (dX rfl (fY U_32 Z_31 (Ht rfl) (Ht rfl) rfl (by omega) (by rw [Nat.mul_one, Nat.zero_add]))) ?_))))
       refine bY (Ei := [(98, _)]) rfl rfl (bQ (bZ 2 rfl rfl) bX) rfl rfl (dX rfl (op_ldHW A_31 Z_31 (Ht rfl) (j := 0) rfl hrU)) (bY (Ei := [(9, _)]) rfl rfl (bQ (bJ rfl rfl) bX) rfl rfl (dX rfl (cX (Ht rfl))) (bY (Ei := [(99, _), (100, _)]) rfl rfl (bQ (bZ 3 rfl rfl) (bQ (bZ 4 rfl rfl) bX)) rfl rfl (dX rfl (op_idxW U_31 Z_98 (Ht rfl) (Ht rfl) rfl (j := 0) rfl hXU hrX hcr)) (bY (Ei := [(101, _)]) rfl rfl (bQ (bZ 5 rfl rfl) bX) rfl rfl (dX rfl (op_ldW A_98 Z_98 (Ht rfl) (j := 0) rfl hXU hrX hcr)) ?_)))
       refine bY (Ei := [(7, _)]) rfl rfl (bQ (bJ rfl rfl) bX) rfl rfl (dX rfl (cX (Ht rfl))) (bY (Ei := [(9, _)]) rfl rfl (bQ (bJ rfl rfl) bX) rfl rfl (dX rfl (cX (Ht rfl))) (bY (Ei := [(103, _), (104, _)]) rfl rfl (bQ (bZ 7 rfl rfl) (bQ (bZ 8 rfl rfl) bX)) rfl rfl (dX rfl (fY U_32 Z_31 (Ht rfl) (Ht rfl) rfl (by omega) (by rw [Nat.mul_one, Nat.zero_add]))) ?_))
       refine bY (Ei := [(105, _)]) rfl rfl (bQ (bZ 9 rfl rfl) bX) rfl rfl (dX rfl (op_ldHW A_31 Z_31 (Ht rfl) (j := 0) rfl hcU)) (bY (Ei := [(9, _)]) rfl rfl (bQ (bJ rfl rfl) bX) rfl rfl (dX rfl (cX (Ht rfl))) (bY (Ei := [(106, _), (107, _)]) rfl rfl (bQ (bZ 10 rfl rfl) (bQ (bZ 11 rfl rfl) bX)) rfl rfl (dX rfl (op_idxW U_31 Z_98 (Ht rfl) (Ht rfl) rfl (j := 0) rfl hXU hcX hcc)) (bY (Ei := [(108, _)]) rfl rfl (bQ (bZ 12 rfl rfl) bX) rfl rfl (dX rfl (op_ldW A_98 Z_98 (Ht rfl) (j := 0) rfl hXU hcX hcc)) ?_)))
       refine bY (Ei := [(102, _), (109, _)]) rfl rfl (bQ (bZ 6 rfl rfl) (bQ (bZ 13 rfl rfl) bX)) rfl rfl (dX rfl (cZ Tryz.call102 (c_rQDiv (x := gm X r c) (y := gm X c c) (L := grow L c) (M := grow L c) (by omega)) ⟨(Ht rfl), (Ht rfl), trivial⟩)) (bY (Ei := [(110, _)]) rfl rfl (bQ (bZ 14 rfl rfl) bX) rfl rfl (dX rfl (cX (Ht rfl))) (bY (Ei := [(95, _)]) rfl rfl (bQ (bZ 15 rfl rfl) bX) rfl rfl (dX rfl (dK (Ht rfl) rfl)) (bY (Ei := [(95, _)]) rfl rfl (bQ (bZ 15 rfl rfl) bX) rfl rfl (dX rfl (dK (Ht rfl) rfl)) ?_)))
       refine Y.D_newp (Ei := []) (fun bb => box bb 98 [BoolT (decide ((gm X r c / gm X c c).a < 0)), NatT (gm X r c / gm X c c).a.natAbs, BoolT (decide ((gm X r c / gm X c c).b < 0)), NatT (gm X r c / gm X c c).b.natAbs, NatT (gm X r c / gm X c c).den]) 19 rfl rfl rfl bX rfl rfl (by kernel_rfl) (eW (Ts := [Is (.bool false), Is (.slice none 0 0), Is (.bool false), Is (.slice none 0 0), Is (.slice none 0 0)]) O_98 rfl (fun V => aW ⟨rfl, trivial⟩ (aW ⟨rfl, trivial⟩ (aW ⟨rfl, trivial⟩ (aW ⟨rfl, trivial⟩ (aW ⟨rfl, trivial⟩ (aG))))))) ?_
       refine Y.D_putN (Ei := [(111, _)]) 18 rfl rfl rfl rfl rfl rfl (bQ (bZ 16 rfl rfl) bX) (fun bb => P_stA Z_98 (Ht rfl) (Ht rfl) rfl (i := 0) rfl (aK rfl) rfl rfl) (Y.D_done mixed rfl (by kernel_rfl) rfl (by simp [Y.okP]) rfl rfl (bU (bU (bU (bU (bU (bU (bU (bU (bU (bU (bU (bU (bU (bU (bU (bU (bU (bU (Y.F_newp (fun B12 => Y.F_putN (Y.F_nil ?_))))))))))))))))))))))
       refine ra rfl (eX (ts (rm rfl (ra rfl (eX (eG ?_))))))
       refine T_loop (fun (k : Nat) => c ≤ k ∧ k ≤ i + 1) (fun (k : Nat) => i + 1 - k) (fun (k : Nat) => [(6, NT .i64 i), (7, Is (.slice (some ⟨B30, 0, none⟩) i i)), (9, NT .i64 c), (11, NT .i64 r), (12, PtrB B12 0), (14, NT .i64 k)]) (fun (k : Nat) => [matW B30 31 98 5 us us (FRow QT (X.set r (redJR (rw' X r) (rw' X c) c k))), box B12 98 [BoolT (decide ((gm X r c / gm X c c).a < 0)), NatT (gm X r c / gm X c c).a.natAbs, BoolT (decide ((gm X r c / gm X c c).b < 0)), NatT (gm X r c / gm X c c).b.natAbs, NatT (gm X r c / gm X c c).den]]) c ⟨Nat.le_refl _, by omega⟩
        (aQ rfl (aQ rfl (aQ rfl (aQ rfl (aQ rfl (aQ rfl aX)))))) (aU (matW_of (by rw [← redJR_start, set_rw (by omega)])) (aU (box_of rfl) aY)) (fun k ⟨hck, hkm⟩ => ?_)
       refine cK (ts (rm rfl (rm rfl (ro rfl (op_leqN (Ht rfl) (Ht rfl)) (eX (dQ (Ht rfl) (fun hk => ?_) (fun hk => ?_)))))))
       ·have hk2 : k < i + 1 := by simp only [decide_eq_true_eq] at hk; omega
        obtain ⟨Y, hY⟩ : ∃ Y, Y = (X.set r (redJR (rw' X r) (rw' X c) c k)) := ⟨_, rfl⟩
        have e1 : gm Y r k = gv (rw' X r) k := by rw [hY]; exact eltJ_r hrX (by rw [hXrl]; exact hk2)
        have e2 : gm Y c k = gv (rw' X c) k := by rw [hY]; exact eltJ_c hrc
        haveI y1 : FitC (gm Y r k) (grow L c) := by rw [e1]; exact hXfr.get hG1 k
        haveI y2 : FitC (gm Y c k) (grow L c) := by rw [e2]; exact hXfc.get hG1 k
        have hst := stepJ_elt (X := X) (r := r) (c := c) (k := k) hrX hrc (by rw [hXrl]; exact hk2) hck
        have hYU : us.length = Y.length := by rw [hY, List.length_set]; exact hXU
        have hrY : r < Y.length := by rw [← hYU]; exact hrU
        have hcY : c < Y.length := by rw [← hYU]; exact hcU
        have hkr : k < (Y.getD r []).length := by show k < (rw' Y r).length; rw [hY, rw_set hrX, redJR_len, hXrl]; exact hk2
        have hkc : k < (Y.getD c []).length := by show k < (rw' Y c).length; rw [hY, rw_set_ne hrc, hXcl]; exact hk2
        rw [← hY] at hst ⊢
        clear hXrl hXcl hXU hrX hcX hcr hcc
        refine cU (cK (eG (fZ (m := 22) (dp 7 rfl (cX (Ht rfl)) (dp 11 rfl (cX (Ht rfl)) (dqq 119 0 120 1 rfl (fY U_32 Z_31 (Ht rfl) (Ht rfl) rfl (by omega) (by rw [Nat.mul_one, Nat.zero_add])) ?_))))))
        refine dq 121 2 rfl (op_ldHW A_31 Z_31 (Ht rfl) (j := 0) rfl hrU) (dp 14 rfl (cX (Ht rfl)) (dp 7 rfl (cX (Ht rfl)) (dp 11 rfl (cX (Ht rfl)) (dqq 124 5 125 6 rfl (fY U_32 Z_31 (Ht rfl) (Ht rfl) rfl (by omega) (by rw [Nat.mul_one, Nat.zero_add])) ?_))))
        refine dq 126 7 rfl (op_ldHW A_31 Z_31 (Ht rfl) (j := 0) rfl hrU) (dp 14 rfl (cX (Ht rfl)) (dqq 127 8 128 9 rfl (op_idxW U_31 Z_98 (Ht rfl) (Ht rfl) rfl (j := 0) rfl hYU hrY hkr) (dq 129 10 rfl (op_ldW A_98 Z_98 (Ht rfl) (j := 0) rfl hYU hrY hkr) (dp 12 rfl (eJ A_98 Z_98 (Ht rfl) (i := 1) rfl rfl rfl) (dp 7 rfl (cX (Ht rfl)) (dp 9 rfl (cX (Ht rfl)) (dqq 132 13 133 14 rfl (fY U_32 Z_31 (Ht rfl) (Ht rfl) rfl (by omega) (by rw [Nat.mul_one, Nat.zero_add])) ?_)))))))
        refine dq 134 15 rfl (op_ldHW A_31 Z_31 (Ht rfl) (j := 0) rfl hcU) (dp 14 rfl (cX (Ht rfl)) (dqq 135 16 136 17 rfl (op_idxW U_31 Z_98 (Ht rfl) (Ht rfl) rfl (j := 0) rfl hYU hcY hkc) (dq 137 18 rfl (op_ldW A_98 Z_98 (Ht rfl) (j := 0) rfl hYU hcY hkc) (dqq 131 12 138 19 rfl (cZ K_99 (c_rMul (x := gm X r c / gm X c c) (y := gm Y c k) (L := grow L c + 3 * grow L c + 2) (M := grow L c) (by omega)) ⟨(Ht rfl), (Ht rfl), trivial⟩) (dqq 130 11 139 20 rfl (cZ Tryz.call158 (c_rSub (x := gm Y r k) (y := gm X r c / gm X c c * gm Y c k) (L := grow L c) (M := grow L c + 3 * grow L c + 2 + grow L c + 1) (by omega)) ⟨(Ht rfl), (Ht rfl), trivial⟩) ?_)))))
        refine fV mixed rfl (by kernel_rfl) (aJ (aJ (aJ (aJ (aJ (aJ (aJ (aJ (aJ (aJ (aJ (aJ (aJ (aJ (aJ (aJ (aJ (aJ (aJ (aJ (aJ (aJ (aV (ro rfl (op_idxW U_31 Z_98 (Ht rfl) (Ht rfl) rfl (j := 0) rfl hYU hrY hkr) (R_stW Z_98 (Ht rfl) (Ht rfl) (j := 0) rfl (El.ag rfl) (F := QT) (z := gm Y r k - gm X r c / gm X c c * gm Y c k) hYU hrY hkr rfl (eX (T_blk (cY (rm rfl (ro rfl (dV (Ht rfl) (cJ 1) (by show _ < 9223372036854775808; first | omega | (simp only [lim]; omega))) ?_))))))))))))))))))))))))))))))
        refine ra rfl (eX (fU (k + 1) ⟨by omega, hk2⟩ (by omega) (aQ rfl (aQ rfl (aQ rfl (aQ rfl (aQ rfl (aQ rfl aX)))))) (aU (matW_of (congrArg _ hst)) (aU (box_of rfl) aY))))
       ·have hk3 : k = i + 1 := by simp only [decide_eq_false_iff_not] at hk; omega
        subst hk3
        refine gV rfl (T_blk (cY (rm rfl (ro rfl (dV (Ht rfl) (cJ 1) (by show _ < 9223372036854775808; first | omega | (simp only [lim]; omega))) (ra rfl (eX (T_keep [0] rfl (by decide) (fU (r + 1) hr (by omega) (aQ rfl (aQ rfl (aQ rfl (aQ rfl aX)))) (aU (matW_of (congrArg _ hend)) aY)))))))))
      ·have hrc : r = c := by simpa using hrc
       subst hrc
       refine cU (T_blk (cY (rm rfl (ro rfl (dV (Ht rfl) (cJ 1) (by show _ < 9223372036854775808; first | omega | (simp only [lim]; omega))) (ra rfl (eX (fU (r + 1) hr (by omega) (aQ rfl (aQ rfl (aQ rfl (aQ rfl aX)))) (aU (matW_of (congrArg _ redJ_skip)) aY))))))))
     ·have hri : r = i := by simp only [decide_eq_false_iff_not] at hr; omega
      subst hri
      refine gV rfl (T_blk (cY (rm rfl (ro rfl (dV (Ht rfl) (cJ 1) (by show _ < 9223372036854775808; first | omega | (simp only [lim]; omega))) (ra rfl (eX (fU (c + 1, us, redJ D c r) ⟨hcn, hnx, hus⟩ (by dsimp only; omega) (aQ rfl (aQ rfl (aQ rfl aX))) (HSub.refl _))))))))
  ·have hci : c = i := by simp only [decide_eq_false_iff_not] at hcn; omega
   subst hci
   have hvl := hvs.len
   have hgj := gj_inv hs (Nat.le_succ c) hc hA
   have hAs : Shp A c (c + 1) := hgj.sh
   have hAf : FitM A (grow L c) := gj_fit hs (Nat.le_succ c) hcf hL hc hA
   have hAl := hAs.1
   have hG1 : 1 ≤ grow L c := Nat.le_trans hL (grow_le L c)
   rw [hC] at hA
   refine gV rfl (ts (rm rfl (rn rfl (new_makeO (T := ZQ) (i := Tryz.t98) und_31 info_98 rfl rfl (Ht rfl) rfl zq_p (El.ag rfl) (by show 88 * _ ≤ _; omega) (by omega)) fun B143 => (ra rfl (eX (cK (ts (ro rfl (cQ (cJ 0)) (eX (eG ?_))))))))))
   refine T_loop (fun (j : Nat) => j ≤ c) (fun (j : Nat) => c - j) (fun (j : Nat) => [(6, NT .i64 c), (7, Is (.slice (some ⟨B30, 0, none⟩) c c)), (15, Is B143), (16, NT .i64 j)]) (fun (j : Nat) => [matW B30 31 98 5 vs vs (FRow QT A), rowO 98 5 B143 (mixT (fun j => QT (gm A j c / gm A j j)) ZQ c j)]) 0 (Nat.zero_le _)
    (aQ rfl (aQ rfl (aQ rfl (aQ rfl aX)))) (aU (fun _ _ _ h => h) (aU (rowO_of (by rw [← mix_zero]; exact rep_tab _ _)) aY)) (fun j hj => ?_)
   refine cK (ts (rm rfl (rm rfl (ro rfl (gX (Ht rfl) (Ht rfl)) (eX (dQ (Ht rfl) (fun hq => ?_) (fun hq => ?_)))))))
   ·have hq : j < c := by simp only [decide_eq_true_eq] at hq; omega
    have hrr : (A.getD j []).length = c + 1 := hAs.row hq
    haveI f1 : FitC (gm A j c) (grow L c) := hAf.get hG1 j c
    haveI f2 : FitC (gm A j j) (grow L c) := hAf.get hG1 j j
    refine cU (cK (eG (Y.D_start (m := 22) [(21, 1, rowO 98 5 B143 ((mixT (fun j => QT (gm A j c / gm A j j)) ZQ c j).set j (QT (gm A j c / gm A j j))))] (Y.D_step (Ei := [(15, _)]) rfl rfl (bQ (bJ rfl rfl) bX) rfl rfl (by kernel_rfl) (dX rfl (cX (Ht rfl))) (Y.D_step (Ei := [(16, _)]) rfl rfl (bQ (bJ rfl rfl) bX) rfl rfl (by kernel_rfl) (dX rfl (cX (Ht rfl))) (Y.D_step (Ei := [(7, _)]) rfl rfl (bQ (bJ rfl rfl) bX) rfl rfl (by kernel_rfl) (dX rfl (cX (Ht rfl))) (Y.D_step (Ei := [(16, _)]) rfl rfl (bQ (bJ rfl rfl) bX) rfl rfl (by kernel_rfl) (dX rfl (cX (Ht rfl))) ?_)))))))
    refine Y.D_step (Ei := [(152, _), (153, _)]) rfl rfl (bQ (bZ 2 rfl rfl) (bQ (bZ 3 rfl rfl) bX)) rfl rfl (by kernel_rfl) (dX rfl (fY U_32 Z_31 (Ht rfl) (Ht rfl) rfl (by omega) (by rw [Nat.mul_one, Nat.zero_add]))) ?_
    refine Y.D_step (Ei := [(154, _)]) rfl rfl (bQ (bZ 4 rfl rfl) bX) rfl rfl (by kernel_rfl) (dX rfl (op_ldHW A_31 Z_31 (Ht rfl) (j := 0) rfl (by omega))) (Y.D_step (Ei := [(6, _)]) rfl rfl (bQ (bJ rfl rfl) bX) rfl rfl (by kernel_rfl) (dX rfl (cX (Ht rfl))) (Y.D_step (Ei := [(155, _), (156, _)]) rfl rfl (bQ (bZ 5 rfl rfl) (bQ (bZ 6 rfl rfl) bX)) rfl rfl (by kernel_rfl) (dX rfl (op_idxW U_31 Z_98 (Ht rfl) (Ht rfl) rfl (j := 0) rfl (by omega) (by omega) (by omega))) ?_))
    refine Y.D_step (Ei := [(157, _)]) rfl rfl (bQ (bZ 7 rfl rfl) bX) rfl rfl (by kernel_rfl) (dX rfl (op_ldW A_98 Z_98 (Ht rfl) (j := 0) rfl (by omega) (by omega) (by omega))) (Y.D_step (Ei := [(7, _)]) rfl rfl (bQ (bJ rfl rfl) bX) rfl rfl (by kernel_rfl) (dX rfl (cX (Ht rfl))) (Y.D_step (Ei := [(16, _)]) rfl rfl (bQ (bJ rfl rfl) bX) rfl rfl (by kernel_rfl) (dX rfl (cX (Ht rfl))) (Y.D_step (Ei := [(159, _), (160, _)]) rfl rfl (bQ (bZ 9 rfl rfl) (bQ (bZ 10 rfl rfl) bX)) rfl rfl (by kernel_rfl) (dX rfl (fY U_32 Z_31 (Ht rfl) (Ht rfl) rfl (by omega) (by rw [Nat.mul_one, Nat.zero_add]))) ?_)))
    refine Y.D_step (Ei := [(161, _)]) rfl rfl (bQ (bZ 11 rfl rfl) bX) rfl rfl (by kernel_rfl) (dX rfl (op_ldHW A_31 Z_31 (Ht rfl) (j := 0) rfl (by omega))) (Y.D_step (Ei := [(16, _)]) rfl rfl (bQ (bJ rfl rfl) bX) rfl rfl (by kernel_rfl) (dX rfl (cX (Ht rfl))) (Y.D_step (Ei := [(162, _), (163, _)]) rfl rfl (bQ (bZ 12 rfl rfl) (bQ (bZ 13 rfl rfl) bX)) rfl rfl (by kernel_rfl) (dX rfl (op_idxW U_31 Z_98 (Ht rfl) (Ht rfl) rfl (j := 0) rfl (by omega) (by omega) (by omega))) ?_))
    refine Y.D_step (Ei := [(164, _)]) rfl rfl (bQ (bZ 14 rfl rfl) bX) rfl rfl (by kernel_rfl) (dX rfl (op_ldW A_98 Z_98 (Ht rfl) (j := 0) rfl (by omega) (by omega) (by omega))) (Y.D_step (Ei := [(158, _), (165, _)]) rfl rfl (bQ (bZ 8 rfl rfl) (bQ (bZ 15 rfl rfl) bX)) rfl rfl (by kernel_rfl) (dX rfl (cZ Tryz.call102 (c_rQDiv (x := gm A j c) (y := gm A j j) (L := grow L c) (M := grow L c) (by omega)) ⟨(Ht rfl), (Ht rfl), trivial⟩)) (Y.D_step (Ei := [(166, _)]) rfl rfl (bQ (bZ 16 rfl rfl) bX) rfl rfl (by kernel_rfl) (dX rfl (cX (Ht rfl))) ?_))
    refine Y.D_step (Ei := [(149, _)]) rfl rfl (bQ (bZ 17 rfl rfl) bX) rfl rfl (by kernel_rfl) (dX rfl (dK (Ht rfl) rfl)) (bY (Ei := [(149, _)]) rfl rfl (bQ (bZ 17 rfl rfl) bX) rfl rfl (dX rfl (dK (Ht rfl) rfl)) (Y.D_step (Ei := [(150, _), (151, _)]) rfl rfl (bQ (bZ 0 rfl rfl) (bQ (bZ 1 rfl rfl) bX)) rfl rfl (by kernel_rfl) (dX rfl (op_idxO U_31 Z_98 (Ht rfl) (Ht rfl) rfl (i := 1) rfl (by rw [mix_len]; omega) rfl)) ?_))
    refine Y.D_putI (Ei := [(169, _), (167, _)]) 1 rfl rfl rfl (bQ (bZ 20 rfl rfl) (bQ (bZ 18 rfl rfl) bX)) (.head _) rfl (P_stO Z_98 (Ht rfl) (Ht rfl) (El.ag rfl) (i := 0) rfl rfl (by rw [mix_len]; omega)) ?_
    refine Y.D_done mixed rfl (by kernel_rfl) rfl (by simp [Y.okP]) rfl rfl (bU (bU (bU (bU (bU (bU (bU (bU (bU (bU (bU (bU (bU (bU (bU (bU (bU (bU (bU (bU (bU (Y.F_putI (Y.F_nil ?_)))))))))))))))))))))))
    refine eX (T_blk (cY (rm rfl (ro rfl (dV (Ht rfl) (cJ 1) (by show _ < 9223372036854775808; first | omega | (simp only [lim]; omega))) (ra rfl (eX (fU (j + 1) hq (by omega) (aQ rfl (aQ rfl (aQ rfl (aQ rfl aX)))) (aU (fun _ _ _ h => h) (aU (rowO_of (mix_set (f := (fun j => QT (gm A j c / gm A j j))))) aY)))))))))
   ·have hjc : j = c := by simp only [decide_eq_false_iff_not] at hq; omega
    subst hjc
    rw [mix_fin]
    refine gV rfl (gJ (i := 1) (tt := 15) rfl rfl frz_row (ts (rm rfl (ra rfl (ro rfl (cQ (cJ 0)) (eX (T_ret2 rfl (fX (eU rfl) ?_) (fX (eU rfl) ?_))))))))
    ·exact (slT_of (gjL_of hA))
    ·exact (int_of (gjE_of hA).symm)
end
section
open Go Go.RowKit
def sidR (a b : List (List Qi)) (x y i : Nat) : List Qi := tab (x + y) fun j => if i < x then (if j < x then gm a i j else Qi.zero) else (if x ≤ j then gm b (i - x) (j - x) else Qi.zero)
def sidM (a b : List (List Qi)) (x y : Nat) : List (List Qi) := tab (x + y) (sidR a b x y)
theorem sidM_shp (a b : List (List Qi)) (x y : Nat) : Shp (sidM a b x y) (x + y) (x + y) := ⟨tab_len _ _, fun r hr => by obtain ⟨i, _, rfl⟩ := tab_mem.1 hr; exact tab_len _ _⟩
theorem sidM_fit {a b : List (List Qi)} {x y L : Nat} (ha : FitM a L) (hb : FitM b L) (hL : 1 ≤ L) : FitM (sidM a b x y) L := fun r hr => by
 obtain ⟨i, _, rfl⟩ := tab_mem.1 hr
 refine FitL.tab fun j _ => ?_
 split
 ·split
  ·exact ha.get hL _ _
  ·exact FitC.zero hL
 ·split
  ·exact hb.get hL _ _
  ·exact FitC.zero hL
theorem sidM_gm {a b : List (List Qi)} {x y i j : Nat} (hi : i < x + y) (hj : j < x + y) : gm (sidM a b x y) i j = if i < x then (if j < x then gm a i j else Qi.zero) else (if x ≤ j then gm b (i - x) (j - x) else Qi.zero) := by
 have e : (sidM a b x y).getD i [] = sidR a b x y i := by rw [sidM, List.getD, tab_get hi]; rfl
 show gv ((sidM a b x y).getD i []) j = _
 rw [e, sidR, gv_tab hj]
def rowS (f : Nat → Qi) (lo hi n : Nat) : List Qi := tab n fun k => if lo ≤ k ∧ k < hi then f k else Qi.zero
theorem rowS_len (f : Nat → Qi) (lo hi n : Nat) : (rowS f lo hi n).length = n := tab_len _ _
theorem rowS_start (f : Nat → Qi) (lo n : Nat) : (tab n fun _ => Qi.zero) = rowS f lo lo n := tab_congr fun k _ => by rw [if_neg (by omega)]
theorem rowS_next {f : Nat → Qi} {lo hi n : Nat} (h : lo ≤ hi) : (rowS f lo hi n).set hi (f hi) = rowS f lo (hi + 1) n := by
 apply List.ext_getElem?
 intro j
 by_cases hj : j < n
 ·by_cases e : j = hi
  ·subst e; rw [List.getElem?_set_self (by rw [rowS_len]; exact hj), rowS, tab_get hj, if_pos (by omega)]
  ·rw [List.getElem?_set_ne (Ne.symm e), rowS, rowS, tab_get hj, tab_get hj]
   by_cases e2 : lo ≤ j ∧ j < hi
   ·rw [if_pos e2, if_pos (by omega)]
   ·rw [if_neg e2, if_neg (by omega)]
 ·rw [List.getElem?_eq_none (by rw [List.length_set, rowS_len]; omega), List.getElem?_eq_none (by rw [rowS_len]; omega)]
theorem rowS_fst {a b : List (List Qi)} {x y i : Nat} (h : i < x) : rowS (gm a i) 0 x (x + y) = sidR a b x y i := tab_congr fun k _ => by
 rw [if_pos h]
 by_cases e : k < x
 ·rw [if_pos ⟨Nat.zero_le _, e⟩, if_pos e]
 ·rw [if_neg (fun k => e k.2), if_neg e]
theorem rowS_snd {a b : List (List Qi)} {x y i : Nat} : rowS (fun k => gm b i (k - x)) x (x + y) (x + y) = sidR a b x y (x + i) := tab_congr fun k hk => by
 rw [if_neg (show ¬ x + i < x by omega), show x + i - x = i by omega]
 by_cases e : x ≤ k
 ·rw [if_pos ⟨e, hk⟩, if_pos e]
 ·rw [if_neg (fun k => e k.1), if_neg e]
end
section
open Go Go.RowKit
theorem mapQ_ne {l : List Qi} (h : 1 ≤ l.length) : l.map QT ≠ [] := fun e => by
 have h2 := congrArg List.length e
 rw [List.length_map, List.length_nil] at h2; omega
theorem rn_of {Ts : List Ty} {T : Ty} {z : List Qi} (h : Ts = z.map QT) : ∀ v V, (AggT [SlT 5 Ts, T]).p v V → (AggT [SlT 5 (z.map QT), T]).p v V := fun _ _ k => h ▸ k
theorem c_side {z zb : List Qi} {a b : List (List Qi)} {x y : Nat} (ha : Shp a x x) (hb : Shp b y y) (hz : z.length = x) (hzb : zb.length = y) (hx1 : 1 ≤ x) (hy1 : 1 ≤ y) (hx : x ≤ 100) (hy : y ≤ 100) : Fun Tryz.prog 155 [RNetT z a, RNetT zb b] (RNetT (z ++ zb) (sidM a b x y)) := by
 have hal := ha.1
 have hbl := hb.1
 refine Fun.intro Tryz.func155 rfl Tryz.ntmps155 rfl (fun cx => (ts (rn rfl (fG (Ht rfl)) fun B2 => (rn rfl (fG (Ht rfl)) fun B3 => (rn rfl (eW (Ts := [Is (.slice none 0 0), Is (.slice none 0 0)]) O_34 rfl (fun V => aW ⟨rfl, trivial⟩ (aW ⟨rfl, trivial⟩ (aG)))) fun B4 => (eX (cK (fZ (m := 7) (dp 2 rfl (eZ fa_34_0 (Ht rfl) rfl) (dq 12 0 rfl (eY A_31 Z_31 (Ht rfl) (i := 0) rfl rfl) (dq 13 1 rfl (dG U_31 (Ht rfl) (by rw [List.length_map, hz])) ?_)))))))))))
 refine dp 3 rfl (eZ fa_34_0 (Ht rfl) rfl) (dq 15 3 rfl (eY A_31 Z_31 (Ht rfl) (i := 1) rfl rfl) (dq 16 4 rfl (dG U_31 (Ht rfl) (by rw [List.length_map, hzb])) ?_))
 refine dq 14 2 rfl (cQ (Ht rfl)) (fV mixed rfl (by kernel_rfl) (aJ (aJ (aJ (aJ (aJ (aJ (aJ (aV (ra rfl (eX (cK (fZ (m := 16) (C.D_tmp (Ei := []) rfl rfl rfl bW (new_bslice0 U_31 Z_98 O_98) (dp 2 rfl (eZ fa_34_0 (Ht rfl) rfl) (dq 19 1 rfl (eY A_31 Z_31 (Ht rfl) (i := 0) rfl rfl) (C.D_app (Ei := [(20, _)]) 0 false rfl rfl rfl rfl rfl rfl (bV (bG 2 rfl rfl) bW) (fun x21 => A_appendS (inf := Tryz.t98) und_31 info_98 rfl rfl rfl (Ht rfl) (Ht rfl) (mapQ_ne (by omega)) (fun T hT => by obtain ⟨x, _, rfl⟩ := List.mem_map.1 hT; exact El.ag rfl) (by show _ * 88 ≤ _; simp only [List.length_map, List.length_append, List.length_nil]; omega) (by simp only [List.length_map, List.length_append, List.length_nil]; omega)) ?_)))))))))))))))))
 refine dp 3 rfl (eZ fa_34_0 (Ht rfl) rfl) (dq 22 4 rfl (eY A_31 Z_31 (Ht rfl) (i := 1) rfl rfl) (C.D_app (Ei := [(23, _)]) 3 true rfl rfl rfl rfl rfl rfl (bV (bG 5 rfl rfl) bW) (fun x24 => A_appendS (inf := Tryz.t98) und_31 info_98 rfl rfl rfl (Ht rfl) (Ht rfl) (mapQ_ne (by omega)) (fun T hT => by obtain ⟨x, _, rfl⟩ := List.mem_map.1 hT; exact El.ag rfl) (by show _ * 88 ≤ _; simp only [List.length_map, List.length_append, List.length_nil]; omega) (by simp only [List.length_map, List.length_append, List.length_nil]; omega)) ?_))
 refine dp 5 rfl (cX (Ht rfl)) (dp 6 rfl (cX (Ht rfl)) (dqq 25 7 26 8 rfl (dV (Ht rfl) (Ht rfl) (by show _ < 9223372036854775808; first | omega | (simp only [lim]; omega))) (dp 5 rfl (cX (Ht rfl)) (dp 6 rfl (cX (Ht rfl)) (dqq 28 10 29 11 rfl (dV (Ht rfl) (Ht rfl) (by show _ < 9223372036854775808; first | omega | (simp only [lim]; omega))) (C.D_new (Ei := [(27, _), (30, _)]) rfl rfl rfl (bV (bG 9 rfl rfl) (bV (bG 12 rfl rfl) bW)) (new_call0 Tryz.call138 (c_ZerosO (n := x + y) (m := x + y) (by omega) (by omega)) ⟨(Ht rfl), (Ht rfl), trivial⟩) ?_))))))
 refine C.D_dep (fun T U => AggT [T, U]) 6 13 rfl rfl rfl rfl rfl rfl (fun T U hT hU => by obtain ⟨x, rfl⟩ := hT; obtain ⟨y, rfl⟩ := hU; (try dsimp only); exact dX rfl (bld_34_0_1 (Ht rfl) (Ht rfl))) (C.D_new (Ei := []) rfl rfl rfl bW (eW (Ts := [Is (.slice none 0 0), Is (.slice none 0 0)]) O_34 rfl (fun V => aW ⟨rfl, trivial⟩ (aW ⟨rfl, trivial⟩ (aG)))) (fV mixed rfl (by kernel_rfl) (C.F_tmp (fun B18 => aJ (aJ (C.F_tmp (fun v21 => aJ (aJ (C.F_new (fun v24 => aJ (aJ (aJ (aJ (aJ (aJ (C.F_new (fun B31 => C.F_dep rfl rfl (C.F_new (fun B7 => aV ?_)))))))))))))))))))
 refine gQ Z_34 (Ht rfl) (Ht rfl) rfl (i := 5) rfl (aK rfl) rfl rfl (eX (cK (ts (ro rfl (cQ (cJ 0)) (eX (eG ?_))))))
 generalize Value.slice (some ⟨v24.1, 0, none⟩) ([] ++ List.map QT z ++ List.map QT zb).length v24.2 = vz
 refine T_loop (fun (i : Nat) => i ≤ x) (fun (i : Nat) => x - i) (fun (i : Nat) => [(2, PtrB B2 0), (3, PtrB B3 0), (4, PtrB B4 0), (5, NT .i64 x), (6, NT .i64 y), (7, PtrB B7 0), (8, NT .i64 i)]) (fun (i : Nat) => [box B2 34 [QsT z, QM a], box B3 34 [QsT zb, QM b], box B4 34 [Is (.slice none 0 0), Is (.slice none 0 0)], rowO 98 5 vz ([] ++ List.map QT z ++ List.map QT zb), matP exactH B31 31 98 5 (FRow QT (mixT (sidR a b x y) (tab (x + y) fun _ => Qi.zero) (x + y) i)), box B7 34 [Is vz, Is (.slice (some ⟨B31, 0, none⟩) (x + y) (x + y))]]) 0 (Nat.zero_le _)
  (aQ rfl (aQ rfl (aQ rfl (aQ rfl (aQ rfl (aQ rfl (aQ rfl aX))))))) (aU (box_of rfl) (aU (box_of rfl) (aU (box_of rfl) (aU (fun _ _ _ h => h) (aU (matO_of (by rw [zeroM, mix_zero])) (aU (box_of rfl) aY)))))) (fun i hi => ?_)
 refine cK (ts (rm rfl (rm rfl (ro rfl (gX (Ht rfl) (Ht rfl)) (eX (dQ (Ht rfl) (fun hd => ?_) (fun hd => ?_)))))))
 ·have hdn : i < x := by simp only [decide_eq_true_eq] at hd; omega
  have har := ha.row hdn
  refine T_focusE 4 (i) rfl (frow_mix (by omega)) (fun v0 hv0 => (cU (cK (eG (ts (ro rfl (cQ (cJ 0)) (eX (eG ?_))))))))
  refine T_loop (fun (j : Nat) => j ≤ x) (fun (j : Nat) => x - j) (fun (j : Nat) => [(2, PtrB B2 0), (3, PtrB B3 0), (4, PtrB B4 0), (5, NT .i64 x), (6, NT .i64 y), (7, PtrB B7 0), (8, NT .i64 i), (9, NT .i64 j)]) (fun (j : Nat) => [box B2 34 [QsT z, QM a], box B3 34 [QsT zb, QM b], box B4 34 [Is (.slice none 0 0), Is (.slice none 0 0)], rowO 98 5 vz ([] ++ List.map QT z ++ List.map QT zb), matQ exactH B31 31 98 5 (FRow QT (mixT (sidR a b x y) (tab (x + y) fun _ => Qi.zero) (x + y) i)) i v0, box B7 34 [Is vz, Is (.slice (some ⟨B31, 0, none⟩) (x + y) (x + y))], rowO 98 5 v0 ((rowS (gm a i) 0 j (x + y)).map QT)]) 0 (Nat.zero_le _)
   (aQ rfl (aQ rfl (aQ rfl (aQ rfl (aQ rfl (aQ rfl (aQ rfl (aQ rfl aX)))))))) (aU (box_of rfl) (aU (box_of rfl) (aU (box_of rfl) (aU (fun _ _ _ h => h) (aU (fun _ _ _ h => h) (aU (box_of rfl) (aU (rowO_of (by rw [← rowS_start])) aY))))))) (fun j hj => ?_)
  refine cK (ts (rm rfl (rm rfl (ro rfl (gX (Ht rfl) (Ht rfl)) (eX (dQ (Ht rfl) (fun he => ?_) (fun he => ?_)))))))
  ·have hen : j < x := by simp only [decide_eq_true_eq] at he; omega
   refine cU (cK (eG (fZ (m := 14) (dp 7 rfl (eZ fa_34_1 (Ht rfl) rfl) (dq 43 0 rfl (eY A_32 Z_32 (Ht rfl) (i := 5) rfl rfl) (dp 8 rfl (cX (Ht rfl)) (dqq 44 1 45 2 rfl (fY U_32 Z_31 (Ht rfl) (Ht rfl) rfl (by omega) (by rw [Nat.mul_one, Nat.zero_add])) ?_)))))))
   refine dq 46 3 rfl (op_ldH A_31 Z_31 (Ht rfl) (j := 4) rfl) (dp 9 rfl (cX (Ht rfl)) (dp 2 rfl (eZ fa_34_1 (Ht rfl) rfl) (dq 49 6 rfl (eY A_32 Z_32 (Ht rfl) (i := 0) rfl rfl) (dp 8 rfl (cX (Ht rfl)) (dqq 50 7 51 8 rfl (dZ U_32 Z_31 (Ht rfl) (Ht rfl) rfl (dY (dU (d := []) (by omega)))) (dq 52 9 rfl (dJ A_31 Z_31 (Ht rfl)) (dp 9 rfl (cX (Ht rfl)) (dqq 53 10 54 11 rfl (dZ U_31 Z_98 (Ht rfl) (Ht rfl) rfl (dY (dU (d := Qi.zero) (by omega)))) ?_))))))))
   refine dq 55 12 rfl (dJ A_98 Z_98 (Ht rfl)) (fV mixed rfl (by kernel_rfl) (aJ (aJ (aJ (aJ (aJ (aJ (aJ (aJ (aJ (aJ (aJ (aJ (aJ (aJ (aV (ro rfl (op_idxO U_31 Z_98 (Ht rfl) (Ht rfl) rfl (i := 6) rfl (by rw [List.length_map, rowS_len]; omega) rfl) ?_)))))))))))))))))
   refine R_stO Z_98 (Ht rfl) (Ht rfl) (El.ag rfl) (i := 6) rfl rfl (by rw [List.length_map, rowS_len]; omega) rfl ?_
   refine eX (T_blk (cY (rm rfl (ro rfl (dV (Ht rfl) (cJ 1) (by show _ < 9223372036854775808; first | omega | (simp only [lim]; omega))) (ra rfl (eX (fU (j + 1) hen (by omega) (aQ rfl (aQ rfl (aQ rfl (aQ rfl (aQ rfl (aQ rfl (aQ rfl (aQ rfl aX)))))))) (aU (box_of rfl) (aU (box_of rfl) (aU (box_of rfl) (aU (fun _ _ _ h => h) (aU (fun _ _ _ h => h) (aU (box_of rfl) (aU (rowO_of (by rw [set_mapF]; exact congrArg _ (rowS_next (Nat.zero_le _)))) aY))))))))))))))
  ·have hjx : j = x := by simp only [decide_eq_false_iff_not] at he; omega
   subst hjx
   rw [rowS_fst hdn]
   refine gV rfl (T_blk (T_unfocus 4 6 rfl rfl (by decide) (by simp only [FRow, List.length_map, mix_len]; omega) ?_))
   refine cY (rm rfl (ro rfl (dV (Ht rfl) (cJ 1) (by show _ < 9223372036854775808; first | omega | (simp only [lim]; omega))) (ra rfl (eX (T_keep [0, 1, 2, 3, 4, 5] rfl (by decide) (fU (i + 1) hdn (by omega) (aQ rfl (aQ rfl (aQ rfl (aQ rfl (aQ rfl (aQ rfl (aQ rfl aX))))))) (aU (box_of rfl) (aU (box_of rfl) (aU (box_of rfl) (aU (fun _ _ _ h => h) (aU (matO_of (by rw [set_FRow, ← mix_set (f := sidR a b j y)])) (aU (box_of rfl) aY))))))))))))
 ·have hix : i = x := by simp only [decide_eq_false_iff_not] at hd; omega
  subst hix
  refine gV rfl (cK (ts (ro rfl (cQ (cJ 0)) (eX (eG ?_)))))
  refine T_loop (fun (r : Nat) => r ≤ y) (fun (r : Nat) => y - r) (fun (r : Nat) => [(2, PtrB B2 0), (3, PtrB B3 0), (4, PtrB B4 0), (5, NT .i64 i), (6, NT .i64 y), (7, PtrB B7 0), (10, NT .i64 r)]) (fun (r : Nat) => [box B2 34 [QsT z, QM a], box B3 34 [QsT zb, QM b], box B4 34 [Is (.slice none 0 0), Is (.slice none 0 0)], rowO 98 5 vz ([] ++ List.map QT z ++ List.map QT zb), matP exactH B31 31 98 5 (FRow QT (mixT (sidR a b i y) (tab (i + y) fun _ => Qi.zero) (i + y) (i + r))), box B7 34 [Is vz, Is (.slice (some ⟨B31, 0, none⟩) (i + y) (i + y))]]) 0 (Nat.zero_le _)
   (aQ rfl (aQ rfl (aQ rfl (aQ rfl (aQ rfl (aQ rfl (aQ rfl aX))))))) (aU (box_of rfl) (aU (box_of rfl) (aU (box_of rfl) (aU (fun _ _ _ h => h) (aU (matO_of rfl) (aU (box_of rfl) aY)))))) (fun r hr => ?_)
  refine cK (ts (rm rfl (rm rfl (ro rfl (gX (Ht rfl) (Ht rfl)) (eX (dQ (Ht rfl) (fun hd2 => ?_) (fun hd2 => ?_)))))))
  ·have hrn : r < y := by simp only [decide_eq_true_eq] at hd2; omega
   have hbr := hb.row hrn
   refine T_focusE 4 ((i + r)) rfl (frow_mix (by omega)) (fun v0 hv0 => (cU (cK (eG (ts (ro rfl (cQ (cJ 0)) (eX (eG ?_))))))))
   refine T_loop (fun (j : Nat) => j ≤ y) (fun (j : Nat) => y - j) (fun (j : Nat) => [(2, PtrB B2 0), (3, PtrB B3 0), (4, PtrB B4 0), (5, NT .i64 i), (6, NT .i64 y), (7, PtrB B7 0), (10, NT .i64 r), (11, NT .i64 j)]) (fun (j : Nat) => [box B2 34 [QsT z, QM a], box B3 34 [QsT zb, QM b], box B4 34 [Is (.slice none 0 0), Is (.slice none 0 0)], rowO 98 5 vz ([] ++ List.map QT z ++ List.map QT zb), matQ exactH B31 31 98 5 (FRow QT (mixT (sidR a b i y) (tab (i + y) fun _ => Qi.zero) (i + y) (i + r))) (i + r) v0, box B7 34 [Is vz, Is (.slice (some ⟨B31, 0, none⟩) (i + y) (i + y))], rowO 98 5 v0 ((rowS (fun k => gm b r (k - i)) i (i + j) (i + y)).map QT)]) 0 (Nat.zero_le _)
    (aQ rfl (aQ rfl (aQ rfl (aQ rfl (aQ rfl (aQ rfl (aQ rfl (aQ rfl aX)))))))) (aU (box_of rfl) (aU (box_of rfl) (aU (box_of rfl) (aU (fun _ _ _ h => h) (aU (fun _ _ _ h => h) (aU (box_of rfl) (aU (rowO_of (by rw [rowS_start (fun k => gm b r (k - i)) i]; rfl)) aY))))))) (fun j hj2 => ?_)
   refine cK (ts (rm rfl (rm rfl (ro rfl (gX (Ht rfl) (Ht rfl)) (eX (dQ (Ht rfl) (fun he2 => ?_) (fun he2 => ?_)))))))
   ·have hen : j < y := by simp only [decide_eq_true_eq] at he2; omega
    have hnx := rowS_next (f := (fun k => gm b r (k - i))) (lo := i) (hi := i + j) (n := i + y) (by omega)
    simp only [Nat.add_sub_cancel_left] at hnx
    refine cU (cK (eG (fZ (m := 18) (dp 7 rfl (eZ fa_34_1 (Ht rfl) rfl) (dq 68 0 rfl (eY A_32 Z_32 (Ht rfl) (i := 5) rfl rfl) (dp 5 rfl (cX (Ht rfl)) (dp 10 rfl (cX (Ht rfl)) (dqq 70 2 71 3 rfl (dV (Ht rfl) (Ht rfl) (by show _ < 9223372036854775808; first | omega | (simp only [lim]; omega))) (dqq 69 1 72 4 rfl (fY U_32 Z_31 (Ht rfl) (Ht rfl) rfl (by omega) (by rw [Nat.mul_one, Nat.zero_add])) ?_)))))))))
    refine dq 73 5 rfl (op_ldH A_31 Z_31 (Ht rfl) (j := 4) rfl) (dp 5 rfl (cX (Ht rfl)) (dp 11 rfl (cX (Ht rfl)) (dqq 75 7 76 8 rfl (dV (Ht rfl) (Ht rfl) (by show _ < 9223372036854775808; first | omega | (simp only [lim]; omega))) (dp 3 rfl (eZ fa_34_1 (Ht rfl) rfl) (dq 78 10 rfl (eY A_32 Z_32 (Ht rfl) (i := 1) rfl rfl) (dp 10 rfl (cX (Ht rfl)) (dqq 79 11 80 12 rfl (dZ U_32 Z_31 (Ht rfl) (Ht rfl) rfl (dY (dU (d := []) (by omega)))) (dq 81 13 rfl (dJ A_31 Z_31 (Ht rfl)) ?_))))))))
    refine dp 11 rfl (cX (Ht rfl)) (dqq 82 14 83 15 rfl (dZ U_31 Z_98 (Ht rfl) (Ht rfl) rfl (dY (dU (d := Qi.zero) (by omega)))) (dq 84 16 rfl (dJ A_98 Z_98 (Ht rfl)) (fV mixed rfl (by kernel_rfl) (aJ (aJ (aJ (aJ (aJ (aJ (aJ (aJ (aJ (aJ (aJ (aJ (aJ (aJ (aJ (aJ (aJ (aJ (aV (ro rfl (op_idxO U_31 Z_98 (Ht rfl) (Ht rfl) rfl (i := 6) rfl (by rw [List.length_map, rowS_len]; omega) rfl) ?_)))))))))))))))))))))))
    refine R_stO Z_98 (Ht rfl) (Ht rfl) (El.ag rfl) (i := 6) rfl rfl (by rw [List.length_map, rowS_len]; omega) rfl ?_
    refine eX (T_blk (cY (rm rfl (ro rfl (dV (Ht rfl) (cJ 1) (by show _ < 9223372036854775808; first | omega | (simp only [lim]; omega))) (ra rfl (eX (fU (j + 1) hen (by omega) (aQ rfl (aQ rfl (aQ rfl (aQ rfl (aQ rfl (aQ rfl (aQ rfl (aQ rfl aX)))))))) (aU (box_of rfl) (aU (box_of rfl) (aU (box_of rfl) (aU (fun _ _ _ h => h) (aU (fun _ _ _ h => h) (aU (box_of rfl) (aU (rowO_of (by rw [set_mapF]; exact congrArg _ hnx)) aY))))))))))))))
   ·have hjx : j = y := by simp only [decide_eq_false_iff_not] at he2; omega
    subst hjx
    rw [rowS_snd (a := a) (b := b)]
    refine gV rfl (T_blk (T_unfocus 4 6 rfl rfl (by decide) (by simp only [FRow, List.length_map, mix_len]; omega) ?_))
    refine cY (rm rfl (ro rfl (dV (Ht rfl) (cJ 1) (by show _ < 9223372036854775808; first | omega | (simp only [lim]; omega))) (ra rfl (eX (T_keep [0, 1, 2, 3, 4, 5] rfl (by decide) (fU (r + 1) hrn (by omega) (aQ rfl (aQ rfl (aQ rfl (aQ rfl (aQ rfl (aQ rfl (aQ rfl aX))))))) (aU (box_of rfl) (aU (box_of rfl) (aU (box_of rfl) (aU (fun _ _ _ h => h) (aU (matO_of (by rw [set_FRow, mix_set (f := sidR a b i j)]; rfl)) (aU (box_of rfl) aY))))))))))))
  ·have hry : r = y := by simp only [decide_eq_false_iff_not] at hd2; omega
   subst hry
   rw [mix_fin]
   refine gV rfl (cK (T_frzcell 5 3 0 rfl rfl rfl (by decide) (T_frzcellG 5 4 1 rfl rfl rfl (by decide) (frzM (q := exactH) (M := sidM a b i r) (tab_len _ _).symm) (cY (ro rfl (eJ A_34 Z_34 (Ht rfl) (i := 5) rfl rfl rfl) (gQ Z_34 (Ht rfl) (Ht rfl) rfl (i := 2) rfl (aK rfl) rfl rfl (eX (fW rfl (fX (fK A_34 Z_34 rfl (i := 2) rfl rfl) ?_)))))))))
   exact (rn_of (by rw [List.nil_append, List.map_append]))
end
section
open Go Go.RowKit
abbrev pA (ps : List (Nat × Nat)) (k : Nat) : Nat := (ps.getD k (0, 0)).1
abbrev pB (ps : List (Nat × Nat)) (k : Nat) : Nat := (ps.getD k (0, 0)).2
def toL (n : Nat) (ps : List (Nat × Nat)) : Nat → List Int
 | 0 => tab n fun _ => -1
 | k + 1 => ((toL n ps k).set (pA ps k) (pB ps k : Int)).set (pB ps k) (pA ps k : Int)
abbrev tv (to : List Int) (i : Nat) : Int := to.getD i 0
theorem toL_len (n : Nat) (ps : List (Nat × Nat)) : ∀ k, (toL n ps k).length = n
 | 0 => tab_len _ _
 | k + 1 => by rw [toL, List.length_set, List.length_set, toL_len n ps k]
theorem toL_mem {n : Nat} {ps : List (Nat × Nat)} : ∀ {k : Nat}, (∀ j, j < k → pA ps j < n ∧ pB ps j < n) → ∀ x, x ∈ toL n ps k → -1 ≤ x ∧ x < n
 | 0, _, x, hx => by obtain ⟨i, _, rfl⟩ := tab_mem.1 hx; omega
 | k + 1, h, x, hx => by
  have hk := h k (Nat.lt_succ_self k)
  rcases List.mem_or_eq_of_mem_set hx with h1 | h1
  ·rcases List.mem_or_eq_of_mem_set h1 with h2 | h2
   ·exact toL_mem (fun j hj => h j (by omega)) x h2
   ·rw [h2]; omega
  ·rw [h1]; omega
theorem tv_mem {to : List Int} {i : Nat} (h : i < to.length) : tv to i ∈ to := by
 have e : tv to i = to[i] := by simp [tv, List.getD, h]
 rw [e]; exact List.getElem_mem h
def lfL (to : List Int) : Nat → List Nat
 | 0 => []
 | k + 1 => lfL to k ++ (if tv to k < 0 then [k] else [])
theorem lfL_lt {to : List Int} : ∀ {k x : Nat}, x ∈ lfL to k → x < k
 | 0, x, h => by cases h
 | k + 1, x, h => by
  rcases List.mem_append.1 h with h1 | h1
  ·have := lfL_lt h1; omega
  ·split at h1
   ·have := List.mem_singleton.1 h1; omega
   ·cases h1
theorem lfL_len (to : List Int) : ∀ k, (lfL to k).length ≤ k
 | 0 => Nat.le_refl _
 | k + 1 => by
  have := lfL_len to k
  simp only [lfL, List.length_append]
  split
  ·simp; omega
  ·simp; omega
def cnR (S : List (List Qi)) (to : List Int) (n i : Nat) : Nat → List Qi
 | 0 => unitR n i
 | j + 1 => if tv to j < 0 then cnR S to n i j else (cnR S to n i j).set (tv to j).toNat (gv (cnR S to n i j) (tv to j).toNat - gm S i j)
theorem unitR_len (n i : Nat) : (unitR n i).length = n := by rw [unitR, List.length_set, tab_len]
theorem cnR_len (S : List (List Qi)) (to : List Int) (n i : Nat) : ∀ j, (cnR S to n i j).length = n
 | 0 => unitR_len n i
 | j + 1 => by
  simp only [cnR]
  split
  ·exact cnR_len S to n i j
  ·rw [List.length_set, cnR_len S to n i j]
theorem cnR_fit {S : List (List Qi)} {to : List Int} {n i L : Nat} (h : FitM S L) (hL : 1 ≤ L) : ∀ j, FitL (cnR S to n i j) (1 + j * (L + 1))
 | 0 => unitR_fit (by omega)
 | j + 1 => by
  have ih := cnR_fit (to := to) (n := n) (i := i) h hL j
  have e : 1 + (j + 1) * (L + 1) = 1 + j * (L + 1) + L + 1 := by rw [Nat.add_mul]; omega
  simp only [cnR]
  split
  ·exact ih.le (by omega)
  ·intro x hx
   rcases List.mem_or_eq_of_mem_set hx with h1 | h1
   ·exact (ih x h1).le (by omega)
   ·rw [h1, e]
    haveI f1 := ih.get (by omega) (tv to j).toNat
    haveI f2 := h.get hL i j
    infer_instance
def cnM (S : List (List Qi)) (to : List Int) (n : Nat) : List (List Qi) := tab n fun i => cnR S to n i n
theorem cnM_shp (S : List (List Qi)) (to : List Int) (n : Nat) : Shp (cnM S to n) n n := ⟨tab_len _ _, fun r hr => by obtain ⟨i, _, rfl⟩ := tab_mem.1 hr; exact cnR_len S to n i n⟩
theorem cnM_fit {S : List (List Qi)} {to : List Int} {n L : Nat} (h : FitM S L) (hL : 1 ≤ L) : FitM (cnM S to n) (1 + n * (L + 1)) := fun r hr => by obtain ⟨i, _, rfl⟩ := tab_mem.1 hr; exact cnR_fit h hL n
def cnB (S : List (List Qi)) (n l : Nat) : List Qi := tab n fun i => gm S i l
theorem cnB_fit {S : List (List Qi)} {n l L : Nat} (h : FitM S L) (hL : 1 ≤ L) : FitL (cnB S n l) L := FitL.tab fun i _ => h.get hL i l
def colP (val : Nat → Nat → Qi) (n m k i : Nat) : List (List Qi) := tab n fun r => tab m fun j => if j < k ∨ j = k ∧ r < i then val r j else Qi.zero
theorem colP_shp (val : Nat → Nat → Qi) (n m k i : Nat) : Shp (colP val n m k i) n m := Shp.tab
theorem colP_zero (val : Nat → Nat → Qi) (n m : Nat) : zeroM n m = colP val n m 0 0 := tab_congr fun r _ => tab_congr fun j _ => by rw [if_neg (by omega)]
theorem colP_col (val : Nat → Nat → Qi) (n m k : Nat) : colP val n m k n = colP val n m (k + 1) 0 := tab_congr fun r hr => tab_congr fun j _ => by
 by_cases h : j < k ∨ j = k ∧ r < n
 ·rw [if_pos h, if_pos (by omega)]
 ·rw [if_neg h, if_neg (by omega)]
theorem colP_fin (val : Nat → Nat → Qi) (n m : Nat) : colP val n m m 0 = tab n fun r => tab m fun j => val r j := tab_congr fun r _ => tab_congr fun j hj => by rw [if_pos (by omega)]
theorem colP_next {val : Nat → Nat → Qi} {n m k i : Nat} (hi : i < n) (hk : k < m) : (colP val n m k i).set i (((colP val n m k i).getD i []).set k (val i k)) = colP val n m k (i + 1) := by
 apply List.ext_getElem?
 intro r
 by_cases hr : r < n
 ·by_cases e : r = i
  ·subst e
   rw [List.getElem?_set_self (by rw [(colP_shp _ _ _ _ _).1]; exact hr), colP, colP, tab_get (f := fun r => tab m fun j => if j < k ∨ j = k ∧ r < _ + 1 then val r j else Qi.zero) hr]
   congr 1
   have : (tab n fun x => tab m fun j => if j < k ∨ j = k ∧ x < r then val x j else Qi.zero).getD r [] = tab m fun j => if j < k ∨ j = k ∧ r < r then val r j else Qi.zero := tab_getD hr
   rw [this]
   apply List.ext_getElem?
   intro j
   by_cases hj : j < m
   ·by_cases e2 : j = k
    ·subst e2
     rw [List.getElem?_set_self (by rw [tab_len]; exact hj), tab_get hj, if_pos (by omega)]
    ·rw [List.getElem?_set_ne (Ne.symm e2), tab_get hj, tab_get hj]
     by_cases e3 : j < k
     ·rw [if_pos (.inl e3), if_pos (.inl e3)]
     ·rw [if_neg (by omega), if_neg (by omega)]
   ·rw [List.getElem?_eq_none (by rw [List.length_set, tab_len]; omega), List.getElem?_eq_none (by rw [tab_len]; omega)]
  ·rw [List.getElem?_set_ne (Ne.symm e), colP, colP, tab_get hr, tab_get hr]
   congr 1
   refine tab_congr fun j _ => ?_
   by_cases e3 : j < k ∨ j = k ∧ r < i
   ·rw [if_pos e3, if_pos (by omega)]
   ·rw [if_neg e3, if_neg (by omega)]
 ·rw [List.getElem?_eq_none (by rw [List.length_set, (colP_shp _ _ _ _ _).1]; omega), List.getElem?_eq_none (by rw [(colP_shp _ _ _ _ _).1]; omega)]
def cnV (S : List (List Qi)) (to : List Int) (n : Nat) (lf : List Nat) (x y : Nat) : Qi := gv (gjL (cnM S to n) (cnB S n (lf.getD y 0)) n) (lf.getD x 0)
def cnE (S : List (List Qi)) (to : List Int) (n : Nat) (lf : List Nat) : Int := firstE (fun y => gjE (cnM S to n) (cnB S n (lf.getD y 0)) n) lf.length
end
section
open Go Go.RowKit
theorem grow_monoL {L M : Nat} (h : L ≤ M) : ∀ c, grow L c ≤ grow M c
 | 0 => h
 | c + 1 => by have := grow_monoL h c; simp only [grow]; omega
theorem gjL_len {M : List (List Qi)} {b : List Qi} {n : Nat} (h : Shp M n n) (he : gjE M b n = 0) : (gjL M b n).length = n := by
 cases hX : gjX M b n with
 | none => simp only [gjE, hX, Option.isSome_none] at he; exact absurd he (by decide)
 | some X => simp only [gjL, hX, Option.getD_some]; exact (gjX_some h hX).1
theorem gv_set {l : List Qi} {t k : Nat} {v : Qi} (ht : t < l.length) : gv (l.set t v) k = if k = t then v else gv l k := by
 simp only [gv, List.getD]
 by_cases e : k = t
 ·subst e; rw [if_pos rfl, List.getElem?_set_self ht]; rfl
 ·rw [if_neg e, List.getElem?_set_ne (Ne.symm e)]
theorem sumN_set {l : List Qi} {n t : Nat} {v : Qi} {x : Nat → Qi} (hl : l.length = n) (ht : t < n) : sumN n (fun k => gv (l.set t v) k * x k) = sumN n (fun k => gv l k * x k) + (v - gv l t) * x t := by
 have e : ∀ k, k < n → gv (l.set t v) k * x k = gv l k * x k + (if k = t then (v - gv l t) * x t else 0) := fun k hk => by
  rw [gv_set (by omega)]
  by_cases c : k = t
  ·subst c; rw [if_pos rfl, if_pos rfl]; grind
  ·rw [if_neg c, if_neg c]; grind
 rw [sumN_congr e, sumN_add, sumN_single (i := t) ht (fun k _ hk => if_neg hk), if_pos rfl]
def cnT (S : List (List Qi)) (to : List Int) (x : Nat → Qi) (i j : Nat) : Qi := if tv to j < 0 then 0 else gm S i j * x (tv to j).toNat
theorem unitR_sum {n i : Nat} (hi : i < n) (x : Nat → Qi) : sumN n (fun k => gv (unitR n i) k * x k) = x i := by
 rw [unitR, sumN_set (tab_len _ _) hi, sumN_all0 (fun k hk => by rw [gv_tab hk, q0]; grind), gv_tab hi, q0, q1]; grind
theorem cnR_sum {S : List (List Qi)} {to : List Int} {n i : Nat} (hi : i < n) (hto : ∀ j, j < n → tv to j < n) (x : Nat → Qi) : ∀ J, J ≤ n → sumN n (fun k => gv (cnR S to n i J) k * x k) = x i - sumN J (cnT S to x i)
 | 0, _ => by rw [cnR, unitR_sum hi]; simp only [sumN, q0]; grind
 | J + 1, h => by
  have ih := cnR_sum (S := S) hi hto x J (by omega)
  have hj := hto J (by omega)
  by_cases c : tv to J < 0
  ·rw [cnR, if_pos c, ih]; simp only [sumN, cnT, if_pos c]; grind
  ·rw [cnR, if_neg c, sumN_set (cnR_len ..) (by omega), ih]; simp only [sumN, cnT, if_neg c]; grind
theorem cnM_row {S : List (List Qi)} {to : List Int} {n i k : Nat} (hi : i < n) : gm (cnM S to n) i k = gv (cnR S to n i n) k := by
 show gv ((cnM S to n).getD i []) k = _
 rw [cnM, tab_getD hi]
theorem cnM_sum {S : List (List Qi)} {to : List Int} {n i : Nat} (hi : i < n) (hto : ∀ j, j < n → tv to j < n) (x : Nat → Qi) : sumN n (fun k => gm (cnM S to n) i k * x k) = x i - sumN n (cnT S to x i) := by
 rw [← cnR_sum hi hto x n (Nat.le_refl n)]; exact sumN_congr fun k _ => by rw [cnM_row hi]
theorem cnB_at {S : List (List Qi)} {n l i : Nat} (hi : i < n) : gv (cnB S n l) i = gm S i l := gv_tab hi
def Cyc (S : List (List Qi)) (to : List Int) (n : Nat) (x : Nat → Qi) : Prop := ∀ i, i < n → x i - sumN n (cnT S to x i) = 0
theorem cn_ok {S : List (List Qi)} {to : List Int} {n : Nat} {lf : List Nat} {u : Nat → Nat → Qi} (hto : ∀ j, j < n → tv to j < n)
  (hu : ∀ y, y < lf.length → ∀ i, i < n → u y i - sumN n (cnT S to (u y) i) = gm S i (lf.getD y 0)) (hk : ∀ x, Cyc S to n x → ∀ k, k < n → x k = 0) :
  cnE S to n lf = 0 ∧ ∀ x y, y < lf.length → lf.getD x 0 < n → cnV S to n lf x y = u y (lf.getD x 0) := by
 have hS := cnM_shp S to n
 have key : ∀ y, y < lf.length → ∃ X, gjX (cnM S to n) (cnB S n (lf.getD y 0)) n = some X ∧ ∀ k, k < n → gv X k = u y k := fun y hy => by
  cases hX : gjX (cnM S to n) (cnB S n (lf.getD y 0)) n with
  | none =>
   obtain ⟨z, h1, k, h2, h3⟩ := gjX_none hS hX
   exact absurd (hk z (fun i hi => by rw [← cnM_sum hi hto]; exact h1 i hi) k h2) h3
  | some X =>
   refine ⟨X, rfl, fun k hk2 => ?_⟩
   obtain ⟨_, h2, h3⟩ := gjX_some hS hX
   have h4 := h3 (fun k => gv X k - 1 * u y k) (fun i hi => by
    have e1 := h2 i hi
    rw [cnB_at hi] at e1
    have e2 := hu y hy i hi
    rw [← cnM_sum hi hto] at e2
    have e3 : sumN n (fun k => gm (cnM S to n) i k * (gv X k - 1 * u y k)) = sumN n (fun k => gm (cnM S to n) i k * gv X k - 1 * (gm (cnM S to n) i k * u y k)) := sumN_congr fun k _ => by grind
    rw [e3, sumN_sub, e1, e2]; grind) k hk2
   grind
 refine ⟨firstE_none fun y hy => ?_, fun x y hy hx => ?_⟩
 ·obtain ⟨X, hX, _⟩ := key y hy
  simp only [gjE, hX, Option.isSome_some, if_true]
 ·obtain ⟨X, hX, h⟩ := key y hy
  simp only [cnV, gjL, hX, Option.getD_some]
  exact h _ hx
theorem cn_bad {S : List (List Qi)} {to : List Int} {n : Nat} {lf : List Nat} {x : Nat → Qi} (hto : ∀ j, j < n → tv to j < n) (hl : 1 ≤ lf.length) (hx : Cyc S to n x) {k : Nat} (hk : k < n) (hxk : x k ≠ 0) : cnE S to n lf = 6 := by
 have hS := cnM_shp S to n
 have h0 : gjE (cnM S to n) (cnB S n (lf.getD 0 0)) n = 6 := by
  cases hX : gjX (cnM S to n) (cnB S n (lf.getD 0 0)) n with
  | none => simp only [gjE, hX, Option.isSome_none]; rfl
  | some X =>
   obtain ⟨_, _, h3⟩ := gjX_some hS hX
   exact absurd (h3 x (fun i hi => by rw [cnM_sum hi hto]; exact hx i hi) k hk) hxk
 have := firstE_at (f := fun y => gjE (cnM S to n) (cnB S n (lf.getD y 0)) n) (k := 0) (fun i hi => by omega) (by show gjE _ (cnB S n (lf.getD 0 0)) n ≠ 0; rw [h0]; decide) (n := lf.length) (by omega)
 rw [cnE, this]; exact h0
end
section
open Go Go.RowKit
abbrev PrT (q : Nat × Nat) : Ty := AggT [NT .i64 q.1, NT .i64 q.2]
abbrev PrsT (ps : List (Nat × Nat)) : Ty := SlT 2 (ps.map PrT)
abbrev ZT (x : Int) : Ty := IntT .i64 x
theorem cn_no {z : List Qi} {m : List (List Qi)} {e : Int} (h : e ≠ 0) : ∀ v V, (RNetT [] []).p v V → (RNetT (okL e z) (okL e m)).p v V := by rw [okL, okL, if_neg h, if_neg h]; exact fun _ _ k => k
theorem cn_yes {z : List Qi} {m : List (List Qi)} {e : Int} {Ts : List Ty} {T : Ty} (h : e = 0) (hZ : Ts = z.map QT) (hT : T = QM m) : ∀ v V, (AggT [SlT 5 Ts, T]).p v V → (RNetT (okL e z) (okL e m)).p v V := by rw [okL, okL, if_pos h, if_pos h, hZ, hT]; exact fun _ _ k => k
theorem set_mapZ (l : List Int) (k : Nat) (z : Int) : (l.set k z).map ZT = (l.map ZT).set k (ZT z) := by rw [List.map_set]
theorem c_connect {z : List Qi} {S : List (List Qi)} {n L : Nat} {ps : List (Nat × Nat)} (hS : Shp S n n) (hz : z.length = n) (hf : FitM S L) (hL : 1 ≤ L) (hLb : L ≤ 1000) (h1 : 1 ≤ n) (hn : n ≤ 9) (hps : ∀ j, j < ps.length → pA ps j < n ∧ pB ps j < n) (hpl : ps.length ≤ 9) : Fun Tryz.prog 154 [RNetT z S, PrsT ps] (TupT [RNetT (okL (cnE S (toL n ps ps.length) n (lfL (toL n ps ps.length) n)) ((lfL (toL n ps ps.length) n).map fun l => gv z l)) (okL (cnE S (toL n ps ps.length) n (lfL (toL n ps ps.length) n)) (tab (lfL (toL n ps ps.length) n).length fun x => tab (lfL (toL n ps ps.length) n).length fun y => cnV S (toL n ps ps.length) n (lfL (toL n ps ps.length) n) x y)), BoolT (decide (cnE S (toL n ps ps.length) n (lfL (toL n ps ps.length) n) = 0))]) := by
 have hSl := hS.1
 refine Fun.intro Tryz.func154 rfl Tryz.ntmps154 rfl (fun cx => (ts (rn rfl (fG (Ht rfl)) fun B2 => (rn rfl (eW (Ts := [Is (.slice none 0 0), Is (.slice none 0 0)]) O_34 rfl (fun V => aW ⟨rfl, trivial⟩ (aW ⟨rfl, trivial⟩ (aG)))) fun B4 => (ro rfl (cQ cV) (eX (ts (ro rfl (eZ fa_34_0 (Ht rfl) rfl) (ro rfl (eY A_31 Z_31 (Ht rfl) (i := 0) rfl rfl) (ro rfl (dG U_31 (Ht rfl) (by rw [List.length_map, hz])) ?_))))))))))
 refine ra rfl (eX (ts (rm rfl (rn rfl (new_makeO (T := ZT 0) (i := Tryz.t3) und_69 info_3 rfl rfl (Ht rfl) rfl (fun V => rfl) El.one (by show 8 * _ ≤ _; omega) (by omega)) fun B26 => (ra rfl (eX (cK (ts (ro rfl (cQ (cJ 0)) (eX (eG ?_)))))))))))
 refine T_loop (fun (i : Nat) => i ≤ n) (fun (i : Nat) => n - i) (fun (i : Nat) => [(1, PrsT ps), (2, PtrB B2 0), (4, PtrB B4 0), (6, NT .i64 n), (7, Is B26), (8, NT .i64 i)]) (fun (i : Nat) => [box B2 34 [QsT z, QM S], box B4 34 [Is (.slice none 0 0), Is (.slice none 0 0)], rowO 3 1 B26 (mixT (fun _ => ZT (-1)) (ZT 0) n i)]) 0 (Nat.zero_le _)
  (aQ rfl (aQ rfl (aQ rfl (aQ rfl (aQ rfl (aQ rfl aX)))))) (aU (box_of rfl) (aU (box_of rfl) (aU (rowO_of (by rw [← mix_zero]; exact rep_tab _ _)) aY))) (fun i hi => ?_)
 refine cK (ts (rm rfl (rm rfl (ro rfl (gX (Ht rfl) (Ht rfl)) (eX (dQ (Ht rfl) (fun hd => ?_) (fun hd => ?_)))))))
 ·have hdn : i < n := by simp only [decide_eq_true_eq] at hd; omega
  refine cU (cK (eG (cY (rm rfl (rm rfl (ro rfl (op_idxO U_69 Z_3 (Ht rfl) (Ht rfl) rfl (i := 2) rfl (by rw [mix_len]; omega) rfl) ?_))))))
  refine R_stO Z_3 (Ht rfl) cV El.one (i := 2) rfl rfl (by rw [mix_len]; omega) rfl ?_
  refine eX (T_blk (cY (rm rfl (ro rfl (dV (Ht rfl) (cJ 1) (by show _ < 9223372036854775808; first | omega | (simp only [lim]; omega))) (ra rfl (eX (fU (i + 1) hdn (by omega) (aQ rfl (aQ rfl (aQ rfl (aQ rfl (aQ rfl (aQ rfl aX)))))) (aU (box_of rfl) (aU (box_of rfl) (aU (rowO_of (mix_set (f := fun _ => ZT (-1)))) aY))))))))))
 ·have hin : i = n := by simp only [decide_eq_false_iff_not] at hd; omega
  subst hin
  rw [mix_fin]
  refine gV rfl (cK (ts (ro rfl (cQ (cJ 0)) (eX (eG ?_)))))
  refine T_loop (fun (k : Nat) => k ≤ ps.length) (fun (k : Nat) => ps.length - k) (fun (k : Nat) => [(1, PrsT ps), (2, PtrB B2 0), (4, PtrB B4 0), (6, NT .i64 i), (7, Is B26), (9, NT .i64 k)]) (fun (k : Nat) => [box B2 34 [QsT z, QM S], box B4 34 [Is (.slice none 0 0), Is (.slice none 0 0)], rowO 3 1 B26 ((toL i ps k).map ZT)]) 0 (Nat.zero_le _)
   (aQ rfl (aQ rfl (aQ rfl (aQ rfl (aQ rfl (aQ rfl aX)))))) (aU (box_of rfl) (aU (box_of rfl) (aU (rowO_of (by rw [toL, tab_map])) aY))) (fun k hk => ?_)
  refine cK (ts (rm rfl (rm rfl (ro rfl (dG U_59 (Ht rfl) len_map) (ro rfl (gX (Ht rfl) (Ht rfl)) (eX (dQ (Ht rfl) (fun hd2 => ?_) (fun hd2 => ?_))))))))
  ·have hkn : k < ps.length := by simp only [decide_eq_true_eq] at hd2; omega
   obtain ⟨hpa, hpb⟩ := hps k hkn
   refine cU (cK (eG (cK (fZ (m := 11) (dp 7 rfl (cX (Ht rfl)) (dp 1 rfl (cX (Ht rfl)) (dp 9 rfl (cX (Ht rfl)) (dqq 42 1 43 2 rfl (dZ U_59 Z_120 (Ht rfl) (Ht rfl) rfl (dY (dU (d := (0, 0)) hkn))) (dq 44 3 rfl (op_idxA U_120 Z_3 (Ht rfl) cV rfl (by decide) rfl) (dq 45 4 rfl (dJ A_3 Z_3 (Ht rfl)) (dp 1 rfl (cX (Ht rfl)) (dp 9 rfl (cX (Ht rfl)) (dqq 47 6 48 7 rfl (dZ U_59 Z_120 (Ht rfl) (Ht rfl) rfl (dY (dU (d := (0, 0)) hkn))) ?_)))))))))))))
   refine dq 49 8 rfl (op_idxA U_120 Z_3 (Ht rfl) cV rfl (by decide) rfl) (dq 50 9 rfl (dJ A_3 Z_3 (Ht rfl)) (fV mixed rfl (by kernel_rfl) (aJ (aJ (aJ (aJ (aJ (aJ (aJ (aJ (aJ (aJ (aJ (aV (ro rfl (op_idxO U_69 Z_3 (Ht rfl) (Ht rfl) rfl (i := 2) rfl (by rw [List.length_map, toL_len]; omega) rfl) ?_)))))))))))))))
   refine R_stO Z_3 (Ht rfl) (Ht rfl) El.one (i := 2) rfl rfl (by rw [List.length_map, toL_len]; omega) rfl ?_
   refine eX (fZ (m := 11) (dp 7 rfl (cX (Ht rfl)) (dp 1 rfl (cX (Ht rfl)) (dp 9 rfl (cX (Ht rfl)) (dqq 54 1 55 2 rfl (dZ U_59 Z_120 (Ht rfl) (Ht rfl) rfl (dY (dU (d := (0, 0)) hkn))) (dq 56 3 rfl (op_idxA U_120 Z_3 (Ht rfl) cV rfl (by decide) rfl) (dq 57 4 rfl (dJ A_3 Z_3 (Ht rfl)) (dp 1 rfl (cX (Ht rfl)) (dp 9 rfl (cX (Ht rfl)) (dqq 59 6 60 7 rfl (dZ U_59 Z_120 (Ht rfl) (Ht rfl) rfl (dY (dU (d := (0, 0)) hkn))) (dq 61 8 rfl (op_idxA U_120 Z_3 (Ht rfl) cV rfl (by decide) rfl) ?_)))))))))))
   refine dq 62 9 rfl (dJ A_3 Z_3 (Ht rfl)) (fV mixed rfl (by kernel_rfl) (aJ (aJ (aJ (aJ (aJ (aJ (aJ (aJ (aJ (aJ (aJ (aV (ro rfl (op_idxO U_69 Z_3 (Ht rfl) (Ht rfl) rfl (i := 2) rfl (by rw [List.length_set, List.length_map, toL_len]; omega) rfl) ?_))))))))))))))
   refine R_stO Z_3 (Ht rfl) (Ht rfl) El.one (i := 2) rfl rfl (by rw [List.length_set, List.length_map, toL_len]; omega) rfl ?_
   refine eX (T_blk (cY (rm rfl (ro rfl (dV (Ht rfl) (cJ 1) (by show _ < 9223372036854775808; first | omega | (simp only [lim]; omega))) (ra rfl (eX (fU (k + 1) hkn (by omega) (aQ rfl (aQ rfl (aQ rfl (aQ rfl (aQ rfl (aQ rfl aX)))))) (aU (box_of rfl) (aU (box_of rfl) (aU (rowO_of (by rw [toL, ← set_mapZ, ← set_mapZ])) aY))))))))))
  ·have hkp : k = ps.length := by simp only [decide_eq_false_iff_not] at hd2; omega
   subst hkp
   have htl := toL_len i ps ps.length
   have htm := toL_mem hps
   obtain ⟨to, hto⟩ : ∃ to, to = toL i ps ps.length := ⟨_, rfl⟩
   rw [← hto] at htl htm ⊢
   refine gV rfl (ts (rn rfl (new_bslice0 U_69 Z_3 O_3) fun B65 => (ra rfl (eX (cK (ts (ro rfl (cQ (cJ 0)) (eX (eG ?_)))))))))
   refine T_loop2 (fun (q : Nat) (vL : Value) => q ≤ i) (fun (q : Nat) (vL : Value) => i - q) (fun (q : Nat) (vL : Value) => [(1, PrsT ps), (2, PtrB B2 0), (4, PtrB B4 0), (6, NT .i64 i), (7, Is B26), (10, Is vL), (11, NT .i64 q)]) (fun (q : Nat) (vL : Value) => [box B2 34 [QsT z, QM S], box B4 34 [Is (.slice none 0 0), Is (.slice none 0 0)], rowO 3 1 B26 (to.map ZT), rowO 3 1 vL ((lfL to q).map (NT .i64))]) 0 _ (Nat.zero_le _)
    (aQ rfl (aQ rfl (aQ rfl (aQ rfl (aQ rfl (aQ rfl (aQ rfl aX))))))) (aU (box_of rfl) (aU (box_of rfl) (aU (fun _ _ _ h => h) (aU (rowO_of rfl) aY)))) (fun q vL hq => ?_)
   refine cK (ts (rm rfl (rm rfl (ro rfl (gX (Ht rfl) (Ht rfl)) (eX (dQ (Ht rfl) (fun hd3 => ?_) (fun hd3 => ?_)))))))
   ·have hqn : q < i := by simp only [decide_eq_true_eq] at hd3; omega
    have hll := lfL_len to q
    refine cU (cK (eG (ts (rm rfl (rm rfl (ro rfl (op_idxO U_69 Z_3 (Ht rfl) (Ht rfl) rfl (i := 2) rfl (by rw [List.length_map]; omega) rfl) ?_))))))
    refine ro rfl (op_ldO A_3 Z_3 (Ht rfl) (i := 2) rfl rfl (dY (dU (d := 0) (by omega)))) (ro rfl (op_lss (Ht rfl) cV) (eX (dQ (Ht rfl) (fun hn => ?_) (fun hn => ?_))))
    ·have hneg : tv to q < 0 := by simpa using hn
     have hnx : lfL to (q + 1) = lfL to q ++ [q] := by rw [lfL, if_pos hneg]
     refine cY (rm rfl (rm rfl (ro rfl (op_bslice (xs := [.tmp 77]) U_69 Z_3 O_3 (cW (Ht rfl) cG) rfl rfl rfl) (R_append (inf := Tryz.t3) und_69 info_3 rfl rfl rfl (Ht rfl) (Ht rfl) (i := 3) rfl (by simp) (fun T hT => by simp at hT; subst hT; exact El.one) (by show _ * 8 ≤ _; simp only [List.length_map, List.length_cons, List.length_nil]; omega) (by simp only [List.length_map, List.length_cons, List.length_nil]; omega) rfl (fun v2 => ?_)))))
     refine ra rfl (eX (T_blk (cY (rm rfl (ro rfl (dV (Ht rfl) (cJ 1) (by show _ < 9223372036854775808; first | omega | (simp only [lim]; omega))) (ra rfl (eX (fU (q + 1, v2) hqn (by dsimp only; omega) (aQ rfl (aQ rfl (aQ rfl (aQ rfl (aQ rfl (aQ rfl (aQ rfl aX))))))) (aU (box_of rfl) (aU (box_of rfl) (aU (fun _ _ _ h => h) (aU (rowO_of (by rw [hnx, List.map_append]; rfl)) aY))))))))))))
    ·have hneg : ¬ tv to q < 0 := by simpa using hn
     have hnx : lfL to (q + 1) = lfL to q := by rw [lfL, if_neg hneg, List.append_nil]
     refine cU (T_blk (cY (rm rfl (ro rfl (dV (Ht rfl) (cJ 1) (by show _ < 9223372036854775808; first | omega | (simp only [lim]; omega))) (ra rfl (eX (fU (q + 1, vL) hqn (by dsimp only; omega) (aQ rfl (aQ rfl (aQ rfl (aQ rfl (aQ rfl (aQ rfl (aQ rfl aX))))))) (aU (box_of rfl) (aU (box_of rfl) (aU (fun _ _ _ h => h) (aU (rowO_of (by rw [hnx])) aY)))))))))))
   ·have hqi : q = i := by simp only [decide_eq_false_iff_not] at hd3; omega
    subst hqi
    refine gV rfl (gJ (i := 2) (tt := 7) rfl rfl frz_row (gJ (i := 3) (tt := 10) rfl rfl frz_row (T_keep [0, 1] rfl (by decide) (ts (rm rfl (R_call0 Tryz.call213 (c_rIdO (n := q) (by omega)) ⟨(Ht rfl), trivial⟩ rfl (fun B81 _ => (ra rfl (eX (cK (ts (ro rfl (cQ (cJ 0)) (eX (eG ?_))))))))))))))
    refine T_loop (fun (r : Nat) => r ≤ q) (fun (r : Nat) => q - r) (fun (r : Nat) => [(2, PtrB B2 0), (4, PtrB B4 0), (6, NT .i64 q), (7, SlT 1 (to.map ZT)), (10, IntsT (lfL to q)), (12, Is (.slice (some ⟨B81, 0, none⟩) q q)), (13, NT .i64 r)]) (fun (r : Nat) => [box B2 34 [QsT z, QM S], box B4 34 [Is (.slice none 0 0), Is (.slice none 0 0)], matP exactH B81 31 98 5 (FRow QT (mixG (fun r => cnR S to q r q) (unitR q) q r))]) 0 (Nat.zero_le _)
     (aQ rfl (aQ rfl (aQ rfl (aQ rfl (aQ rfl (aQ rfl (aQ rfl aX))))))) (aU (box_of rfl) (aU (box_of rfl) (aU (matO_of (by rw [← mixG_zero]; rfl)) aY))) (fun r hr => ?_)
    refine cK (ts (rm rfl (rm rfl (ro rfl (gX (Ht rfl) (Ht rfl)) (eX (dQ (Ht rfl) (fun hd4 => ?_) (fun hd4 => ?_)))))))
    ·have hrn : r < q := by simp only [decide_eq_true_eq] at hd4; omega
     have hsr := hS.row hrn
     refine T_focusE 2 (r) rfl (frow_mixG hrn) (fun v0 hv0 => (cU (cK (eG (ts (ro rfl (cQ (cJ 0)) (eX (eG ?_))))))))
     refine T_loop (fun (j : Nat) => j ≤ q) (fun (j : Nat) => q - j) (fun (j : Nat) => [(2, PtrB B2 0), (4, PtrB B4 0), (6, NT .i64 q), (7, SlT 1 (to.map ZT)), (10, IntsT (lfL to q)), (12, Is (.slice (some ⟨B81, 0, none⟩) q q)), (13, NT .i64 r), (14, NT .i64 j)]) (fun (j : Nat) => [box B2 34 [QsT z, QM S], box B4 34 [Is (.slice none 0 0), Is (.slice none 0 0)], matQ exactH B81 31 98 5 (FRow QT (mixG (fun r => cnR S to q r q) (unitR q) q r)) r v0, rowO 98 5 v0 ((cnR S to q r j).map QT)]) 0 (Nat.zero_le _)
      (aQ rfl (aQ rfl (aQ rfl (aQ rfl (aQ rfl (aQ rfl (aQ rfl (aQ rfl aX)))))))) (aU (box_of rfl) (aU (box_of rfl) (aU (fun _ _ _ h => h) (aU (rowO_of rfl) aY)))) (fun j hj => ?_)
     refine cK (ts (rm rfl (rm rfl (ro rfl (gX (Ht rfl) (Ht rfl)) (eX (dQ (Ht rfl) (fun he => ?_) (fun he => ?_)))))))
     ·have hjn : j < q := by simp only [decide_eq_true_eq] at he; omega
      have hrl := cnR_len S to q r j
      have htj := htm _ (tv_mem (i := j) (by omega))
      refine cU (cK (eG (ts (rm rfl (rm rfl (ro rfl (dZ U_69 Z_3 (Ht rfl) (Ht rfl) rfl (dY (dU (d := 0) (by omega)))) (ro rfl (dJ A_3 Z_3 (Ht rfl)) (ro rfl (op_geq (Ht rfl) cV) (eX (dQ (Ht rfl) (fun hg => ?_) (fun hg => ?_)))))))))))
      ·have hpos : ¬ tv to j < 0 := by simp at hg; simp; omega
       have hqi : tv to j = ((tv to j).toNat : Int) := by omega
       have hnx : cnR S to q r (j + 1) = (cnR S to q r j).set (tv to j).toNat (gv (cnR S to q r j) (tv to j).toNat - gm S r j) := by rw [cnR, if_neg hpos]
       haveI f1 : FitC (gv (cnR S to q r j) (tv to j).toNat) (1 + j * (L + 1)) := (cnR_fit hf hL j).get (by omega) _
       haveI f2 : FitC (gm S r j) L := hf.get hL r j
       have hjl : j * (L + 1) ≤ 9 * (L + 1) := Nat.mul_le_mul_right _ (by omega)
       refine fZ (m := 27) (dp 12 rfl (cX (Ht rfl)) (dp 13 rfl (cX (Ht rfl)) (dqq 97 0 98 1 rfl (fY U_32 Z_31 (Ht rfl) (Ht rfl) rfl (by omega) (by rw [Nat.mul_one, Nat.zero_add])) ?_)))
       refine dq 99 2 rfl (op_ldH A_31 Z_31 (Ht rfl) (j := 2) rfl) (dp 7 rfl (cX (Ht rfl)) (dp 14 rfl (cX (Ht rfl)) (dqq 101 4 102 5 rfl (dZ U_69 Z_3 (Ht rfl) (Ht rfl) rfl (dY (dU (d := 0) (by omega)))) (dq 103 6 rfl (dJ A_3 Z_3 (Ht rfl)) (dp 12 rfl (cX (Ht rfl)) (dp 13 rfl (cX (Ht rfl)) (dqq 105 8 106 9 rfl (fY U_32 Z_31 (Ht rfl) (Ht rfl) rfl (by omega) (by rw [Nat.mul_one, Nat.zero_add])) ?_)))))))
       refine dq 107 10 rfl (op_ldH A_31 Z_31 (Ht rfl) (j := 2) rfl) (dp 7 rfl (cX (Ht rfl)) (dp 14 rfl (cX (Ht rfl)) (dqq 109 12 110 13 rfl (dZ U_69 Z_3 (Ht rfl) (Ht rfl) rfl (dY (dU (d := 0) (by omega)))) (dq 111 14 rfl (dJ A_3 Z_3 (Ht rfl)) (dqq 108 11 112 15 rfl (op_idxO U_31 Z_98 (Ht rfl) (Ht rfl) hqi (i := 3) rfl (by rw [List.length_map, hrl]; omega) rfl) ?_)))))
       refine dq 113 16 rfl (op_ldO A_98 Z_98 (Ht rfl) (i := 3) rfl rfl (dY (dU (d := Qi.zero) (by omega)))) (dp 2 rfl (eZ fa_34_1 (Ht rfl) rfl) (dq 115 18 rfl (eY A_32 Z_32 (Ht rfl) (i := 0) rfl rfl) (dp 13 rfl (cX (Ht rfl)) (dqq 116 19 117 20 rfl (dZ U_32 Z_31 (Ht rfl) (Ht rfl) rfl (dY (dU (d := []) (by omega)))) (dq 118 21 rfl (dJ A_31 Z_31 (Ht rfl)) (dp 14 rfl (cX (Ht rfl)) (dqq 119 22 120 23 rfl (dZ U_31 Z_98 (Ht rfl) (Ht rfl) rfl (dY (dU (d := Qi.zero) (by omega)))) ?_)))))))
       refine dq 121 24 rfl (dJ A_98 Z_98 (Ht rfl)) (dqq 114 17 122 25 rfl (cZ Tryz.call158 (c_rSub (x := gv (cnR S to q r j) (tv to j).toNat) (y := gm S r j) (L := 1 + j * (L + 1)) (M := L) (by omega)) ⟨(Ht rfl), (Ht rfl), trivial⟩) (fV mixed rfl (by kernel_rfl) (aJ (aJ (aJ (aJ (aJ (aJ (aJ (aJ (aJ (aJ (aJ (aJ (aJ (aJ (aJ (aJ (aJ (aJ (aJ (aJ (aJ (aJ (aJ (aJ (aJ (aJ (aJ (aV (ro rfl (op_idxO U_31 Z_98 (Ht rfl) (Ht rfl) hqi (i := 3) rfl (by rw [List.length_map, hrl]; omega) rfl) ?_)))))))))))))))))))))))))))))))
       refine R_stO Z_98 (Ht rfl) (Ht rfl) (El.ag rfl) (i := 3) rfl rfl (by rw [List.length_map, hrl]; omega) rfl ?_
       refine eX (T_blk (cY (rm rfl (ro rfl (dV (Ht rfl) (cJ 1) (by show _ < 9223372036854775808; first | omega | (simp only [lim]; omega))) (ra rfl (eX (fU (j + 1) hjn (by omega) (aQ rfl (aQ rfl (aQ rfl (aQ rfl (aQ rfl (aQ rfl (aQ rfl (aQ rfl aX)))))))) (aU (box_of rfl) (aU (box_of rfl) (aU (fun _ _ _ h => h) (aU (rowO_of (by rw [set_mapF, hnx])) aY)))))))))))
      ·have hneg : tv to j < 0 := by simp at hg; simp; omega
       have hny : cnR S to q r (j + 1) = cnR S to q r j := by rw [cnR, if_pos hneg]
       refine cU (T_blk (cY (rm rfl (ro rfl (dV (Ht rfl) (cJ 1) (by show _ < 9223372036854775808; first | omega | (simp only [lim]; omega))) (ra rfl (eX (fU (j + 1) hjn (by omega) (aQ rfl (aQ rfl (aQ rfl (aQ rfl (aQ rfl (aQ rfl (aQ rfl (aQ rfl aX)))))))) (aU (box_of rfl) (aU (box_of rfl) (aU (fun _ _ _ h => h) (aU (rowO_of (by rw [hny])) aY)))))))))))
     ·have hjq : j = q := by simp only [decide_eq_false_iff_not] at he; omega
      subst hjq
      refine gV rfl (T_blk (T_unfocus 2 3 rfl rfl (by decide) (by simp only [FRow, List.length_map, mixG_len]; omega) ?_))
      refine cY (rm rfl (ro rfl (dV (Ht rfl) (cJ 1) (by show _ < 9223372036854775808; first | omega | (simp only [lim]; omega))) (ra rfl (eX (T_keep [0, 1, 2] rfl (by decide) (fU (r + 1) hrn (by omega) (aQ rfl (aQ rfl (aQ rfl (aQ rfl (aQ rfl (aQ rfl (aQ rfl aX))))))) (aU (box_of rfl) (aU (box_of rfl) (aU (matO_of (by rw [set_FRow, ← mixG_set (f := fun r => cnR S to j r j)])) aY)))))))))
    ·have hrq : r = q := by simp only [decide_eq_false_iff_not] at hd4; omega
     subst hrq
     rw [mixG_fin]
     have hlm : ∀ i, i < (lfL to r).length → (lfL to r).getD i 0 < r := fun i hi => lfL_lt (by rw [show (lfL to r).getD i 0 = (lfL to r)[i] by simp [List.getD, hi]]; exact List.getElem_mem hi)
     have hll := lfL_len to r
     obtain ⟨lf, hlf⟩ : ∃ lf, lf = lfL to r := ⟨_, rfl⟩
     rw [← hlf] at hlm hll ⊢
     have hrL : L ≤ 1 + r * (L + 1) := by have := Nat.mul_le_mul_right (L + 1) h1; omega
     have hrB : 1 + r * (L + 1) ≤ 9010 := by have := Nat.mul_le_mul hn (show L + 1 ≤ 1001 by omega); omega
     have hgr : 6 * grow (1 + r * (L + 1)) r + 4 ≤ 17592186044415 := Nat.le_trans (Nat.add_le_add_right (Nat.mul_le_mul_left 6 (Nat.le_trans (grow_monoL hrB r) (grow_mono 9010 hn))) 4) (by decide)
     refine gV rfl (gJ (i := 2) (tt := 12) rfl rfl (frz_matF (s := 5) (M := cnM S to r) (tab_len _ _).symm) (cK (fZ (m := 10) (dp 10 rfl (cX (Ht rfl)) (dq 125 0 rfl (dG U_69 (Ht rfl) len_map) (C.D_new (Ei := [(126, _)]) rfl rfl rfl (bV (bG 1 rfl rfl) bW) (new_makeS (T := ZQ) (i := Tryz.t98) und_31 info_98 rfl rfl (Ht rfl) rfl zq_p (El.ag rfl) (by show 88 * _ ≤ _; omega) (by omega)) (dp 10 rfl (cX (Ht rfl)) (dq 128 3 rfl (dG U_69 (Ht rfl) len_map) (dp 10 rfl (cX (Ht rfl)) (dq 130 5 rfl (dG U_69 (Ht rfl) len_map) ?_))))))))))
     refine C.D_new (Ei := [(129, _), (131, _)]) rfl rfl rfl (bV (bG 4 rfl rfl) (bV (bG 6 rfl rfl) bW)) (new_call0 Tryz.call138 (c_ZerosO (n := lf.length) (m := lf.length) (by omega) (by omega)) ⟨(Ht rfl), (Ht rfl), trivial⟩) (C.D_dep (fun T U => AggT [T, U]) 2 7 rfl rfl rfl rfl rfl rfl (fun T U hT hU => by obtain ⟨x, rfl⟩ := hT; obtain ⟨y, rfl⟩ := hU; (try dsimp only); exact dX rfl (bld_34_0_1 (Ht rfl) (Ht rfl))) (C.D_new (Ei := []) rfl rfl rfl bW (eW (Ts := [Is (.slice none 0 0), Is (.slice none 0 0)]) O_34 rfl (fun V => aW ⟨rfl, trivial⟩ (aW ⟨rfl, trivial⟩ (aG)))) ?_))
     refine fV mixed rfl (by kernel_rfl) (aJ (aJ (C.F_new (fun B127 => aJ (aJ (aJ (aJ (C.F_new (fun B132 => C.F_dep rfl rfl (C.F_new (fun B15 => aV (gQ Z_34 (Ht rfl) (Ht rfl) rfl (i := 5) rfl (aK rfl) rfl rfl (eX (cK (ts (ro rfl (cQ (cJ 0)) (eX (eG (T_keep [0, 1, 3, 4, 5] rfl (by decide) ?_)))))))))))))))))))
     refine T_loop (fun (y : Nat) => y ≤ lf.length ∧ ∀ j, j < y → gjE (cnM S to r) (cnB S r (lf.getD j 0)) r = 0) (fun (y : Nat) => lf.length - y) (fun (y : Nat) => [(2, PtrB B2 0), (4, PtrB B4 0), (6, NT .i64 r), (10, IntsT lf), (12, QM (cnM S to r)), (15, PtrB B15 0), (16, NT .i64 y)]) (fun (y : Nat) => [box B2 34 [QsT z, QM S], box B4 34 [Is (.slice none 0 0), Is (.slice none 0 0)], rowO 98 5 (.slice (some ⟨B127, 0, none⟩) lf.length lf.length) (mixT (fun y => QT (gv z (lf.getD y 0))) ZQ lf.length y), matP exactH B132 31 98 5 (FRow QT (colP (cnV S to r lf) lf.length lf.length y 0)), box B15 34 [Is (.slice (some ⟨B127, 0, none⟩) lf.length lf.length), Is (.slice (some ⟨B132, 0, none⟩) lf.length lf.length)]]) 0 ⟨Nat.zero_le _, fun j h => by omega⟩
      (aQ rfl (aQ rfl (aQ rfl (aQ rfl (aQ rfl (aQ rfl (aQ rfl aX))))))) (aU (box_of rfl) (aU (box_of rfl) (aU (rowO_of (by rw [← mix_zero]; exact rep_tab _ _)) (aU (matO_of (by rw [zeroM, ← colP_zero]; rfl)) (aU (box_of rfl) aY))))) (fun y ⟨hy, h0⟩ => ?_)
     refine cK (ts (rm rfl (rm rfl (ro rfl (dG U_69 (Ht rfl) len_map) (ro rfl (gX (Ht rfl) (Ht rfl)) (eX (dQ (Ht rfl) (fun hyc => ?_) (fun hyc => ?_))))))))
     ·have hyn : y < lf.length := by simp only [decide_eq_true_eq] at hyc; omega
      have hly := hlm y hyn
      refine cU (cK (eG (cK (fZ (m := 11) (dp 15 rfl (eZ fa_34_0 (Ht rfl) rfl) (dq 140 0 rfl (op_ldBp A_31 Z_31 (Ht rfl) (i := 4) rfl rfl) (dp 16 rfl (cX (Ht rfl)) (dp 2 rfl (eZ fa_34_0 (Ht rfl) rfl) (dq 143 3 rfl (eY A_31 Z_31 (Ht rfl) (i := 0) rfl rfl) (dp 10 rfl (cX (Ht rfl)) (dp 16 rfl (cX (Ht rfl)) (dqq 145 5 146 6 rfl (dZ U_69 Z_3 (Ht rfl) (Ht rfl) rfl (dY (dU (d := 0) (by omega)))) (dq 147 7 rfl (dJ A_3 Z_3 (Ht rfl)) (dqq 144 4 148 8 rfl (dZ U_31 Z_98 (Ht rfl) (Ht rfl) rfl (dY (dU (d := Qi.zero) (by omega)))) ?_))))))))))))))
      refine dq 149 9 rfl (dJ A_98 Z_98 (Ht rfl)) (fV mixed rfl (by kernel_rfl) (aJ (aJ (aJ (aJ (aJ (aJ (aJ (aJ (aJ (aJ (aJ (aV (ro rfl (op_idxO U_31 Z_98 (Ht rfl) (Ht rfl) rfl (i := 2) rfl (by rw [mix_len]; omega) rfl) ?_))))))))))))))
      refine R_stO Z_98 (Ht rfl) (Ht rfl) (El.ag rfl) (i := 2) rfl rfl (by rw [mix_len]; omega) rfl ?_
      refine eX (ts (rm rfl (rn rfl (new_makeO (T := ZQ) (i := Tryz.t98) und_31 info_98 rfl rfl (Ht rfl) rfl zq_p (El.ag rfl) (by show 88 * _ ≤ _; omega) (by omega)) fun B153 => (ra rfl (eX (cK (ts (ro rfl (cQ (cJ 0)) (eX (eG ?_))))))))))
      refine T_loop (fun (i2 : Nat) => i2 ≤ r) (fun (i2 : Nat) => r - i2) (fun (i2 : Nat) => [(2, PtrB B2 0), (4, PtrB B4 0), (6, NT .i64 r), (10, IntsT lf), (12, QM (cnM S to r)), (15, PtrB B15 0), (16, NT .i64 y), (17, Is B153), (18, NT .i64 i2)]) (fun (i2 : Nat) => [box B2 34 [QsT z, QM S], box B4 34 [Is (.slice none 0 0), Is (.slice none 0 0)], rowO 98 5 (.slice (some ⟨B127, 0, none⟩) lf.length lf.length) (mixT (fun y => QT (gv z (lf.getD y 0))) ZQ lf.length (y + 1)), matP exactH B132 31 98 5 (FRow QT (colP (cnV S to r lf) lf.length lf.length y 0)), box B15 34 [Is (.slice (some ⟨B127, 0, none⟩) lf.length lf.length), Is (.slice (some ⟨B132, 0, none⟩) lf.length lf.length)], rowO 98 5 B153 (mixT (fun i => QT (gm S i (lf.getD y 0))) ZQ r i2)]) 0 (Nat.zero_le _)
       (aQ rfl (aQ rfl (aQ rfl (aQ rfl (aQ rfl (aQ rfl (aQ rfl (aQ rfl (aQ rfl aX))))))))) (aU (box_of rfl) (aU (box_of rfl) (aU (rowO_of (mix_set (f := (fun y => QT (gv z (lf.getD y 0)))))) (aU (fun _ _ _ h => h) (aU (box_of rfl) (aU (rowO_of (by rw [← mix_zero]; exact rep_tab _ _)) aY)))))) (fun i2 hi2 => ?_)
      refine cK (ts (rm rfl (rm rfl (ro rfl (gX (Ht rfl) (Ht rfl)) (eX (dQ (Ht rfl) (fun hic => ?_) (fun hic => ?_)))))))
      ·have hin : i2 < r := by simp only [decide_eq_true_eq] at hic; omega
       have hsr := hS.row hin
       refine cU (cK (eG (fZ (m := 13) (dp 17 rfl (cX (Ht rfl)) (dp 18 rfl (cX (Ht rfl)) (dp 2 rfl (eZ fa_34_1 (Ht rfl) rfl) (dq 161 2 rfl (eY A_32 Z_32 (Ht rfl) (i := 0) rfl rfl) (dp 18 rfl (cX (Ht rfl)) (dqq 162 3 163 4 rfl (dZ U_32 Z_31 (Ht rfl) (Ht rfl) rfl (dY (dU (d := []) (by omega)))) (dq 164 5 rfl (dJ A_31 Z_31 (Ht rfl)) (dp 10 rfl (cX (Ht rfl)) (dp 16 rfl (cX (Ht rfl)) (dqq 166 7 167 8 rfl (dZ U_69 Z_3 (Ht rfl) (Ht rfl) rfl (dY (dU (d := 0) (by omega)))) ?_)))))))))))))
       refine dq 168 9 rfl (dJ A_3 Z_3 (Ht rfl)) (dqq 165 6 169 10 rfl (dZ U_31 Z_98 (Ht rfl) (Ht rfl) rfl (dY (dU (d := Qi.zero) (by omega)))) (dq 170 11 rfl (dJ A_98 Z_98 (Ht rfl)) (fV mixed rfl (by kernel_rfl) (aJ (aJ (aJ (aJ (aJ (aJ (aJ (aJ (aJ (aJ (aJ (aJ (aJ (aV (ro rfl (op_idxO U_31 Z_98 (Ht rfl) (Ht rfl) rfl (i := 5) rfl (by rw [mix_len]; omega) rfl) ?_))))))))))))))))))
       refine R_stO Z_98 (Ht rfl) (Ht rfl) (El.ag rfl) (i := 5) rfl rfl (by rw [mix_len]; omega) rfl ?_
       refine eX (T_blk (cY (rm rfl (ro rfl (dV (Ht rfl) (cJ 1) (by show _ < 9223372036854775808; first | omega | (simp only [lim]; omega))) (ra rfl (eX (fU (i2 + 1) hin (by omega) (aQ rfl (aQ rfl (aQ rfl (aQ rfl (aQ rfl (aQ rfl (aQ rfl (aQ rfl (aQ rfl aX))))))))) (aU (box_of rfl) (aU (box_of rfl) (aU (fun _ _ _ h => h) (aU (fun _ _ _ h => h) (aU (box_of rfl) (aU (rowO_of (mix_set (f := (fun i => QT (gm S i (lf.getD y 0)))))) aY)))))))))))))
      ·have hir : i2 = r := by simp only [decide_eq_false_iff_not] at hic; omega
       rw [hir, mix_fin, show (tab r fun i => QT (gm S i (lf.getD y 0))) = (cnB S r (lf.getD y 0)).map QT from by rw [cnB, tab_map]]
       refine gV rfl (gJ (i := 5) (tt := 17) rfl rfl frz_row (ts (rm rfl (rm rfl (ro rfl (cZ Tryz.call230 (c_rSolve (M := cnM S to r) (b := cnB S r (lf.getD y 0)) (n := r) (L := 1 + r * (L + 1)) (cnM_shp S to r) (tab_len _ _) (cnM_fit hf hL) ((cnB_fit hf hL).le hrL) (by omega) h1 (by omega) hgr) ⟨(Ht rfl), (Ht rfl), trivial⟩) (rm rfl (ro rfl (dK (Ht rfl) rfl) (ro rfl (dK (Ht rfl) rfl) (ra rfl (ra rfl (eX (cK (ts (rm rfl (ro rfl (op_neq (Ht rfl) cV) (eX (dQ (Ht rfl) (fun hez => ?_) (fun hez => ?_))))))))))))))))))
       ·have hez2 : gjE (cnM S to r) (cnB S r (lf.getD y 0)) r ≠ 0 := by simp at hez; exact hez
        have hcE : cnE S to r lf ≠ 0 := by rw [cnE, firstE_at (f := fun y => gjE (cnM S to r) (cnB S r (lf.getD y 0)) r) h0 hez2 hyn]; exact hez2
        refine ts (ro rfl (OpTy.imp (bld_34_ ) rnet_nil) (gQ Z_34 (Ht rfl) (Ht rfl) rfl (i := 1) rfl (aK rfl) rfl rfl (ro rfl (cQ cV) (eX (T_ret2 rfl (fX (fK A_34 Z_34 rfl (i := 1) rfl rfl) ?_) (fX (eU rfl) ?_))))))
        ·exact (cn_no hcE)
        ·exact (bool_of (by simp [hcE]))
       ·have hez2 : gjE (cnM S to r) (cnB S r (lf.getD y 0)) r = 0 := by simp at hez; exact hez
        have hgl : (gjL (cnM S to r) (cnB S r (lf.getD y 0)) r).length = r := gjL_len (cnM_shp S to r) hez2
        refine cU (ts (ro rfl (cQ (cJ 0)) (eX (eG (T_keep [0, 1, 2, 3, 4] rfl (by decide) ?_)))))
        refine T_loop (fun (x : Nat) => x ≤ lf.length) (fun (x : Nat) => lf.length - x) (fun (x : Nat) => [(2, PtrB B2 0), (4, PtrB B4 0), (6, NT .i64 r), (10, IntsT lf), (12, QM (cnM S to r)), (15, PtrB B15 0), (16, NT .i64 y), (19, QsT (gjL (cnM S to r) (cnB S r (lf.getD y 0)) r)), (21, NT .i64 x)]) (fun (x : Nat) => [box B2 34 [QsT z, QM S], box B4 34 [Is (.slice none 0 0), Is (.slice none 0 0)], rowO 98 5 (.slice (some ⟨B127, 0, none⟩) lf.length lf.length) (mixT (fun y => QT (gv z (lf.getD y 0))) ZQ lf.length (y + 1)), matP exactH B132 31 98 5 (FRow QT (colP (cnV S to r lf) lf.length lf.length y x)), box B15 34 [Is (.slice (some ⟨B127, 0, none⟩) lf.length lf.length), Is (.slice (some ⟨B132, 0, none⟩) lf.length lf.length)]]) 0 (Nat.zero_le _)
         (aQ rfl (aQ rfl (aQ rfl (aQ rfl (aQ rfl (aQ rfl (aQ rfl (aQ rfl (aQ rfl aX))))))))) (aU (box_of rfl) (aU (box_of rfl) (aU (fun _ _ _ h => h) (aU (fun _ _ _ h => h) (aU (box_of rfl) aY))))) (fun x hx => ?_)
        refine cK (ts (rm rfl (rm rfl (ro rfl (dG U_69 (Ht rfl) len_map) (ro rfl (gX (Ht rfl) (Ht rfl)) (eX (dQ (Ht rfl) (fun hxc => ?_) (fun hxc => ?_))))))))
        ·have hxn : x < lf.length := by simp only [decide_eq_true_eq] at hxc; omega
         have hlx := hlm x hxn
         have hpl := (colP_shp (cnV S to r lf) lf.length lf.length y x).1
         have hpr : ((colP (cnV S to r lf) lf.length lf.length y x).getD x []).length = lf.length := (colP_shp (cnV S to r lf) lf.length lf.length y x).row hxn
         refine T_focusE 3 (x) rfl (frow_get (by omega)) (fun v hv => (cU (cK (eG (fZ (m := 13) (dp 15 rfl (eZ fa_34_1 (Ht rfl) rfl) (dq 188 0 rfl (eY A_32 Z_32 (Ht rfl) (i := 4) rfl rfl) (dp 21 rfl (cX (Ht rfl)) (dqq 189 1 190 2 rfl (fY U_32 Z_31 (Ht rfl) (Ht rfl) rfl (by omega) (by rw [Nat.mul_one, Nat.zero_add])) ?_)))))))))
         refine dq 191 3 rfl (op_ldH A_31 Z_31 (Ht rfl) (j := 3) rfl) (dp 16 rfl (cX (Ht rfl)) (dp 19 rfl (cX (Ht rfl)) (dp 10 rfl (cX (Ht rfl)) (dp 21 rfl (cX (Ht rfl)) (dqq 195 7 196 8 rfl (dZ U_69 Z_3 (Ht rfl) (Ht rfl) rfl (dY (dU (d := 0) (by omega)))) (dq 197 9 rfl (dJ A_3 Z_3 (Ht rfl)) (dqq 194 6 198 10 rfl (dZ U_31 Z_98 (Ht rfl) (Ht rfl) rfl (dY (dU (d := Qi.zero) (by omega)))) (dq 199 11 rfl (dJ A_98 Z_98 (Ht rfl)) (fV mixed rfl (by kernel_rfl) (aJ (aJ (aJ (aJ (aJ (aJ (aJ (aJ (aJ (aJ (aJ (aJ (aJ (aV ?_)))))))))))))))))))))))
         refine ro rfl (op_idxO U_31 Z_98 (Ht rfl) (Ht rfl) rfl (i := 5) rfl (by rw [List.length_map]; omega) rfl) ?_
         refine R_stO Z_98 (Ht rfl) (Ht rfl) (El.ag rfl) (i := 5) rfl rfl (by rw [List.length_map]; omega) rfl ?_
         refine eX (T_blk (T_unfocus 3 5 rfl rfl (by decide) (by simp only [FRow, List.length_map]; omega) ?_))
         refine cY (rm rfl (ro rfl (dV (Ht rfl) (cJ 1) (by show _ < 9223372036854775808; first | omega | (simp only [lim]; omega))) (ra rfl (eX (T_keep [0, 1, 2, 3, 4] rfl (by decide) (fU (x + 1) hxn (by omega) (aQ rfl (aQ rfl (aQ rfl (aQ rfl (aQ rfl (aQ rfl (aQ rfl (aQ rfl (aQ rfl aX))))))))) (aU (box_of rfl) (aU (box_of rfl) (aU (fun _ _ _ h => h) (aU (matO_of (by rw [set_mapF, set_FRow]; exact congrArg _ (colP_next (val := cnV S to r lf) hxn hyn))) (aU (box_of rfl) aY)))))))))))
        ·have hxl : x = lf.length := by simp only [decide_eq_false_iff_not] at hxc; omega
         rw [hxl, colP_col]
         refine gV rfl (T_blk (cY (rm rfl (ro rfl (dV (Ht rfl) (cJ 1) (by show _ < 9223372036854775808; first | omega | (simp only [lim]; omega))) (ra rfl (eX ?_))))))
         refine fU (y + 1) ⟨hyn, fun j h => by
          by_cases e : j = y
          ·rw [e]; exact hez2
          ·exact h0 j (by omega)⟩ (by omega) (aQ rfl (aQ rfl (aQ rfl (aQ rfl (aQ rfl (aQ rfl (aQ rfl aX))))))) (aU (box_of rfl) (aU (box_of rfl) (aU (fun _ _ _ h => h) (aU (fun _ _ _ h => h) (aU (box_of rfl) aY)))))
     ·have hyl : y = lf.length := by simp only [decide_eq_false_iff_not] at hyc; omega
      rw [hyl, mix_fin, colP_fin]
      have hcE : cnE S to r lf = 0 := firstE_none (by rw [hyl] at h0; exact h0)
      have hZ : (tab lf.length fun y => QT (gv z (lf.getD y 0))) = (lf.map fun l => gv z l).map QT := by rw [List.map_map]; exact tab_list lf (fun l => QT (gv z l))
      refine gV rfl (cK (T_frzcell 4 2 0 rfl rfl rfl (by decide) (T_frzcellG 4 3 1 rfl rfl rfl (by decide) (frzM (q := exactH) (M := tab lf.length fun x => tab lf.length fun y => cnV S to r lf x y) (tab_len _ _).symm) (cY (ro rfl (eJ A_34 Z_34 (Ht rfl) (i := 4) rfl rfl rfl) (gQ Z_34 (Ht rfl) (Ht rfl) rfl (i := 1) rfl (aK rfl) rfl rfl (ro rfl (cQ cV) (eX (T_ret2 rfl (fX (fK A_34 Z_34 rfl (i := 1) rfl rfl) ?_) (fX (eU rfl) ?_))))))))))
      ·exact (cn_yes hcE hZ rfl)
      ·exact (bool_of (by simp [hcE]))
end
section
open Go Go.RowKit
theorem fa_24_0 (a : Addr) (w : World) : (Instr.fieldAt 24 (.pointer (some a)) 0).run Tryz.prog w = .ok (.pointer (some (a.add 0))) w := by
 simp [Instr.fieldAt, Instr.sureAddr, fieldPlace, Sem.run_bind, Result.andThen, U_24, Z_5]
theorem fa_24_1 (a : Addr) (w : World) : (Instr.fieldAt 24 (.pointer (some a)) 1).run Tryz.prog w = .ok (.pointer (some (a.add 1))) w := by
 simp [Instr.fieldAt, Instr.sureAddr, fieldPlace, Sem.run_bind, Result.andThen, U_24, Z_22]
theorem fa_24_2 (a : Addr) (w : World) : (Instr.fieldAt 24 (.pointer (some a)) 2).run Tryz.prog w = .ok (.pointer (some (a.add 2))) w := by
 simp [Instr.fieldAt, Instr.sureAddr, fieldPlace, Sem.run_bind, Result.andThen, U_24, Z_22]
theorem info_22 : Tryz.prog.info? 22 = some Tryz.t22 := by kernel_rfl
theorem info_91 : Tryz.prog.info? 91 = some Tryz.t91 := by kernel_rfl
theorem und_22 : Tryz.prog.underlying 22 = some (.slice 91) := by kernel_rfl
end
section
open Go Go.RowKit
abbrev PartT (a : Nat) (zl sl : List Rt) : Ty := AggT [NT .u8 a, RatsT zl, RatsT sl]
theorem rat0_p : ∀ V, (RatT default).p (.agg #[.int .i64 0, .int .i64 0, .int .i64 0]) V := fun V => ⟨[.int .i64 0, .int .i64 0, .int .i64 0], rfl, aW ⟨rfl, trivial⟩ (aW ⟨rfl, trivial⟩ (aW ⟨rfl, trivial⟩ aG))⟩
theorem frzG {B e s l : Nat} {BT : TypeId} {Rs : List (List Ty)} {q : Value → Prop} (hl : l = Rs.length) : ∀ u S V, (Is (.slice (some ⟨B, 0, none⟩) l l)).p u V → (matP q B BT e s Rs).h S V V → (SlT 1 (Rs.map (SlT s))).p u V := fun u S V h1 h2 => frz_mat hl (Nat.le_refl _) u S V h1 h2
theorem plS_rows (a : Nat) (sl : List Rt) : (tab (plN a) fun i => tab (plN a) fun j => RatT (smR (pkR sl (plN a * i + j)))).map (SlT 3) = (plS a sl).map RatsT := by
 rw [plS, tab_map, tab_map]
 refine tab_congr fun i _ => ?_
 rw [RatsT, tab_map]
theorem c_PlainO {a : Nat} {zl sl : List Rt} (ha : a < 256) : FunO Tryz.prog 88 [PartT a zl sl] [] (Nat) (fun B => TupT [RatsT (plZ a zl), Is (.slice (some ⟨B, 0, none⟩) (plN a) (plN a))]) (fun B => [matO B 22 91 3 (tab (plN a) (fun i => tab (plN a) fun j => RatT (smR (pkR sl (plN a * i + j)))))]) (fun _ => True) := by
 have hn : plN a ≤ 4 := by unfold plN; omega
 have hn0 : a % 4 + 1 = plN a := rfl
 refine FunO.intro Tryz.func88 rfl Tryz.ntmps88 rfl (fun cx Z => (ts (rn rfl (fG (Ht rfl)) fun B1 => (ro rfl (cQ cV) (ro rfl (cQ cV) (eX (ts (ro rfl (eZ fa_24_0 (Ht rfl) rfl) (ro rfl (eY A_5 Z_5 (Ht rfl) (i := 1) rfl rfl) (ro rfl (op_remN (Ht rfl) (cJ 4) (by omega)) (ro rfl (gZ U_5 U_3 (Ht rfl) (by show _ < 9223372036854775808; first | omega | (simp only [lim]; omega))) (ro rfl (OpTy.nat (dV (Ht rfl) (cJ 1) (by show _ < 9223372036854775808; first | omega | (simp only [lim]; omega))) hn0) ?_))))))))))))
 refine ra rfl (eX (cK (fZ (m := 5) (dp 4 rfl (cX (Ht rfl)) (C.D_new (Ei := [(14, _)]) rfl rfl rfl (bV (bG 0 rfl rfl) bW) (new_makeO (T := RatT default) (i := Tryz.t91) und_22 info_91 rfl rfl (Ht rfl) rfl rat0_p (El.ag rfl) (by show 24 * _ ≤ _; omega) (by omega)) (dp 4 rfl (cX (Ht rfl)) (C.D_new (Ei := [(16, _)]) rfl rfl rfl (bV (bG 2 rfl rfl) bW) (new_make (T := Is (.slice none 0 0)) (i := Tryz.t22) Tryz.underlying25 info_22 rfl rfl (Ht rfl) rfl (fun _ => rfl) trivial (by show 24 * _ ≤ _; omega) (by omega)) (C.D_cpy 1 rfl rfl rfl rfl rfl C.cpy_assign ?_))))))))
 refine fV mixed rfl (by kernel_rfl) (aJ (C.F_new (fun B15 => aJ (C.F_new (fun B17 => C.F_cpy rfl (aV (ra rfl (eX (cK (ts (rm rfl (ro rfl (op_lenO U_22 (Ht rfl) (i := 2) rfl (show ((List.replicate (plN a) (RatT default)).length : Int) = ((plN a : Nat) : Int) from by simp)) (ro rfl (cX (cJ 0)) (eX (eG (T_conv 3 rfl (mat_nil (e := 91) (s := 3)) ?_))))))))))))))))
 refine T_loop (fun (i : Nat) => i ≤ plN a) (fun (i : Nat) => plN a - i) (fun (i : Nat) => [(1, PtrB B1 0), (4, NT .i64 (plN a)), (5, Is B15), (6, Is (.slice (some ⟨B17, 0, none⟩) (plN a) (plN a))), (19, NT .i64 (plN a)), (20, NT .i64 i)]) (fun (i : Nat) => [Z, box B1 24 [NT .u8 a, RatsT zl, RatsT sl], rowO 91 3 B15 (mixT (fun i => RatT (imR (pkR zl i))) (RatT default) (plN a) i), matO B17 22 91 3 (mixT (fun i => tab (plN a) fun j => RatT (smR (pkR sl (plN a * i + j)))) [] (plN a) i)]) 0 (Nat.zero_le _)
  (aQ rfl (aQ rfl (aQ rfl (aQ rfl (aZ rfl (nt_of (by simp)) (aQ rfl aX)))))) (aU (fun _ _ _ h => h) (aU (box_of rfl) (aU (rowO_of (by rw [← mix_zero]; exact rep_tab _ _)) (aU (matO_of (by rw [← mix_zero]; exact rep_tab _ _)) aY)))) (fun i hi => ?_)
 refine ts (ro rfl (gX (Ht rfl) (Ht rfl)) (eX (cK (dQ (Ht rfl) (fun hd => ?_) (fun hd => ?_)))))
 ·simp only [decide_eq_true_eq] at hd
  have hni : plN a * i ≤ 4 * 4 := Nat.mul_le_mul hn (by omega)
  refine T_focus 3 (i) rfl (mix_get hd) (fun v0 => (cU (cK (eG (ts (rm rfl (ra rfl (eX (ts (rm rfl (rm rfl (ro rfl (eZ fa_24_1 (Ht rfl) rfl) (ro rfl (eY A_22 Z_22 (Ht rfl) (i := 1) rfl rfl) (rm rfl (ro rfl (cZ Tryz.call75 c_pick ⟨(Ht rfl), (Ht rfl), trivial⟩) (ro rfl (cZ Tryz.call74 c_imped ⟨(Ht rfl), trivial⟩) (ro rfl (op_idxO U_22 Z_91 (Ht rfl) (Ht rfl) rfl (i := 2) rfl (by rw [mix_len]; omega) rfl) ?_)))))))))))))))))
  refine R_stO Z_91 (Ht rfl) (Ht rfl) (El.ag rfl) (i := 2) rfl rfl (by rw [mix_len]; omega) rfl ?_
  refine eX (ts (rm rfl (rm rfl (rm rfl (rn rfl (new_makeO (T := RatT default) (i := Tryz.t91) und_22 info_91 rfl rfl (Ht rfl) rfl rat0_p (El.ag rfl) (by show 24 * _ ≤ _; omega) (by omega)) fun B34 => (ro rfl (fY U_25 Z_22 (Ht rfl) (Ht rfl) rfl (by omega) (by rw [Nat.mul_one, Nat.zero_add])) ?_))))))
  refine R_stH Z_22 (Ht rfl) (Ht rfl) (by rw [mix_len]; omega) (j := 3) (l := 5) rfl rfl rfl ?_
  refine eX (cK (T_keep [0, 1, 2, 3, 5] rfl (by decide) (cY (rm rfl (rm rfl (ro rfl (fY U_25 Z_22 (Ht rfl) (Ht rfl) rfl (by omega) (by rw [Nat.mul_one, Nat.zero_add])) ?_))))))
  refine ro rfl (op_ldH A_22 Z_22 (Ht rfl) (j := 3) rfl) (ro rfl (op_lenO U_22 (Ht rfl) (i := 4) rfl (show ((List.replicate (plN a) (RatT default)).length : Int) = ((plN a : Nat) : Int) from by simp)) (ro rfl (cX (cJ 0)) (eX (eG ?_))))
  refine T_loop (fun (j : Nat) => j ≤ plN a) (fun (j : Nat) => plN a - j) (fun (j : Nat) => [(1, PtrB B1 0), (4, NT .i64 (plN a)), (5, Is B15), (6, Is (.slice (some ⟨B17, 0, none⟩) (plN a) (plN a))), (7, NT .i64 i), (19, NT .i64 (plN a)), (20, NT .i64 i), (40, NT .i64 (plN a)), (41, NT .i64 j)]) (fun (j : Nat) => [Z, box B1 24 [NT .u8 a, RatsT zl, RatsT sl], rowO 91 3 B15 (mixT (fun i => RatT (imR (pkR zl i))) (RatT default) (plN a) (i + 1)), matH B17 22 91 3 (mixT (fun i => tab (plN a) fun j => RatT (smR (pkR sl (plN a * i + j)))) [] (plN a) i) i B34, rowO 91 3 B34 (mixT (fun j => RatT (smR (pkR sl (plN a * i + j)))) (RatT default) (plN a) j)]) 0 (Nat.zero_le _)
   (aQ rfl (aQ rfl (aQ rfl (aQ rfl (aQ rfl (aQ rfl (aQ rfl (aQ rfl (aQ rfl aX))))))))) (aU (fun _ _ _ h => h) (aU (box_of rfl) (aU (rowO_of (mix_set (f := (fun i => RatT (imR (pkR zl i)))))) (aU (fun _ _ _ h => h) (aU (rowO_of (by rw [← mix_zero]; exact rep_tab _ _)) aY))))) (fun j hj => ?_)
  refine ts (ro rfl (gX (Ht rfl) (Ht rfl)) (eX (cK (dQ (Ht rfl) (fun he => ?_) (fun he => ?_)))))
  ·simp only [decide_eq_true_eq] at he
   refine cU (cK (eG (ts (rm rfl (ra rfl (eX (fZ (m := 14) (dp 6 rfl (cX (Ht rfl)) (dp 7 rfl (cX (Ht rfl)) (dqq 44 0 45 1 rfl (fY U_25 Z_22 (Ht rfl) (Ht rfl) rfl (by omega) (by rw [Nat.mul_one, Nat.zero_add])) ?_))))))))))
   refine dq 46 2 rfl (op_ldH A_22 Z_22 (Ht rfl) (j := 3) rfl) (dp 8 rfl (cX (Ht rfl)) (dp 1 rfl (eZ fa_24_2 (Ht rfl) rfl) (dq 49 5 rfl (eY A_22 Z_22 (Ht rfl) (i := 1) rfl rfl) (dp 4 rfl (cX (Ht rfl)) (dp 7 rfl (cX (Ht rfl)) (dqq 51 7 52 8 rfl (op_mulN (Ht rfl) (Ht rfl) (by show _ < 9223372036854775808; omega)) (dp 8 rfl (cX (Ht rfl)) (dqq 53 9 54 10 rfl (dV (Ht rfl) (Ht rfl) (by show _ < 9223372036854775808; omega)) (dqq 50 6 55 11 rfl (cZ Tryz.call75 c_pick ⟨(Ht rfl), (Ht rfl), trivial⟩) (dq 56 12 rfl (cZ Tryz.call161 c_small ⟨(Ht rfl), trivial⟩) ?_))))))))))
   refine fV mixed rfl (by kernel_rfl) (aJ (aJ (aJ (aJ (aJ (aJ (aJ (aJ (aJ (aJ (aJ (aJ (aJ (aJ (aV (ro rfl (op_idxO U_22 Z_91 (Ht rfl) (Ht rfl) rfl (i := 4) rfl (by rw [mix_len]; omega) rfl) ?_))))))))))))))))
   refine R_stO Z_91 (Ht rfl) (Ht rfl) (El.ag rfl) (i := 4) rfl rfl (by rw [mix_len]; omega) rfl ?_
   refine eX (T_blk (cY (ro rfl (dV (Ht rfl) (cJ 1) (by show _ < 9223372036854775808; first | omega | (simp only [lim]; omega))) (rm rfl (eX (fU (j + 1) he (by omega) (aQ rfl (aQ rfl (aQ rfl (aQ rfl (aQ rfl (aQ rfl (aQ rfl (aQ rfl (aQ rfl aX))))))))) (aU (fun _ _ _ h => h) (aU (box_of rfl) (aU (fun _ _ _ h => h) (aU (fun _ _ _ h => h) (aU (rowO_of (mix_set (f := fun j => RatT (smR (pkR sl (plN a * i + j)))))) aY)))))))))))
  ·simp only [decide_eq_false_iff_not] at he
   have hjn : j = plN a := Nat.le_antisymm hj (by omega)
   rw [hjn, mix_fin]
   refine gV rfl (T_blk (T_unfocus 3 4 rfl rfl (by decide) (by rw [mix_len]; omega) ?_))
   refine cY (ro rfl (dV (Ht rfl) (cJ 1) (by show _ < 9223372036854775808; first | omega | (simp only [lim]; omega))) (rm rfl (eX (T_keep [0, 1, 2, 3] rfl (by decide) (fU (i + 1) hd (by omega) (aQ rfl (aQ rfl (aQ rfl (aQ rfl (aQ rfl (aQ rfl aX)))))) (aU (fun _ _ _ h => h) (aU (box_of rfl) (aU (fun _ _ _ h => h) (aU (matO_of (mix_set (f := (fun i => tab (plN a) fun j => RatT (smR (pkR sl (plN a * i + j))))))) aY)))))))))
 ·simp only [decide_eq_false_iff_not] at hd
  have hin : i = plN a := Nat.le_antisymm hi (by omega)
  rw [hin, mix_fin, mix_fin]
  refine gV rfl (gJ (i := 2) (tt := 5) rfl rfl frz_row (ts (rm rfl (rm rfl (ra rfl (ra rfl (eX ?_)))))))
  exact T_retO B17 trivial [0, 3] ⟨⟨_, rfl, fun _ _ _ h => h⟩, ⟨_, rfl, fun _ _ _ h => h⟩, trivial⟩ (by decide) (rvs2 rfl (fX (eU rfl) (slT_of (by rw [plZ, tab_map]))) (eU rfl))
theorem tup2 {T U U' : Ty} {v : Value} {V : View} (h : (TupT [T, U]).p v V) (hU : ∀ u, U.p u V → U'.p u V) : (TupT [T, U']).p v V := by
 obtain ⟨vs, h1, h2⟩ := h
 match vs, h2 with
 | [x, y], ⟨a, b, c⟩ => exact ⟨[x, y], h1, a, hU y b, c⟩
theorem c_Plain {a : Nat} {zl sl : List Rt} (ha : a < 256) : Fun Tryz.prog 88 [PartT a zl sl] (TupT [RatsT (plZ a zl), RatM (plS a sl)]) := (c_PlainO ha).fun fun B _ v S V h1 h2 => tup2 h1 fun u hu => by
 exact slT_of (plS_rows a sl) u V (frzG (tab_len _ _).symm u S V hu h2)
theorem c_Build {a : Nat} {zl sl : List Rt} (ha : a < 256) : Fun Tryz.prog 16 [PartT a zl sl] (TupT [NetT ((plZ a zl).map Rt.q) (rq (plS a sl)), RNetT ((plZ a zl).map Rt.q) (rq (plS a sl)), BoolT true]) := by
 have hn : plN a ≤ 4 := by unfold plN; omega
 have herr := pl_err a zl sl
 have hzl : (plZ a zl).length = plN a := tab_len _ _
 have hsl : (plS a sl).length = plN a := tab_len _ _
 have hall : ∀ r, r ∈ plS a sl → r.length ≤ 1000 := fun r hr => by obtain ⟨i, _, rfl⟩ := tab_mem.1 hr; rw [tab_len]; omega
 have hsh := (netErr_ok herr).2.2.1
 have z1 : ((plZ a zl).map Rt.q).length ≤ 1000 := by rw [List.length_map, hzl]; omega
 have s1 : (rq (plS a sl)).length ≤ 1000 := by rw [List.length_map, hsl]; omega
 have hcv : ∀ v V, (TupT [NetT (okL (netErr ((plZ a zl).map Rt.q) (rq (plS a sl))) ((plZ a zl).map Rt.q)) (okL (netErr ((plZ a zl).map Rt.q) (rq (plS a sl))) (rq (plS a sl))), IntT .i64 (netErr ((plZ a zl).map Rt.q) (rq (plS a sl)))]).p v V → (TupT [NetT ((plZ a zl).map Rt.q) (rq (plS a sl)), IntT .i64 0]).p v V := by rw [herr]; exact fun _ _ h => h
 have hcv2 : ∀ v V, (TupT [RNetT (okL (netErr ((plZ a zl).map Rt.q) (rq (plS a sl))) ((plZ a zl).map Rt.q)) (okL (netErr ((plZ a zl).map Rt.q) (rq (plS a sl))) (rq (plS a sl))), IntT .i64 (netErr ((plZ a zl).map Rt.q) (rq (plS a sl)))]).p v V → (TupT [RNetT ((plZ a zl).map Rt.q) (rq (plS a sl)), IntT .i64 0]).p v V := by rw [herr]; exact fun _ _ h => h
 refine Fun.intro Tryz.func16 rfl Tryz.ntmps16 rfl (fun cx => (ts (rn rfl (fG (Ht rfl)) fun B1 => (rn rfl (eW (Ts := [Is (.slice none 0 0), Is (.slice none 0 0)]) O_30 rfl (fun V => aW ⟨rfl, trivial⟩ (aW ⟨rfl, trivial⟩ (aG)))) fun B2 => (rn rfl (eW (Ts := [Is (.slice none 0 0), Is (.slice none 0 0)]) O_34 rfl (fun V => aW ⟨rfl, trivial⟩ (aW ⟨rfl, trivial⟩ (aG)))) fun B3 => (ro rfl (cQ cV) (eX (ts (ro rfl (eJ Tryz.isAgg24 Tryz.sizeOf24 (Ht rfl) (i := 0) rfl rfl rfl) (ro rfl (cZ Tryz.call88 (c_Plain ha) ⟨(Ht rfl), trivial⟩) ?_))))))))))
 refine rm rfl (ro rfl (dK (Ht rfl) rfl) (ro rfl (dK (Ht rfl) rfl) (ra rfl (ra rfl (eX (ts (rm rfl (ro rfl (cZ Tryz.call23 (c_lawList (by omega)) ⟨(Ht rfl), trivial⟩) (rm rfl (ro rfl (cZ Tryz.call24 (c_lawRows (by omega) hall) ⟨(Ht rfl), trivial⟩) (ro rfl (cZ Tryz.call85 (eQ (c_netNew (z := ((plZ a zl).map Rt.q)) (s := (rq (plS a sl))) (L := 2) FitL.rt (by decide) z1 s1) hcv) ⟨(Ht rfl), (Ht rfl), trivial⟩) (rm rfl (ro rfl (dK (Ht rfl) rfl) (ro rfl (dK (Ht rfl) rfl) (rn rfl (eW (Ts := [Is (.slice none 0 0), Is (.slice none 0 0)]) O_30 rfl (fun V => aW ⟨rfl, trivial⟩ (aW ⟨rfl, trivial⟩ (aG)))) fun B7 => ?_)))))))))))))))
 refine gQ Z_30 (Ht rfl) (Ht rfl) rfl (i := 3) rfl (aK rfl) rfl rfl (ra rfl (eX (ts (rm rfl (ro rfl (cZ Tryz.call26 (c_refList4 (by omega)) ⟨(Ht rfl), trivial⟩) (rm rfl (ro rfl (cZ Tryz.call27 (c_refRows4 (by omega) hall) ⟨(Ht rfl), trivial⟩) (ro rfl (cZ Tryz.call89 (eQ (c_rnetNew (z := ((plZ a zl).map Rt.q)) (s := (rq (plS a sl))) (L := 2) FitL.rt (by decide) z1 s1) hcv2) ⟨(Ht rfl), (Ht rfl), trivial⟩) (rm rfl (ro rfl (dK (Ht rfl) rfl) (ro rfl (dK (Ht rfl) rfl) (rn rfl (eW (Ts := [Is (.slice none 0 0), Is (.slice none 0 0)]) O_34 rfl (fun V => aW ⟨rfl, trivial⟩ (aW ⟨rfl, trivial⟩ (aG)))) fun B9 => ?_))))))))))))
 refine gQ Z_34 (Ht rfl) (Ht rfl) rfl (i := 4) rfl (aK rfl) rfl rfl (ra rfl (eX (cK (Y.D_start (m := 11) [(9, 1, box B2 30 [NumsT ((plZ a zl).map Rt.q), NumM (rq (plS a sl))]), (10, 2, box B3 34 [QsT ((plZ a zl).map Rt.q), QM (rq (plS a sl))])] (Y.D_step (Ei := [(7, _)]) rfl rfl (bQ (bJ rfl rfl) bX) rfl rfl (by kernel_rfl) (dX rfl (eJ A_30 Z_30 (Ht rfl) (i := 3) rfl rfl rfl)) (bY (Ei := [(9, _)]) rfl rfl (bQ (bJ rfl rfl) bX) rfl rfl (dX rfl (eJ A_34 Z_34 (Ht rfl) (i := 4) rfl rfl rfl)) ?_))))))
 refine Y.D_step (Ei := [(8, _)]) rfl rfl (bQ (bJ rfl rfl) bX) rfl rfl (by kernel_rfl) (dX rfl (cX (Ht rfl))) (Y.D_step (Ei := [(34, _)]) rfl rfl (bQ (bZ 2 rfl rfl) bX) rfl rfl (by kernel_rfl) (dX rfl (op_eql (Ht rfl) cV)) (Y.D_step (Ei := [(35, _)]) rfl rfl (bQ (bZ 3 rfl rfl) bX) rfl rfl (by kernel_rfl) (dX rfl (cX (Ht rfl))) (Y.D_step (Ei := [(7, _), (36, _)]) rfl rfl (bQ (bJ rfl rfl) (bQ (bZ 4 rfl rfl) bX)) rfl rfl (by kernel_rfl) (eK rfl rfl (Ht rfl) (fun h => eJ A_30 Z_30 (Ht rfl) (i := 3) rfl rfl rfl)) ?_)))
 refine Y.D_step (Ei := [(9, _), (36, _)]) rfl rfl (bQ (bJ rfl rfl) (bQ (bZ 4 rfl rfl) bX)) rfl rfl (by kernel_rfl) (eK rfl rfl (Ht rfl) (fun h => eJ A_34 Z_34 (Ht rfl) (i := 4) rfl rfl rfl)) (Y.D_step (Ei := [(37, _), (38, _), (36, _)]) rfl rfl (bQ (bZ 5 rfl rfl) (bQ (bZ 6 rfl rfl) (bQ (bZ 4 rfl rfl) bX))) rfl rfl (by kernel_rfl) (eK rfl rfl (Ht rfl) (fun h => cZ Tryz.call90 (c_is4 (z := ((plZ a zl).map Rt.q)) (s := (rq (plS a sl))) (L := 2) FitL.rt FitM.rt (by decide) (by decide) hsh z1) ⟨(fJ rfl h), (fJ rfl h), trivial⟩)) ?_)
 refine bY (Ei := [(36, _), (39, _)]) rfl rfl (bQ (bZ 4 rfl rfl) (bQ (bZ 7 rfl rfl) bX)) rfl rfl (dX rfl (op_and (Ht rfl) (fun h => (fJ rfl h)))) (Y.D_putI (Ei := [(2, _), (32, _)]) 1 rfl rfl rfl (bQ (bJ rfl rfl) (bQ (bZ 0 rfl rfl) bX)) (.head _) rfl (P_stA Z_30 (Ht rfl) (Ht rfl) rfl (i := 0) rfl (aK rfl) rfl rfl) (Y.D_putI (Ei := [(3, _), (33, _)]) 2 rfl rfl rfl (bQ (bJ rfl rfl) (bQ (bZ 1 rfl rfl) bX)) (.tail _ (.head _)) rfl (P_stA Z_34 (Ht rfl) (Ht rfl) rfl (i := 0) rfl (aK rfl) rfl rfl) ?_))
 refine Y.D_done mixed rfl (by kernel_rfl) rfl (by simp [Y.okP]) rfl rfl (bU (bU (bU (bU (bU (bU (bU (bU (bU (Y.F_putI (Y.F_putI (Y.F_nil ?_))))))))))))
 refine ra rfl (eX (T_ret3 rfl (fK A_30 Z_30 rfl (i := 1) rfl rfl) (fK A_34 Z_34 rfl (i := 2) rfl rfl) (fX (eU rfl) ?_)))
 exact (bool_of (by simp))
end
section
open Go Go.RowKit
section
variable {P : Program} {n : Nat} {E : Env} {H : Hp}
variable {d : Option Tmp} {t : TypeId} {pos : String} {af : Array Edge} {g : Option (Nat × Bool)}
theorem P_stB {x y : Operand} {i B o' : Nat} {BT : TypeId} {Ts Ws : List Ty} {T : Ty} [hsh : Shape T 1 false] (hS : ∀ w, (sizeOf t).run P w = .ok 1 w) (hx : Has E x (PtrB B o')) (hy : Has E y T)
  (hH : H[i]? = some (box B BT Ts)) (hlt : o' < Ts.length) (hW : Ts.set o' T = Ws) {t' : TypeId} {H' : Hp} (hH' : H.set i (box B BT Ws) = H') :
  W.PutTy P n E H H' ⟨none, .store t x y, t', pos, af, none⟩ := by subst hW; subst hH'; exact P_st hS hx hy hH hlt
end
end
section
open Go Go.RowKit
def clr (A : List (List Qi)) (c i j : Nat) : Qi := if j < c ∧ j < i then 0 else gm A i j
def KerF (F : Nat → Nat → Qi) (n m : Nat) (x : Nat → Qi) : Prop := ∀ i, i < n → sumN m (fun k => F i k * x k) = 0
theorem kerF_congr {F G : Nat → Nat → Qi} {n m : Nat} {x : Nat → Qi} (h : ∀ i, i < n → ∀ j, j < m → F i j = G i j) : KerF F n m x ↔ KerF G n m x := by
 have e : ∀ i, i < n → sumN m (fun k => F i k * x k) = sumN m (fun k => G i k * x k) := fun i hi => sumN_congr fun k hk => by rw [h i hi k hk]
 exact ⟨fun k i hi => by rw [← e i hi]; exact k i hi, fun k i hi => by rw [e i hi]; exact k i hi⟩
def tau (p c i : Nat) : Nat := if i = c then p else if i = p then c else i
theorem tau_lt {p c i n : Nat} (hp : p < n) (hc : c < n) (hi : i < n) : tau p c i < n := by unfold tau; split <;> (try split) <;> omega
theorem tau_tau (p c i : Nat) : tau p c (tau p c i) = i := by
 unfold tau
 by_cases e1 : i = c
 ·subst e1
  rw [if_pos rfl]
  by_cases e2 : p = i
  ·rw [if_pos e2]; exact e2
  ·rw [if_neg e2, if_pos rfl]
 ·rw [if_neg e1]
  by_cases e2 : i = p
  ·subst e2; rw [if_pos rfl, if_pos rfl]
  ·rw [if_neg e2, if_neg e1, if_neg e2]
theorem kerF_tau {F : Nat → Nat → Qi} {n m p c : Nat} {x : Nat → Qi} (hp : p < n) (hc : c < n) : KerF (fun i => F (tau p c i)) n m x ↔ KerF F n m x :=
 ⟨fun h i hi => by have := h _ (tau_lt hp hc hi); simp only [tau_tau] at this; exact this, fun h i hi => h _ (tau_lt hp hc hi)⟩
theorem kerF_red {F G : Nat → Nat → Qi} {n m c : Nat} {x f : Nat → Qi} (hc : c < n) (hG : ∀ i, i < n → ∀ j, j < m → G i j = if c < i then F i j - f i * F c j else F i j) : KerF G n m x ↔ KerF F n m x := by
 have key : ∀ i, i < n → sumN m (fun k => G i k * x k) = if c < i then sumN m (fun k => F i k * x k) - f i * sumN m (fun k => F c k * x k) else sumN m (fun k => F i k * x k) := fun i hi => by
  by_cases e : c < i
  ·rw [if_pos e, ← sumN_sub]
   exact sumN_congr fun k hk => by rw [hG i hi k hk, if_pos e]; grind
  ·rw [if_neg e]
   exact sumN_congr fun k hk => by rw [hG i hi k hk, if_neg e]
 have kc := key c hc
 rw [if_neg (by omega)] at kc
 constructor
 ·intro h i hi
  have h0 := h c hc
  rw [kc] at h0
  have h1 := h i hi
  rw [key i hi] at h1
  by_cases e : c < i
  ·rw [if_pos e, h0] at h1; grind
  ·rw [if_neg e] at h1; exact h1
 ·intro h i hi
  rw [key i hi]
  by_cases e : c < i
  ·rw [if_pos e, h i hi, h c hc]; grind
  ·rw [if_neg e]; exact h i hi
theorem redM_gm {M : List (List Qi)} {n m c i j : Nat} (h : Shp M n m) (hi : i < n) (hj : j < m) : gm (redM M c n) i j = if c < i ∧ c < j then gm M i j - gm M i c / gm M c c * gm M c j else gm M i j := by
 have hr : (rw' M i).length = m := h.row hi
 have e0 : rw' (redM M c n) i = if c < i ∧ i < n then redR (rw' M i) (rw' M c) c (rw' M i).length else rw' M i := by
  simp only [rw', redM, List.getD]; rw [tab_get (by rw [h.1]; exact hi)]; rfl
 show gv (rw' (redM M c n) i) j = _
 rw [e0]
 by_cases e : c < i
 ·rw [if_pos ⟨e, hi⟩, redR, gv_tab (by omega)]
  by_cases e2 : c < j
  ·rw [if_pos ⟨e2, by omega⟩, if_pos ⟨e, e2⟩]
  ·rw [if_neg (fun k => e2 k.1), if_neg (fun k => e2 k.2)]
 ·rw [if_neg (fun k => e k.1), if_neg (fun k => e k.1)]
theorem clr_swp {A : List (List Qi)} {p c i j : Nat} (hc : c < A.length) (hp : p < A.length) (hcp : c ≤ p) : clr (swp [] A p c) c i j = clr A c (tau p c i) j := by
 have key : gm (swp [] A p c) i j = gm A (tau p c i) j := congrArg (fun r => gv r j) (swp_rw (by omega) (by omega))
 unfold clr
 rw [key]
 have e : (j < c ∧ j < i) ↔ (j < c ∧ j < tau p c i) := by unfold tau; split <;> (try split) <;> omega
 by_cases h : j < c ∧ j < i
 ·rw [if_pos h, if_pos (e.1 h)]
 ·rw [if_neg h, if_neg (fun k => h (e.2 k))]
structure EL (M A : List (List Qi)) (n m c : Nat) : Prop where
 sh : Shp A n m
 ker : ∀ x, KerF (clr A c) n m x ↔ KerF (gm M) n m x
theorem EL.next {M A : List (List Qi)} {n m c p : Nat} (h : EL M A n m c) (hc : c < n) (hcm : c < m) (hcp : c ≤ p) (hp : p < n) (hz : gm A p c ≠ 0) : EL M (redM (if p = c then A else swp [] A p c) c n) n m (c + 1) := by
 have hl := h.sh.1
 obtain ⟨B, hB⟩ : ∃ B, B = if p = c then A else swp [] A p c := ⟨_, rfl⟩
 have hs : Shp B n m := by
  rw [hB]; split
  ·exact h.sh
  ·exact swp_shp h.sh hp hc
 have hBk : ∀ x, KerF (clr B c) n m x ↔ KerF (gm M) n m x := fun x => by
  rw [hB]; split
  ·exact h.ker x
  ·exact (kerF_congr (G := fun i => clr A c (tau p c i)) fun i hi j hj => clr_swp (by omega) (by omega) hcp).trans ((kerF_tau hp hc).trans (h.ker x))
 have hBz : gm B c c ≠ 0 := by
  rw [hB]; split
  ·rename_i e; rw [← e] at hz ⊢; exact hz
  ·show gv (rw' (swp [] A p c) c) c ≠ 0
   rw [swp_at (by omega)]; exact hz
 rw [← hB]
 refine ⟨redM_shp hs, fun x => (kerF_red (f := fun i => gm B i c / gm B c c) hc fun i hi j hj => ?_).trans (hBk x)⟩
 have hd := div_eq (x := gm B i c) hBz
 unfold clr
 rw [redM_gm hs hi hj]
 by_cases e : c < i
 ·rw [if_pos e]
  by_cases e1 : j < c
  ·rw [if_pos (by omega), if_pos (by omega), if_pos (by omega)]; grind
  ·by_cases e2 : j = c
   ·subst e2
    rw [if_pos (by omega), if_neg (by omega), if_neg (by omega)]; grind
   ·rw [if_neg (by omega), if_pos (by omega), if_neg (by omega), if_neg (by omega)]
 ·rw [if_neg e, if_neg (show ¬ (c < i ∧ c < j) from fun k => e k.1)]
  by_cases e1 : j < i
  ·rw [if_pos (show j < c + 1 ∧ j < i by omega), if_pos (show j < c ∧ j < i by omega)]
  ·rw [if_neg (show ¬ (j < c + 1 ∧ j < i) by omega), if_neg (show ¬ (j < c ∧ j < i) by omega)]
end
section
open Go Go.RowKit
def gq (ps : List (Nat × Nat)) (x : Nat) : Nat := if x % 2 = 0 then pA ps (x / 2) else pB ps (x / 2)
structure Jn (ps : List (Nat × Nat)) (n K : Nat) : Prop where
 lt : ∀ x, x < 2 * K → gq ps x < n
 inj : ∀ x y, x < 2 * K → y < 2 * K → gq ps x = gq ps y → x = y
theorem Jn.le {ps : List (Nat × Nat)} {n K k : Nat} (h : Jn ps n K) (hk : k ≤ K) : Jn ps n k := ⟨fun x hx => h.lt x (by omega), fun x y hx hy => h.inj x y (by omega) (by omega)⟩
end
section
open Go Go.RowKit
theorem mat_ext {a b : List (List Qi)} {n m : Nat} (ha : Shp a n m) (hb : Shp b n m) (h : ∀ i, i < n → ∀ j, j < m → gm a i j = gm b i j) : a = b := by
 rw [mat_tab ha, mat_tab hb]
 exact tab_congr fun i hi => tab_congr fun j hj => h i hi j hj
end
section
open Go Go.RowKit
theorem bld_120_0_1 {n : Nat} {E : Env} {H : Hp} {d : Option Tmp} {t : TypeId} {pos : String} {af : Array Edge} {g : Option (Nat × Bool)} {x0 x1 : Operand} {T0 T1 : Ty} [s0 : Shape T0 1 false] (h0 : Has E x0 T0) [s1 : Shape T1 1 false] (h1 : Has E x1 T1) :
  OpTy Tryz.prog n E H ⟨d, .build 120 #[(0, x0), (1, x1)], t, pos, af, g⟩ (AggT [T0, T1]) :=
 op_build (parts := [(0, x0), (1, x1)]) fun a V w hs => by
  have p0 := h0 n V a hs
  generalize e0 : a.eval x0 = v0 at p0
  have q0 := (s0.ok v0 V p0).2.2 rfl
  have p1 := h1 n V a hs
  generalize e1 : a.eval x1 = v1 at p1
  have q1 := (s1.ok v1 V p1).2.2 rfl
  refine ⟨.agg #[v0, v1], ?_, [v0, v1], rfl, aW (⟨p0, q0⟩) (aW (⟨p1, q1⟩) (aG))⟩
  simp [e0, e1, Instr.build, Instr.fill, Sem.run_bind, Result.andThen, cells_agg, q0.cells, q1.cells, Tryz.zeroValue120, U_120, Z_3]
end
section
open Go Go.RowKit
theorem fit_div {x y : Qi} {L M : Nat} (hx : FitC x L) (hy : FitC y M) (h : y ≠ 0) : FitC (x / y) (L + 3 * M + 2) := ⟨hx.fit.div hy.fit h⟩
end
section
open Go Go.RowKit
section
variable {φ : Qi → Qi → Bool} {z : List Qi} {js : List (Int × Int)}
end
def setM (M : List (List Qi)) (i j : Nat) (v : Qi) : List (List Qi) := M.set i ((M.getD i []).set j v)
theorem setM_shp {M : List (List Qi)} {n m i j : Nat} {v : Qi} (h : Shp M n m) : Shp (setM M i j v) n m := by
 refine ⟨by rw [setM, List.length_set]; exact h.1, fun r hr => ?_⟩
 rcases Nat.lt_or_ge i M.length with hi | hi
 ·rcases List.mem_or_eq_of_mem_set hr with h1 | h1
  ·exact h.2 r h1
  ·rw [h1, List.length_set]; exact h.row (by rw [← h.1]; exact hi)
 ·rw [setM, List.set_eq_of_length_le hi] at hr; exact h.2 r hr
theorem setM_gm {M : List (List Qi)} {n m i j a b : Nat} {v : Qi} (h : Shp M n m) (hi : i < n) (hj : j < m) : gm (setM M i j v) a b = if a = i ∧ b = j then v else gm M a b := by
 have hl := h.1
 have hr := h.row hi
 by_cases e : a = i
 ·subst e
  show gv ((M.set a ((M.getD a []).set j v)).getD a []) b = _
  rw [show (M.set a ((M.getD a []).set j v)).getD a [] = (M.getD a []).set j v by simp [List.getD, show a < M.length by omega], gv_set (by omega)]
  by_cases e2 : b = j
  ·rw [if_pos e2, if_pos ⟨rfl, e2⟩]
  ·rw [if_neg e2, if_neg (fun k => e2 k.2)]
 ·rw [if_neg (fun k => e k.1)]
  show gv ((M.set i ((M.getD i []).set j v)).getD a []) b = gv (M.getD a []) b
  rw [show (M.set i ((M.getD i []).set j v)).getD a [] = M.getD a [] by simp [List.getD, List.getElem?_set_ne (Ne.symm e)]]
def hlf : Qi := Qi.frac 1 0 2
section
variable {js : List (Int × Int)} {n : Nat}
end
theorem lfG_all : ∀ n, lfG [] n = tab n fun i => i
 | 0 => rfl
 | n + 1 => by rw [lfG, lfG_all n, tab_succ]; rfl
theorem all_len (n : Nat) : (lfG [] n).length = n := by rw [lfG_all, tab_len]
theorem all_sub {z : List Qi} : subZ z (lfG [] z.length) = z := by
 rw [subZ, all_len, lfG_all]
 apply List.ext_getElem?
 intro i
 by_cases hi : i < z.length
 ·rw [tab_get hi, qat, tab_getD hi]; simp [gv, List.getD, hi]
 ·rw [List.getElem?_eq_none (by rw [tab_len]; omega), List.getElem?_eq_none (by omega)]
theorem w3a {vs : List Value} {M : List (List Qi)} {n m : Nat} (h : vs.length = n) (s : Shp M n m) : vs.length = M.length := h.trans s.1.symm
theorem w3b {M : List (List Qi)} {n m p : Nat} (s : Shp M n m) (hp : p < n) : p < M.length := by rw [s.1]; exact hp
theorem w3c {M : List (List Qi)} {n m p q : Nat} (s : Shp M n m) (hp : p < n) (hq : q < m) : q < (M.getD p []).length := by rw [s.row hp]; exact hq
end
section
open Go Go.RowKit
section
variable {P : Program} {R : Post} {cx : Cx} {n : Nat} {k : List It} {E : Env} {H : Hp}
theorem HH.two {base : Nat} {w : World} {V : View} {Z : SA} {X : Hp} (h : HH base w V (Z :: X)) : HH base w V [Z, starSA (SA.emp :: X)] := by
 have h1 : HH base w V ((Z :: X).set 0 SA.emp ++ [Z]) := h.last rfl
 have h2 : HH base w V (starSA (SA.emp :: X) :: [Z]) := HH.repack h1
 exact h2.pick (is := [1, 0]) ⟨⟨_, rfl, fun _ _ _ h => h⟩, ⟨_, rfl, fun _ _ _ h => h⟩, trivial⟩ (by decide)
theorem FunO.pack {f : FuncId} {Ts : List Ty} {γ : Type} {U : γ → Ty} {X : γ → Hp} {Q : γ → Prop} (h : FunO P f Ts [] γ U X Q) : FunO P f Ts [] γ U (fun x => [starSA (SA.emp :: X x)]) Q :=
 fun cx Z vs V w h1 h2 => (h cx Z vs V w h1 h2).mono fun e w' ⟨v, V', x, a, b, c, d, e'⟩ => ⟨v, V', x, a, b, c.withHH c.hp.two, d, e'⟩
theorem T_star {X Y : Hp} (h : Tr P R cx n k E (X ++ Y)) : Tr P R cx n k E (starSA X :: Y) := fun a w ⟨V, hin, hs⟩ => h a w ⟨V, hin.withHH hin.hp.unpack, hs⟩
end
namespace W
variable {P : Program} {R : Post} {cx : Cx} {n : Nat} {k : List It} {E : Env} {H : Hp} {Hf : Bool → Hp} {p : Nat}
end W
end
section
open Go Go.RowKit
theorem c_partZ {z : List Qi} {s : List (List Qi)} {Q : List Nat} {m : Nat} (hs : Shp s z.length z.length) (hQ : ∀ x, x ∈ Q → x < z.length) (hm : Q.length = m) (hm2 : m ≤ 1000) (hl : z.length ≤ 1000) : FunO Tryz.prog 111 [NetT z s, IntsT (Q.map Nat.succ)] [] (Nat × Nat) (fun B => AggT [Is (.slice (some ⟨B.1, 0, none⟩) m m), Is (.slice (some ⟨B.2, 0, none⟩) m m)]) (fun B => [rowO 45 5 (.slice (some ⟨B.1, 0, none⟩) m m) ((subZ z Q).map NumT), matO B.2 27 45 5 (FRow NumT (subM s Q))]) (fun _ => True) := by
 have hll : (Q.map Nat.succ).length = m := by rw [List.length_map]; exact hm
 refine FunO.intro Tryz.func111 rfl Tryz.ntmps111 rfl (fun cx Z => (ts (rn rfl (fG (Ht rfl)) fun B2 => (rn rfl (new_box1 (Ht rfl)) fun B3 => (rn rfl (eW (Ts := [Is (.slice none 0 0), Is (.slice none 0 0)]) O_30 rfl (fun V => aW ⟨rfl, trivial⟩ (aW ⟨rfl, trivial⟩ (aG)))) fun B4 => (eX (cK (gJ (i := 1) (tt := 2) rfl rfl frz_ptr (gJ (i := 2) (tt := 3) rfl rfl frz_ptr1 (cY (ro rfl (dJ A_69 Z_69 (Ht rfl)) (ro rfl (dG U_69 (Ht rfl) (by rw [List.length_map, hll])) ?_))))))))))))
 refine rn rfl (new_makeS (T := NumT Qi.zero) (i := Tryz.t45) und_27 info_45 rfl rfl (Ht rfl) rfl num_zero_p (El.ag rfl) (by show 88 * _ ≤ _; omega) (by omega)) fun B10 => ra rfl (eX (cK (ts (ro rfl (dJ A_69 Z_69 (Ht rfl)) (ro rfl (dG U_69 (Ht rfl) (by rw [List.length_map, hll])) ?_)))))
 refine ro rfl (cX (cJ 0)) (eX (eG (T_keep [0, 3, 4] rfl (by decide) ?_)))
 refine T_loop (fun (i : Nat) => i ≤ m) (fun (i : Nat) => m - i) (fun (i : Nat) => [(2, PT (NetT z s)), (3, PT (IntsT (Q.map Nat.succ))), (4, PtrB B4 0), (5, Is (.slice (some ⟨B10, 0, none⟩) m m)), (11, IntsT (Q.map Nat.succ)), (12, NT .i64 m), (13, NT .i64 i)]) (fun (i : Nat) => [Z, box B4 30 [Is (.slice none 0 0), Is (.slice none 0 0)], rowO 45 5 (.slice (some ⟨B10, 0, none⟩) m m) ((mixT (fun i => gv z (qat Q i)) Qi.zero m i).map NumT)]) 0 (Nat.zero_le _)
  (aQ rfl (aQ rfl (aQ rfl (aQ rfl (aQ rfl (aQ rfl (aQ rfl aX))))))) (aU (fun _ _ _ h => h) (aU (fun _ _ _ h => h) (aU (rowO_of (by rw [← mix_zero]; exact tab_rep NumT m)) aY))) (fun i hi => ?_)
 refine ts (ro rfl (gX (Ht rfl) (Ht rfl)) (eX (cK (dQ (Ht rfl) (fun hd => ?_) (fun hd => ?_)))))
 ·simp only [decide_eq_true_eq] at hd
  have hki : qat Q i < z.length := qat_lt hQ (by omega)
  refine cU (cK (eG (ts (rm rfl (ro rfl (dZ U_69 Z_3 (Ht rfl) (Ht rfl) rfl (dY (suc_get (by omega)))) (ro rfl (dJ A_3 Z_3 (Ht rfl)) (ra rfl (ra rfl (eX (cY (rm rfl (rm rfl (ro rfl (op_fld1 fa_30_0 (Ht rfl) rfl) (ro rfl (dJ A_27 Z_27 (Ht rfl)) (rm rfl (ro rfl (OpTy.nat (dW (Ht rfl) (cJ 1) (by omega) (by show _ < 9223372036854775808; first | omega | (simp only [lim]; omega))) (show qat Q i + 1 - 1 = qat Q i by omega)) (ro rfl (dZ U_27 Z_45 (Ht rfl) (Ht rfl) rfl (dY (dU (d := Qi.zero) hki))) ?_)))))))))))))))))
  refine ro rfl (dJ A_45 Z_45 (Ht rfl)) (ro rfl (op_idxO U_27 Z_45 (Ht rfl) (Ht rfl) rfl (i := 2) rfl (by rw [List.length_map, mix_len]; omega) rfl) ?_)
  refine R_stO Z_45 (Ht rfl) (Ht rfl) (El.ag rfl) (i := 2) rfl rfl (by rw [List.length_map, mix_len]; omega) rfl ?_
  refine eX (T_blk (cY (ro rfl (dV (Ht rfl) (cJ 1) (by show _ < 9223372036854775808; first | omega | (simp only [lim]; omega))) (rm rfl (eX (fU (i + 1) hd (by omega) (aQ rfl (aQ rfl (aQ rfl (aQ rfl (aQ rfl (aQ rfl (aQ rfl aX))))))) (aU (fun _ _ _ h => h) (aU (fun _ _ _ h => h) (aU (rowO_of (by rw [set_mapF, ← mix_set (f := (fun i => gv z (qat Q i)))])) aY)))))))))
 ·simp only [decide_eq_false_iff_not] at hd
  obtain rfl : m = i := Nat.le_antisymm (by omega) hi
  rw [mix_fin]
  rw [show subZ z Q = tab m fun i => gv z (qat Q i) from by rw [subZ, hm], show subM s Q = tab m fun i => tab m fun j => gm s (qat Q i) (qat Q j) from by rw [subM, hm]]
  refine gV rfl (ts (rm rfl (ro rfl (dJ A_69 Z_69 (Ht rfl)) (ro rfl (dG U_69 (Ht rfl) (by rw [List.length_map, hll])) ?_))))
  refine ro rfl (op_clos (γ := Fin m × Fin m) (Ts := fun x => [NT .i64 x.1.1, NT .i64 x.2.1]) (U := fun x => NumT (gm s (qat Q x.1.1) (qat Q x.2.1))) Tryz.call210 (fun x => c_part1 hs hQ hm hm2 hl x.1.2 x.2.2) ⟨(Ht rfl), (Ht rfl), trivial⟩) (R_call0 Tryz.call119 (c_fillO (n := m) (f := fun i j => gm s (qat Q i) (qat Q j)) (by omega)) ⟨(Ht rfl), (Ht rfl), trivial⟩ rfl (fun B32 _ => (ro rfl (bld_30_0_1 (Ht rfl) (Ht rfl)) (gQ Z_30 (Ht rfl) (Ht rfl) rfl (i := 1) rfl (aK rfl) rfl rfl (eX ?_)))))
  exact T_retO (B10, B32) trivial [0, 2, 3] ⟨⟨_, rfl, fun _ _ _ h => h⟩, ⟨_, rfl, fun _ _ _ h => h⟩, ⟨_, rfl, fun _ _ _ h => h⟩, trivial⟩ (by decide) (rvs1 rfl (fK A_30 Z_30 rfl (i := 1) rfl rfl))
end
section
open Go Go.RowKit
theorem c_left0 {z : List Qi} {s : List (List Qi)} (hl : z.length ≤ 1000) : Fun Tryz.prog 112 [NetT z s, Is (.slice none 0 0)] (IntsT ((lfG [] z.length).map Nat.succ)) :=
 (c_leftG (z := z) (s := s) (G := []) hl (by simp)).arg fun vs V h => match vs, h with
  | [_, b], ⟨h1, h2, _⟩ => ⟨h1, nil_slT b V h2, trivial⟩
end
section
open Go Go.RowKit
abbrev emS (s f : List (List Qi)) (n : Nat) : List (List Qi) := sidM s f n 2
abbrev emT (n p : Nat) : List Int := toL (n + 2) [(p, n + 1)] 1
theorem em_tv {n p j : Nat} (hp : p < n) (hj : j < n + 2) : tv (emT n p) j = if j = n + 1 then (p : Int) else if j = p then ((n + 1 : Nat) : Int) else -1 := by
 have e : emT n p = ((tab (n + 2) fun _ => (-1 : Int)).set p ((n + 1 : Nat) : Int)).set (n + 1) (p : Int) := rfl
 rw [e, tv, List.getD]
 by_cases c : j = n + 1
 ·subst c; rw [if_pos rfl, List.getElem?_set_self (by rw [List.length_set, tab_len]; omega)]; rfl
 ·rw [if_neg c, List.getElem?_set_ne (Ne.symm c)]
  by_cases c2 : j = p
  ·subst c2; rw [if_pos rfl, List.getElem?_set_self (by rw [tab_len]; omega)]; rfl
  ·rw [if_neg c2, List.getElem?_set_ne (Ne.symm c2), tab_get hj]; rfl
theorem em_lf {n p : Nat} (hp : p < n) : ∀ {k : Nat}, k ≤ n → lfL (emT n p) k = tab (cnt p k) (skp p)
 | 0, _ => by rw [lfL, show cnt p 0 = 0 by unfold cnt; split <;> omega]; rfl
 | k + 1, h => by
  rw [lfL, em_lf hp (k := k) (by omega), em_tv hp (by omega), if_neg (show ¬ k = n + 1 by omega)]
  by_cases c : k = p
  ·subst c
   rw [if_pos rfl, if_neg (by omega), List.append_nil, show cnt k (k + 1) = cnt k k by unfold cnt; split <;> split <;> omega]
  ·rw [if_neg c, if_pos (by omega)]
   have e1 : skp p (cnt p k) = k := by unfold skp cnt; split <;> split <;> omega
   have e2 : cnt p (k + 1) = cnt p k + 1 := by unfold cnt; split <;> split <;> omega
   rw [e2, tab_succ, e1]
theorem em_lf2 {n p : Nat} (hp : p < n) : lfL (emT n p) (n + 2) = tab n (skp p) := by
 have e1 : tv (emT n p) n = -1 := by rw [em_tv hp (by omega), if_neg (by omega), if_neg (by omega)]
 have e2 : tv (emT n p) (n + 1) = (p : Int) := by rw [em_tv hp (by omega), if_pos rfl]
 rw [lfL, lfL, em_lf hp (Nat.le_refl n), e1, e2, if_pos (by omega), if_neg (by omega), List.append_nil, cnt_fin hp]
 have e : tab n (skp p) = tab (n - 1 + 1) (skp p) := by rw [show n - 1 + 1 = n by omega]
 rw [e, tab_succ, show skp p (n - 1) = n by unfold skp; split <;> omega]
theorem em_sum {s f : List (List Qi)} {n p i : Nat} (hp : p < n) (hi : i < n + 2) (x : Nat → Qi) : sumN (n + 2) (cnT (emS s f n) (emT n p) x i) = if i < n then gm s i p * x (n + 1) else gm f (i - n) 1 * x p := by
 rw [sumN_two (i := p) (c := n + 1) (by omega) (by omega) (by omega) (fun k hk h1 h2 => by rw [cnT, em_tv hp hk, if_neg h2, if_neg h1, if_pos (by omega)])]
 rw [cnT, cnT, em_tv hp (by omega), em_tv hp (by omega), if_neg (show ¬ p = n + 1 by omega), if_pos rfl, if_pos rfl, if_neg (by omega), if_neg (by omega), sidM_gm hi (by omega), sidM_gm hi (by omega), Int.toNat_natCast, Int.toNat_natCast]
 by_cases c : i < n
 ·rw [if_pos c, if_pos c, if_pos c, if_pos hp, if_neg (by omega), q0]; grind
 ·rw [if_neg c, if_neg c, if_neg c, if_neg (by omega), if_pos (by omega), show n + 1 - n = 1 by omega, q0]; grind
theorem em_col {s f : List (List Qi)} {n l i : Nat} (hl : l < n + 1) (hi : i < n + 2) : gm (emS s f n) i l = if i < n then (if l < n then gm s i l else 0) else if l = n then gm f (i - n) 0 else 0 := by
 rw [sidM_gm hi (by omega)]
 by_cases c : i < n
 ·rw [if_pos c, if_pos c]; rfl
 ·rw [if_neg c, if_neg c]
  by_cases d : l = n
  ·rw [if_pos d, if_pos (by omega), d, Nat.sub_self]
  ·rw [if_neg d, if_neg (by omega)]; rfl
abbrev emD (s f : List (List Qi)) (p : Nat) : Qi := Qi.ofInt 1 - gm f 1 1 * gm s p p
def emW (s f : List (List Qi)) (n p l i : Nat) : Qi :=
 if l < n then
  (if i < n then gm s i l + gm s i p * (gm f 1 1 * (gm s p l / emD s f p)) else gm f (i - n) 1 * (gm s p l / emD s f p))
 else (if i < n then gm s i p * (gm f 1 0 / emD s f p) else gm f (i - n) 0 + gm f (i - n) 1 * (gm s p p * (gm f 1 0 / emD s f p)))
theorem em_bad {s f : List (List Qi)} {n p : Nat} (hp : p < n) (hz : emD s f p = Qi.zero) : cnE (emS s f n) (emT n p) (n + 2) (lfL (emT n p) (n + 2)) = 6 := by
 rw [q0, emD, q1] at hz
 refine cn_bad (x := fun i => if i < n then gm s i p * gm f 1 1 else gm f (i - n) 1) (k := p) (fun j hj => by rw [em_tv hp hj]; split <;> (try split) <;> omega) (by rw [em_lf2 hp, tab_len]; omega) (fun i hi => ?_) (by omega) ?_
 ·rw [em_sum hp hi]; dsimp only
  by_cases c : i < n
  ·rw [if_pos c, if_pos c, if_neg (by omega), show n + 1 - n = 1 by omega]; grind
  ·rw [if_neg c, if_neg c, if_pos hp]; grind
 ·show (if p < n then gm s p p * gm f 1 1 else gm f (p - n) 1) ≠ 0
  rw [if_pos hp]
  intro e
  have : (1 : Qi) = 0 := by grind
  exact absurd (congrArg Qi.re this) (by decide)
theorem em_ok {s f : List (List Qi)} {n p : Nat} (hp : p < n) (hz : emD s f p ≠ Qi.zero) : cnE (emS s f n) (emT n p) (n + 2) (lfL (emT n p) (n + 2)) = 0 ∧
  ∀ x y, x < n → y < n → cnV (emS s f n) (emT n p) (n + 2) (lfL (emT n p) (n + 2)) x y = emW s f n p (skp p y) (skp p x) := by
 rw [q0] at hz
 have hd := fun x : Qi => div_eq (x := x) hz
 have hde : emD s f p = 1 - gm f 1 1 * gm s p p := rfl
 have hlen : (lfL (emT n p) (n + 2)).length = n := by rw [em_lf2 hp, tab_len]
 have hget : ∀ y, y < n → (lfL (emT n p) (n + 2)).getD y 0 = skp p y := fun y hy => by rw [em_lf2 hp, tab_getD hy]
 have hsk : ∀ y, y < n → skp p y < n + 1 := fun y hy => by unfold skp; split <;> omega
 obtain ⟨h1, h2⟩ := cn_ok (S := emS s f n) (to := emT n p) (n := n + 2) (lf := lfL (emT n p) (n + 2))
  (u := fun y i => emW s f n p (skp p y) i)
  (fun j hj => by rw [em_tv hp hj]; split <;> (try split) <;> omega)
  (fun y hy i hi => by
   have hy2 : y < n := by omega
   have hy3 := hsk y hy2
   rw [em_sum hp hi, hget y hy2, em_col hy3 hi]
   generalize skp p y = l at hy3
   by_cases c : l < n
   ·have hl : ¬ l = n := by omega
    have e1 := hd (gm s p l)
    simp only [emW, if_pos c, if_neg hl, if_pos hp]
    rw [if_neg (show ¬ n + 1 < n by omega), show n + 1 - n = 1 by omega]
    by_cases c2 : i < n
    ·rw [if_pos c2, if_pos c2, if_pos c2]; grind
    ·rw [if_neg c2, if_neg c2, if_neg c2]; grind
   ·obtain rfl : l = n := by omega
    have e1 := hd (gm f 1 0)
    simp only [emW, if_neg c, if_pos hp, if_true]
    rw [if_neg (show ¬ l + 1 < l by omega), show l + 1 - l = 1 by omega]
    by_cases c2 : i < l
    ·rw [if_pos c2, if_pos c2, if_pos c2]; grind
    ·rw [if_neg c2, if_neg c2, if_neg c2]; grind)
  (fun x hx k hk => by
   have hn := hx (n + 1) (by omega)
   have hpp := hx p (by omega)
   rw [em_sum hp (by omega), if_neg (by omega), show n + 1 - n = 1 by omega] at hn
   rw [em_sum hp (by omega), if_pos hp] at hpp
   have e1 : emD s f p * x p = 0 := by rw [hde]; grind
   have e2 : x p = 0 := by
    rcases mul_zero_or e1 with h | h
    ·exact absurd h hz
    ·exact h
   have e3 : x (n + 1) = 0 := by grind
   have hkk := hx k hk
   rw [em_sum hp hk] at hkk
   by_cases c : k < n
   ·rw [if_pos c] at hkk; grind
   ·rw [if_neg c] at hkk; grind)
 exact ⟨h1, fun x y hx hy => by rw [h2 x y (by omega) (by rw [hget x hx]; have := hsk x hx; omega), hget x hx]⟩
theorem em_z {z fz : List Qi} {n p : Nat} (hp : p < n) (hz : z.length = n) : (lfL (emT n p) (n + 2)).map (fun l => gv (z ++ fz) l) = tab n fun i => if skp p i < n then gv z (skp p i) else gv fz 0 := by
 rw [em_lf2 hp, tab_map]
 refine tab_congr fun i hi => ?_
 have : skp p i < n + 1 := by unfold skp; split <;> omega
 simp only [gv, List.getD]
 by_cases c : skp p i < n
 ·rw [if_pos c, List.getElem?_append_left (by omega)]
 ·rw [if_neg c, List.getElem?_append_right (by omega), show skp p i - z.length = 0 by omega]
def emP (p i : Nat) (n : Nat) : Nat := if i < p then i else if i = p then n - 1 else i - 1
theorem emP_skp {p i n : Nat} (hp : p < n) (hi : i < n) : skp p (emP p i n) = if i = p then n else i := by
 unfold emP skp
 by_cases c : i < p
 ·rw [if_pos c, if_pos c, if_neg (by omega)]
 ·rw [if_neg c]
  by_cases d : i = p
  ·rw [if_pos d, if_pos d, if_neg (by omega)]; omega
  ·rw [if_neg d, if_neg d, if_neg (by omega)]; omega
theorem emP_lt {p i n : Nat} (hi : i < n) : emP p i n < n := by unfold emP; split <;> (try split) <;> omega
def emL (n p : Nat) : Nat → List Nat
 | 0 => []
 | k + 1 => emL n p k ++ (if k = p then [n - 1, k] else [k])
theorem emL_eq {n p : Nat} : ∀ k, emL n p k = tab (if p < k then k + 1 else k) fun i => emP p i n
 | 0 => rfl
 | k + 1 => by
  rw [emL, emL_eq k]
  by_cases c : k = p
  ·subst c
   rw [if_neg (Nat.lt_irrefl k), if_pos rfl, if_pos (Nat.lt_succ_self k), tab_succ, tab_succ, List.append_assoc]
   have e1 : emP k k n = n - 1 := by unfold emP; rw [if_neg (Nat.lt_irrefl k), if_pos rfl]
   have e2 : emP k (k + 1) n = k := by unfold emP; rw [if_neg (by omega), if_neg (by omega)]; omega
   rw [e1, e2]; rfl
  ·rw [if_neg c]
   by_cases d : p < k
   ·rw [if_pos d, if_pos (by omega), tab_succ (m := k + 1), show emP p (k + 1) n = k by unfold emP; rw [if_neg (by omega), if_neg (by omega)]; omega]
   ·rw [if_neg d, if_neg (by omega), tab_succ, show emP p k n = k by unfold emP; rw [if_pos (by omega)]]
def emQ (n p : Nat) : List Nat := emL n p (n - 1) ++ (if p + 1 = n then [n - 1] else [])
theorem emQ_eq {n p : Nat} (hp : p < n) : emQ n p = tab n fun i => emP p i n := by
 rw [emQ, emL_eq]
 by_cases c : p + 1 = n
 ·rw [if_pos c, if_neg (by omega)]
  have e : tab n (fun i => emP p i n) = tab (n - 1 + 1) fun i => emP p i n := by rw [show n - 1 + 1 = n by omega]
  rw [e, tab_succ, show emP p (n - 1) n = n - 1 by unfold emP; rw [if_neg (by omega), if_pos (by omega)]]
 ·rw [if_neg c, if_pos (by omega), List.append_nil, show n - 1 + 1 = n by omega]
def embX (s f : List (List Qi)) (p i j : Nat) : Qi :=
 if i = p ∧ j = p then gm f 0 0 + gm f 0 1 * (gm f 1 0 * (gm s p p / emD s f p))
 else if j = p then gm s i p / emD s f p * gm f 1 0
 else if i = p then gm f 0 1 * (gm s p j / emD s f p)
 else gm s i j + gm s i p / emD s f p * (gm f 1 1 * gm s p j)
def embM (s f : List (List Qi)) (p n : Nat) : List (List Qi) := tab n fun i => tab n fun j => embX s f p i j
theorem em_x {s f : List (List Qi)} {n p x y : Nat} (hp : p < n) (hx : x < n) (hy : y < n) : emW s f n p (skp p (emP p y n)) (skp p (emP p x n)) = embX s f p x y := by
 rw [emP_skp hp hx, emP_skp hp hy, embX]
 by_cases cy : y = p
 ·rw [if_pos cy]
  subst cy
  rw [emW, if_neg (Nat.lt_irrefl n)]
  by_cases cx : x = y
  ·rw [if_pos cx, if_neg (Nat.lt_irrefl n), if_pos ⟨cx, rfl⟩, Nat.sub_self, Qi.div_def, Qi.div_def]; grind
  ·rw [if_neg cx, if_pos hx, if_neg (fun k => cx k.1), if_pos rfl, Qi.div_def, Qi.div_def]; grind
 ·have e : ¬ (x = p ∧ y = p) := fun k => cy k.2
  rw [if_neg cy, emW, if_pos hy, if_neg e, if_neg cy]
  by_cases cx : x = p
  ·rw [if_pos cx, if_pos cx, if_neg (Nat.lt_irrefl n), Nat.sub_self]
  ·rw [if_neg cx, if_neg cx, if_pos hx, Qi.div_def, Qi.div_def]; grind
def fxE (z fz : List Qi) (port : Int) (x : Nat) : Int := if fz.length ≠ 2 then 4 else if ¬ (1 ≤ port ∧ port ≤ z.length) then 1 else if gv fz (x - 1) = gv z (port - 1).toNat then 0 else 40
theorem fx_ok {z fz : List Qi} {port : Int} {x : Nat} (h : fxE z fz port x = 0) : fz.length = 2 ∧ (1 ≤ port ∧ port ≤ z.length) ∧ gv fz (x - 1) = gv z (port - 1).toNat := by
 unfold fxE at h
 by_cases c1 : fz.length = 2
 ·rw [if_neg (fun k => k c1)] at h
  by_cases c2 : 1 ≤ port ∧ port ≤ z.length
  ·rw [if_neg (fun k => k c2)] at h
   by_cases c3 : gv fz (x - 1) = gv z (port - 1).toNat
   ·exact ⟨c1, c2, c3⟩
   ·rw [if_neg c3] at h; omega
  ·rw [if_pos c2] at h; omega
 ·rw [if_pos c1] at h; omega
def emE (z : List Qi) (s : List (List Qi)) (fz : List Qi) (f : List (List Qi)) (port : Int) : Int := if fxE z fz port 2 ≠ 0 then fxE z fz port 2 else if emD s f (port - 1).toNat = Qi.zero then 6 else 0
theorem em_fx {z fz : List Qi} {s f : List (List Qi)} {port : Int} (h : fxE z fz port 2 ≠ 0) : emE z s fz f port = fxE z fz port 2 := if_pos h
theorem em_no {z fz : List Qi} {s f : List (List Qi)} {port : Int} (h : fxE z fz port 2 = 0) (h2 : emD s f (port - 1).toNat = Qi.zero) : emE z s fz f port = 6 := by rw [emE, if_neg (fun k => k h), if_pos h2]
theorem em_yes {z fz : List Qi} {s f : List (List Qi)} {port : Int} (h : fxE z fz port 2 = 0) (h2 : emD s f (port - 1).toNat ≠ Qi.zero) : emE z s fz f port = 0 := by rw [emE, if_neg (fun k => k h), if_neg h2]
def emZ (z : List Qi) (s : List (List Qi)) (fz : List Qi) (f : List (List Qi)) (port : Int) : List Qi := okL (emE z s fz f port) (z.set (port - 1).toNat (gv fz 0))
def emR (z : List Qi) (s : List (List Qi)) (fz : List Qi) (f : List (List Qi)) (port : Int) : List (List Qi) := okL (emE z s fz f port) (embM s f (port - 1).toNat z.length)
theorem em_shp (z : List Qi) (s : List (List Qi)) (fz : List Qi) (f : List (List Qi)) (port : Int) : Shp (emR z s fz f port) (emZ z s fz f port).length (emZ z s fz f port).length ∧ (emZ z s fz f port).length ≤ z.length := by
 by_cases h : emE z s fz f port = 0
 ·rw [emR, emZ, okL, okL, h, if_pos rfl, if_pos rfl, List.length_set]; exact ⟨Shp.tab, Nat.le_refl _⟩
 ·rw [emR, emZ, okL, okL, if_neg h, if_neg h]; exact ⟨⟨rfl, fun r hr => by cases hr⟩, Nat.zero_le _⟩
theorem em_pickZ {z fz : List Qi} {n p : Nat} (hp : p < n) (hz : z.length = n) : subZ ((lfL (emT n p) (n + 2)).map fun l => gv (z ++ fz) l) (emQ n p) = z.set p (gv fz 0) := by
 rw [em_z hp hz, emQ_eq hp, subZ, tab_len]
 apply List.ext_getElem?
 intro i
 by_cases hi : i < n
 ·rw [tab_get hi, qat, tab_getD hi, gv_tab (emP_lt hi), emP_skp hp hi]
  by_cases c : i = p
  ·subst c; rw [if_pos rfl, if_neg (Nat.lt_irrefl n), List.getElem?_set_self (by omega)]
  ·rw [if_neg c, if_pos hi, List.getElem?_set_ne (Ne.symm c)]
   simp [gv, List.getD, show i < z.length by omega]
 ·rw [List.getElem?_eq_none (by rw [tab_len]; omega), List.getElem?_eq_none (by rw [List.length_set]; omega)]
theorem em_pickS {s f : List (List Qi)} {n p : Nat} (hp : p < n) (hz : emD s f p ≠ Qi.zero) : subM (tab n fun x => tab n fun y => cnV (emS s f n) (emT n p) (n + 2) (lfL (emT n p) (n + 2)) x y) (emQ n p) = embM s f p n := by
 rw [emQ_eq hp, subM, tab_len]
 refine tab_congr fun i hi => tab_congr fun j hj => ?_
 rw [qat, qat, tab_getD hi, tab_getD hj, gm_tab (emP_lt hi) (emP_lt hj), (em_ok hp hz).2 _ _ (emP_lt hi) (emP_lt hj), em_x hp hi hj]
def rmD (s f : List (List Qi)) (p : Nat) : Qi := gm f 0 1 * gm f 1 0 + gm f 1 1 * (gm s p p - gm f 0 0)
def rmX (s f : List (List Qi)) (p i j : Nat) : Qi :=
 if i = p ∧ j = p then (gm s p p - gm f 0 0) / rmD s f p
 else if j = p then gm s i p / rmD s f p * gm f 0 1
 else if i = p then gm f 1 0 * (gm s p j / rmD s f p)
 else gm s i j - gm s i p / rmD s f p * (gm f 1 1 * gm s p j)
def rmRM (s f : List (List Qi)) (p n : Nat) : List (List Qi) := tab n fun i => tab n fun j => rmX s f p i j
def rmE (z : List Qi) (s : List (List Qi)) (fz : List Qi) (f : List (List Qi)) (port : Int) : Int := if fxE z fz port 1 ≠ 0 then fxE z fz port 1 else if gm f 0 1 = Qi.zero ∨ gm f 1 0 = Qi.zero ∨ rmD s f (port - 1).toNat = Qi.zero then 6 else 0
def rmZ' (z : List Qi) (s : List (List Qi)) (fz : List Qi) (f : List (List Qi)) (port : Int) : List Qi := okL (rmE z s fz f port) (z.set (port - 1).toNat (gv fz 1))
def rmR (z : List Qi) (s : List (List Qi)) (fz : List Qi) (f : List (List Qi)) (port : Int) : List (List Qi) := okL (rmE z s fz f port) (rmRM s f (port - 1).toNat z.length)
theorem rm_fx {z fz : List Qi} {s f : List (List Qi)} {port : Int} (h : fxE z fz port 1 ≠ 0) : rmE z s fz f port = fxE z fz port 1 := if_pos h
theorem rm_no {z fz : List Qi} {s f : List (List Qi)} {port : Int} (h : fxE z fz port 1 = 0) (h2 : gm f 0 1 = Qi.zero ∨ gm f 1 0 = Qi.zero ∨ rmD s f (port - 1).toNat = Qi.zero) : rmE z s fz f port = 6 := by rw [rmE, if_neg (fun k => k h), if_pos h2]
theorem rm_yes {z fz : List Qi} {s f : List (List Qi)} {port : Int} (h : fxE z fz port 1 = 0) (h2 : ¬ (gm f 0 1 = Qi.zero ∨ gm f 1 0 = Qi.zero ∨ rmD s f (port - 1).toNat = Qi.zero)) : rmE z s fz f port = 0 := by rw [rmE, if_neg (fun k => k h), if_neg h2]
theorem rm_shp (z : List Qi) (s : List (List Qi)) (fz : List Qi) (f : List (List Qi)) (port : Int) : Shp (rmR z s fz f port) (rmZ' z s fz f port).length (rmZ' z s fz f port).length ∧ (rmZ' z s fz f port).length ≤ z.length := by
 by_cases h : rmE z s fz f port = 0
 ·rw [rmR, rmZ', okL, okL, h, if_pos rfl, if_pos rfl, List.length_set]; exact ⟨Shp.tab, Nat.le_refl _⟩
 ·rw [rmR, rmZ', okL, okL, if_neg h, if_neg h]; exact ⟨⟨rfl, fun r hr => by cases hr⟩, Nat.zero_le _⟩
end
section
open Go Go.RowKit
section
variable {P : Program} {n : Nat} {E : Env} {H : Hp}
variable {d : Option Tmp} {t : TypeId} {pos : String} {af : Array Edge} {g : Option (Nat × Bool)}
theorem op_idxAB {x i : Operand} {B o q r s : Nat} {kd : IntKind} {j : Int} {e : TypeId} {len : Nat} (hU : ∀ w, (underlying t).run P w = .ok (.array len e) w) (hS : ∀ w, (sizeOf e).run P w = .ok s w)
  (hx : Has E x (PtrB B o)) (hi : Has E i (IntT kd j)) (hj : j = (q : Int)) (hl : q < len) (hr : o + q * s = r) {t' : TypeId} : OpTy P n E H ⟨d, .indexAddr t x i, t', pos, af, g⟩ (PtrB B r) :=
 op_pure fun a V w hs => by
  have e1 : a.eval x = .pointer (some ⟨B, o, none⟩) := hx n V a hs
  have ei : a.eval i = .int kd j := hi n V a hs
  subst hj hr
  exact ⟨.pointer (some ⟨B, o + q * s, none⟩), by simp [execOp, e1, ei, Instr.indexAt, Instr.sureAddr, asIntOf, Sem.run_bind, hU, hS, Result.andThen, hl, add_plain], rfl⟩
theorem op_s2a2 {x : Operand} {arr e : TypeId} {s : Nat} {Us Ws : List Ty} (hU : ∀ w, (underlying arr).run P w = .ok (.array 2 e) w) (hx : Has E x (SlT s [AggT Us, AggT Ws])) (hl : Us.length = s) {t' : TypeId} :
  OpTy P n E H ⟨d, .sliceToArrayPointer arr x, t', pos, af, g⟩ (PT (AggT (Us ++ Ws))) :=
 op_pure fun a V w hs => by
  obtain ⟨a0, cap, e1, hcap, h3⟩ := hx n V a hs
  obtain ⟨b, o, x0, ea, ⟨c, BT, fr, l2, l3⟩, c0, us, rfl, hu⟩ := h3 0 _ rfl
  obtain ⟨b', o', x1, ea', ⟨c', BT', fr', l2', l3'⟩, c1, ws, rfl, hw⟩ := h3 1 _ rfl
  subst ea
  obtain ⟨rfl, rfl⟩ : b = b' ∧ o = o' := by simpa using ea'
  obtain ⟨rfl, rfl, rfl⟩ : c = c' ∧ BT = BT' ∧ fr = fr' := by rw [l2] at l2'; simpa using l2'
  have hlu : us.length = s := hu.length.trans hl
  refine ⟨.pointer (some ⟨b, o, none⟩), by simp [execOp, e1, Instr.arrayAt, Sem.run_bind, hU, Result.andThen, pure, Sem.run], b, o, .agg (us ++ ws).toArray, rfl, ⟨c, BT, fr, l2, fun j u hj => ?_⟩, us ++ ws, rfl, hu.append hw⟩
  simp only [Value.cells, List.getElem?_toArray] at hj
  by_cases c2 : j < us.length
  ·rw [List.getElem?_append_left c2] at hj
   have := l3 j u (by simpa [Value.cells] using hj)
   rw [show o + j = o + 0 * s + j by omega]; exact this
  ·rw [List.getElem?_append_right (by omega)] at hj
   have := l3' (j - us.length) u (by simpa [Value.cells] using hj)
   rw [show o + j = o + 1 * s + (j - us.length) by omega]; exact this
end
end
section
open Go Go.RowKit
abbrev nb (x : Qi) : List Ty := [BoolT (decide (x.a < 0)), NatT x.a.natAbs, BoolT (decide (x.b < 0)), NatT x.b.natAbs, NatT (du x)]
abbrev nbZ : List Ty := [Is (.bool false), Is (.slice none 0 0), Is (.bool false), Is (.slice none 0 0), Is (.slice none 0 0)]
def fxC (f : List (List Qi)) : Nat → List Ty
 | 0 => nbZ ++ nbZ ++ (nbZ ++ nbZ)
 | 1 => nb (gm f 0 0) ++ nb (gm f 0 1) ++ (nbZ ++ nbZ)
 | _ => nb (gm f 0 0) ++ nb (gm f 0 1) ++ (nb (gm f 1 0) ++ nb (gm f 1 1))
theorem fxC_len (f : List (List Qi)) : ∀ i, (fxC f i).length = 20
 | 0 => rfl
 | 1 => rfl
 | _ + 2 => rfl
theorem fxC_next (f : List (List Qi)) : ∀ {i : Nat}, i < 2 → (fxC f i).take (0 + i * 10) ++ (nb (gm f i 0) ++ nb (gm f i 1)) ++ (fxC f i).drop (0 + i * 10 + 10) = fxC f (i + 1)
 | 0, _ => rfl
 | 1, _ => rfl
theorem row2 {f : List (List Qi)} (h : Shp f 2 2) {i : Nat} (hi : i < 2) : (f.getD i []).map NumT = [NumT (gm f i 0), NumT (gm f i 1)] := by
 have hl := h.row hi
 show (f.getD i []).map NumT = [NumT (gv (f.getD i []) 0), NumT (gv (f.getD i []) 1)]
 generalize f.getD i [] = l at hl
 match l, hl with
 | [a, b], _ => rfl
theorem fx_4 {z fz : List Qi} {port : Int} {x : Nat} (h : fz.length ≠ 2) : fxE z fz port x = 4 := if_pos h
theorem fx_1 {z fz : List Qi} {port : Int} {x : Nat} (h : fz.length = 2) (h2 : ¬ (1 ≤ port ∧ port ≤ (z.length : Int))) : fxE z fz port x = 1 := by rw [fxE, if_neg (fun k => k h), if_pos h2]
theorem fx_d {z fz : List Qi} {port : Int} {x : Nat} (h : fz.length = 2) (h2 : 1 ≤ port ∧ port ≤ (z.length : Int)) : fxE z fz port x = if gv fz (x - 1) = gv z (port - 1).toNat then 0 else 40 := by rw [fxE, if_neg (fun k => k h), if_neg (fun k => k h2)]
theorem c_fixture2 {fz : List Qi} {f : List (List Qi)} (h2 : fz.length = 2) (hf : Shp f 2 2) : Fun Tryz.prog 231 [NetT fz f] (TupT [AggT (fxC f 2), IntT .i64 0]) := by
 have hfl := hf.1
 refine Fun.intro Tryz.func231 rfl Tryz.ntmps231 rfl (fun cx => (ts (rn rfl (fG (Ht rfl)) fun B1 => (rn rfl (eW (Ts := [Is (.bool false), Is (.slice none 0 0), Is (.bool false), Is (.slice none 0 0), Is (.slice none 0 0), Is (.bool false), Is (.slice none 0 0), Is (.bool false), Is (.slice none 0 0), Is (.slice none 0 0), Is (.bool false), Is (.slice none 0 0), Is (.bool false), Is (.slice none 0 0), Is (.slice none 0 0), Is (.bool false), Is (.slice none 0 0), Is (.bool false), Is (.slice none 0 0), Is (.slice none 0 0)]) O_192 rfl (fun V => aW ⟨rfl, trivial⟩ (aW ⟨rfl, trivial⟩ (aW ⟨rfl, trivial⟩ (aW ⟨rfl, trivial⟩ (aW ⟨rfl, trivial⟩ (aW ⟨rfl, trivial⟩ (aW ⟨rfl, trivial⟩ (aW ⟨rfl, trivial⟩ (aW ⟨rfl, trivial⟩ (aW ⟨rfl, trivial⟩ (aW ⟨rfl, trivial⟩ (aW ⟨rfl, trivial⟩ (aW ⟨rfl, trivial⟩ (aW ⟨rfl, trivial⟩ (aW ⟨rfl, trivial⟩ (aW ⟨rfl, trivial⟩ (aW ⟨rfl, trivial⟩ (aW ⟨rfl, trivial⟩ (aW ⟨rfl, trivial⟩ (aW ⟨rfl, trivial⟩ (aG)))))))))))))))))))))) fun B2 => ?_))))
 refine ro rfl (cQ (cJ 0)) (eX (ts (rn rfl (eW (Ts := [Is (.bool false), Is (.slice none 0 0), Is (.bool false), Is (.slice none 0 0), Is (.slice none 0 0), Is (.bool false), Is (.slice none 0 0), Is (.bool false), Is (.slice none 0 0), Is (.slice none 0 0), Is (.bool false), Is (.slice none 0 0), Is (.bool false), Is (.slice none 0 0), Is (.slice none 0 0), Is (.bool false), Is (.slice none 0 0), Is (.bool false), Is (.slice none 0 0), Is (.slice none 0 0)]) O_192 rfl (fun V => aW ⟨rfl, trivial⟩ (aW ⟨rfl, trivial⟩ (aW ⟨rfl, trivial⟩ (aW ⟨rfl, trivial⟩ (aW ⟨rfl, trivial⟩ (aW ⟨rfl, trivial⟩ (aW ⟨rfl, trivial⟩ (aW ⟨rfl, trivial⟩ (aW ⟨rfl, trivial⟩ (aW ⟨rfl, trivial⟩ (aW ⟨rfl, trivial⟩ (aW ⟨rfl, trivial⟩ (aW ⟨rfl, trivial⟩ (aW ⟨rfl, trivial⟩ (aW ⟨rfl, trivial⟩ (aW ⟨rfl, trivial⟩ (aW ⟨rfl, trivial⟩ (aW ⟨rfl, trivial⟩ (aW ⟨rfl, trivial⟩ (aW ⟨rfl, trivial⟩ (aG)))))))))))))))))))))) fun B4 => ?_)))
 refine eX (cK (ts (ro rfl (eZ fa_30_0 (Ht rfl) rfl) (ro rfl (eY A_27 Z_27 (Ht rfl) (i := 0) rfl rfl) (ro rfl (dG U_27 (Ht rfl) len_map) (ro rfl (op_neqN (Ht rfl) (cJ 2)) (eX (T_condF (Ht rfl) (by simp [h2]) ?_))))))))
 refine cU (cK (ts (ro rfl (cX (cJ 0)) (eX (eG ?_)))))
 refine T_loop (fun (i : Nat) => i ≤ 2) (fun (i : Nat) => 2 - i) (fun (i : Nat) => [(1, PtrB B1 0), (2, PtrB B2 0), (4, PtrB B4 0), (11, NT .i64 i)]) (fun (i : Nat) => [box B1 30 [NumsT fz, NumM f], box B2 192 (nbZ ++ nbZ ++ (nbZ ++ nbZ)), box B4 192 (fxC f i)]) 0 (Nat.zero_le _)
  (aQ rfl (aQ rfl (aQ rfl (aQ rfl aX)))) (aU (box_of rfl) (aU (box_of rfl) (aU (box_of rfl) aY))) (fun i hi => ?_)
 refine ts (ro rfl (gX (Ht rfl) (cJ 2)) (eX (cK (dQ (Ht rfl) (fun hd => ?_) (fun hd => ?_)))))
 ·have hi2 : i < 2 := by simp only [decide_eq_true_eq] at hd; omega
  have hxl := fxC_len f i
  refine cU (cK (eG (ts (rm rfl (ra rfl (eX (cY (rm rfl (ro rfl (eZ fa_30_1 (Ht rfl) rfl) (ro rfl (eY A_28 Z_28 (Ht rfl) (i := 0) rfl rfl) (rm rfl (ro rfl (dZ U_28 Z_27 (Ht rfl) (Ht rfl) rfl (dY (dU (d := []) (by omega)))) (ro rfl (dJ A_27 Z_27 (Ht rfl)) (ro rfl (op_s2a2 U_191 (Has.to (Ht rfl) (slT_of (row2 hf hi2))) rfl) (ro rfl (dJ Tryz.isAgg191 Z_191 (Ht rfl)) (ro rfl (op_idxAB U_192 Z_191 (Ht rfl) (Ht rfl) rfl (by omega) rfl) ?_))))))))))))))))
  refine gQ Z_191 (Ht rfl) (Ht rfl) rfl (i := 2) rfl (by rw [hxl]; omega) rfl rfl ?_
  refine eX (T_blk (cY (ro rfl (dV (Ht rfl) (cJ 1) (by show _ < 9223372036854775808; first | omega | (simp only [lim]; omega))) (rm rfl (eX (fU (i + 1) hi2 (by omega) (aQ rfl (aQ rfl (aQ rfl (aQ rfl aX)))) (aU (box_of rfl) (aU (box_of rfl) (aU (box_of (fxC_next f hi2)) aY)))))))))
 ·obtain rfl : i = 2 := by simp only [decide_eq_false_iff_not] at hd; omega
  refine gV rfl (ts (ro rfl (eJ A_192 Z_192 (Ht rfl) (i := 2) rfl rfl rfl) (gQ Z_192 (Ht rfl) (Ht rfl) rfl (i := 1) rfl (aK rfl) rfl rfl (ro rfl (cQ (cJ 0)) (eX ?_)))))
  exact T_ret2 rfl (fK A_192 Z_192 rfl (i := 1) rfl rfl) (eU rfl)
theorem c_fixture0 {fz : List Qi} {f : List (List Qi)} (h2 : fz.length ≠ 2) : Fun Tryz.prog 231 [NetT fz f] (TupT [AggT (fxC [] 0), IntT .i64 4]) := by
 refine Fun.intro Tryz.func231 rfl Tryz.ntmps231 rfl (fun cx => (ts (rn rfl (fG (Ht rfl)) fun B1 => (rn rfl (eW (Ts := [Is (.bool false), Is (.slice none 0 0), Is (.bool false), Is (.slice none 0 0), Is (.slice none 0 0), Is (.bool false), Is (.slice none 0 0), Is (.bool false), Is (.slice none 0 0), Is (.slice none 0 0), Is (.bool false), Is (.slice none 0 0), Is (.bool false), Is (.slice none 0 0), Is (.slice none 0 0), Is (.bool false), Is (.slice none 0 0), Is (.bool false), Is (.slice none 0 0), Is (.slice none 0 0)]) O_192 rfl (fun V => aW ⟨rfl, trivial⟩ (aW ⟨rfl, trivial⟩ (aW ⟨rfl, trivial⟩ (aW ⟨rfl, trivial⟩ (aW ⟨rfl, trivial⟩ (aW ⟨rfl, trivial⟩ (aW ⟨rfl, trivial⟩ (aW ⟨rfl, trivial⟩ (aW ⟨rfl, trivial⟩ (aW ⟨rfl, trivial⟩ (aW ⟨rfl, trivial⟩ (aW ⟨rfl, trivial⟩ (aW ⟨rfl, trivial⟩ (aW ⟨rfl, trivial⟩ (aW ⟨rfl, trivial⟩ (aW ⟨rfl, trivial⟩ (aW ⟨rfl, trivial⟩ (aW ⟨rfl, trivial⟩ (aW ⟨rfl, trivial⟩ (aW ⟨rfl, trivial⟩ (aG)))))))))))))))))))))) fun B2 => ?_))))
 refine ro rfl (cQ (cJ 0)) (eX (ts (rn rfl (eW (Ts := [Is (.bool false), Is (.slice none 0 0), Is (.bool false), Is (.slice none 0 0), Is (.slice none 0 0), Is (.bool false), Is (.slice none 0 0), Is (.bool false), Is (.slice none 0 0), Is (.slice none 0 0), Is (.bool false), Is (.slice none 0 0), Is (.bool false), Is (.slice none 0 0), Is (.slice none 0 0), Is (.bool false), Is (.slice none 0 0), Is (.bool false), Is (.slice none 0 0), Is (.slice none 0 0)]) O_192 rfl (fun V => aW ⟨rfl, trivial⟩ (aW ⟨rfl, trivial⟩ (aW ⟨rfl, trivial⟩ (aW ⟨rfl, trivial⟩ (aW ⟨rfl, trivial⟩ (aW ⟨rfl, trivial⟩ (aW ⟨rfl, trivial⟩ (aW ⟨rfl, trivial⟩ (aW ⟨rfl, trivial⟩ (aW ⟨rfl, trivial⟩ (aW ⟨rfl, trivial⟩ (aW ⟨rfl, trivial⟩ (aW ⟨rfl, trivial⟩ (aW ⟨rfl, trivial⟩ (aW ⟨rfl, trivial⟩ (aW ⟨rfl, trivial⟩ (aW ⟨rfl, trivial⟩ (aW ⟨rfl, trivial⟩ (aW ⟨rfl, trivial⟩ (aW ⟨rfl, trivial⟩ (aG)))))))))))))))))))))) fun B4 => ?_)))
 refine eX (cK (ts (ro rfl (eZ fa_30_0 (Ht rfl) rfl) (ro rfl (eY A_27 Z_27 (Ht rfl) (i := 0) rfl rfl) (ro rfl (dG U_27 (Ht rfl) len_map) (ro rfl (op_neqN (Ht rfl) (cJ 2)) (eX (T_condT (Ht rfl) (by simp; omega) ?_))))))))
 refine ts (ro rfl (eJ A_192 Z_192 (Ht rfl) (i := 2) rfl rfl rfl) (gQ Z_192 (Ht rfl) (Ht rfl) rfl (i := 1) rfl (aK rfl) rfl rfl (ro rfl (cQ (cJ 4)) (eX ?_))))
 exact T_ret2 rfl (fK A_192 Z_192 rfl (i := 1) rfl rfl) (eU rfl)
theorem c_attach2 {z fz : List Qi} {s f : List (List Qi)} {port : Int} {x L : Nat} (h2 : fz.length = 2) (hf : Shp f 2 2) (hx : x = 1 ∨ x = 2) (hfz : FitL z L) (hff : FitL fz L) (hL : 1 ≤ L) (hLb : L ≤ 1000000) (hl : z.length ≤ 1000) : Fun Tryz.prog 149 [NetT z s, IntT .i64 port, NetT fz f, NT .i64 x] (TupT [AggT (fxC f 2), IntT .i64 (fxE z fz port x)]) := by
 refine Fun.intro Tryz.func149 rfl Tryz.ntmps149 rfl (fun cx => (ts (rn rfl (fG (Ht rfl)) fun B4 => (rn rfl (fG (Ht rfl)) fun B6 => (rn rfl (eW (Ts := [Is (.bool false), Is (.slice none 0 0), Is (.bool false), Is (.slice none 0 0), Is (.slice none 0 0), Is (.bool false), Is (.slice none 0 0), Is (.bool false), Is (.slice none 0 0), Is (.slice none 0 0), Is (.bool false), Is (.slice none 0 0), Is (.bool false), Is (.slice none 0 0), Is (.slice none 0 0), Is (.bool false), Is (.slice none 0 0), Is (.bool false), Is (.slice none 0 0), Is (.slice none 0 0)]) O_192 rfl (fun V => aW ⟨rfl, trivial⟩ (aW ⟨rfl, trivial⟩ (aW ⟨rfl, trivial⟩ (aW ⟨rfl, trivial⟩ (aW ⟨rfl, trivial⟩ (aW ⟨rfl, trivial⟩ (aW ⟨rfl, trivial⟩ (aW ⟨rfl, trivial⟩ (aW ⟨rfl, trivial⟩ (aW ⟨rfl, trivial⟩ (aW ⟨rfl, trivial⟩ (aW ⟨rfl, trivial⟩ (aW ⟨rfl, trivial⟩ (aW ⟨rfl, trivial⟩ (aW ⟨rfl, trivial⟩ (aW ⟨rfl, trivial⟩ (aW ⟨rfl, trivial⟩ (aW ⟨rfl, trivial⟩ (aW ⟨rfl, trivial⟩ (aW ⟨rfl, trivial⟩ (aG)))))))))))))))))))))) fun B8 => ?_)))))
 refine ro rfl (cQ (cJ 0)) (eX (ts (ro rfl (eJ A_30 Z_30 (Ht rfl) (i := 1) rfl rfl rfl) (ro rfl (cZ Tryz.call231 (c_fixture2 h2 hf) ⟨(Ht rfl), trivial⟩) (rm rfl (ro rfl (dK (Ht rfl) rfl) (ro rfl (dK (Ht rfl) rfl) (rn rfl (eW (Ts := [Is (.bool false), Is (.slice none 0 0), Is (.bool false), Is (.slice none 0 0), Is (.slice none 0 0), Is (.bool false), Is (.slice none 0 0), Is (.bool false), Is (.slice none 0 0), Is (.slice none 0 0), Is (.bool false), Is (.slice none 0 0), Is (.bool false), Is (.slice none 0 0), Is (.slice none 0 0), Is (.bool false), Is (.slice none 0 0), Is (.bool false), Is (.slice none 0 0), Is (.slice none 0 0)]) O_192 rfl (fun V => aW ⟨rfl, trivial⟩ (aW ⟨rfl, trivial⟩ (aW ⟨rfl, trivial⟩ (aW ⟨rfl, trivial⟩ (aW ⟨rfl, trivial⟩ (aW ⟨rfl, trivial⟩ (aW ⟨rfl, trivial⟩ (aW ⟨rfl, trivial⟩ (aW ⟨rfl, trivial⟩ (aW ⟨rfl, trivial⟩ (aW ⟨rfl, trivial⟩ (aW ⟨rfl, trivial⟩ (aW ⟨rfl, trivial⟩ (aW ⟨rfl, trivial⟩ (aW ⟨rfl, trivial⟩ (aW ⟨rfl, trivial⟩ (aW ⟨rfl, trivial⟩ (aW ⟨rfl, trivial⟩ (aW ⟨rfl, trivial⟩ (aW ⟨rfl, trivial⟩ (aG)))))))))))))))))))))) fun B10 => ?_))))))))
 refine gQ Z_192 (Ht rfl) (Ht rfl) rfl (i := 3) rfl (aK rfl) rfl rfl (ra rfl (eX (cK (eG (ts (rm rfl (ro rfl (op_neq (Ht rfl) cV) (ra rfl (eX (T_condF (Ht rfl) (by rfl) ?_))))))))))
 refine ts (ro rfl (eJ A_30 Z_30 (Ht rfl) (i := 0) rfl rfl rfl) (rm rfl (ro rfl (cZ Tryz.call171 c_has ⟨(Ht rfl), (Ht rfl), trivial⟩) (ro rfl (op_not (Ht rfl)) (ra rfl (eX (dQ (Ht rfl) (fun hb => ?_) (fun hb => ?_))))))))
 ·have he := fx_1 (x := x) h2 (by simpa only [Bool.not_eq_true', decide_eq_false_iff_not] using hb : ¬ (1 ≤ port ∧ port ≤ (z.length : Int)))
  refine ts (ro rfl (eJ A_192 Z_192 (Ht rfl) (i := 3) rfl rfl rfl) (gQ Z_192 (Ht rfl) (Ht rfl) rfl (i := 2) rfl (aK rfl) rfl rfl (ro rfl (cQ (cJ 1)) (eX (T_ret2 rfl (fK A_192 Z_192 rfl (i := 2) rfl rfl) (fX (eU rfl) ?_))))))
  exact (int_of he.symm)
 ·have hb2 : 1 ≤ port ∧ port ≤ (z.length : Int) := by simpa using hb
  have hd := fx_d (x := x) h2 hb2
  haveI g1 : FitC (gv fz (x - 1)) L := hff.get hL _
  haveI g2 : FitC (gv z (port - 1).toNat) L := hfz.get hL _
  refine cK (fZ (m := 12) (dp 6 rfl (eZ fa_30_0 (Ht rfl) rfl) (dq 29 0 rfl (eY A_27 Z_27 (Ht rfl) (i := 1) rfl rfl) (dp 3 rfl (cX (Ht rfl)) (dq 31 2 rfl (dW (Ht rfl) (cJ 1) (by omega) (by show _ < 9223372036854775808; first | omega | (simp only [lim]; omega))) (dqq 30 1 32 3 rfl (dZ U_27 Z_45 (Ht rfl) (Ht rfl) rfl (dY (dU (d := Qi.zero) (by omega)))) (dq 33 4 rfl (dJ A_45 Z_45 (Ht rfl)) (dp 4 rfl (eZ fa_30_0 (Ht rfl) rfl) (dq 35 6 rfl (eY A_27 Z_27 (Ht rfl) (i := 0) rfl rfl) ?_)))))))))
  refine dp 1 rfl (cX (Ht rfl)) (dq 37 8 rfl (op_sub (Ht rfl) cV (r := (((port - 1).toNat : Nat) : Int)) ((w64 (z := port - 1) (by omega)).trans (by omega))) ?_)
  refine dqq 36 7 38 9 rfl (dZ U_27 Z_45 (Ht rfl) (Ht rfl) rfl (dY (dU (d := Qi.zero) (by omega)))) (dq 39 10 rfl (dJ A_45 Z_45 (Ht rfl)) (fV mixed rfl (by kernel_rfl) (aJ (aJ (aJ (aJ (aJ (aJ (aJ (aJ (aJ (aJ (aJ (aJ (aV (ro rfl (cZ Tryz.call109 (c_Same (x := gv fz (x - 1)) (y := gv z (port - 1).toNat) (L := L) (M := L) (by omega) (by omega)) ⟨(Ht rfl), (Ht rfl), trivial⟩) (ro rfl (op_not (Ht rfl)) (ra rfl (eX (dQ (Ht rfl) (fun hc => ?_) (fun hc => ?_)))))))))))))))))))))
  ·have he : fxE z fz port x = 40 := by rw [hd, if_neg (by simpa using hc)]
   refine ts (ro rfl (eJ A_192 Z_192 (Ht rfl) (i := 3) rfl rfl rfl) (gQ Z_192 (Ht rfl) (Ht rfl) rfl (i := 2) rfl (aK rfl) rfl rfl (ro rfl (cQ (cJ 40)) (eX (T_ret2 rfl (fK A_192 Z_192 rfl (i := 2) rfl rfl) (fX (eU rfl) ?_))))))
   exact (int_of he.symm)
  ·have he : fxE z fz port x = 0 := by rw [hd, if_pos (by simpa using hc)]
   refine cU (T_blk (ts (ro rfl (eJ A_192 Z_192 (Ht rfl) (i := 3) rfl rfl rfl) (gQ Z_192 (Ht rfl) (Ht rfl) rfl (i := 2) rfl (aK rfl) rfl rfl (ro rfl (cQ (cJ 0)) (eX (T_ret2 rfl (fK A_192 Z_192 rfl (i := 2) rfl rfl) (fX (eU rfl) ?_))))))))
   exact (int_of he.symm)
theorem c_attach0 {z fz : List Qi} {s f : List (List Qi)} {port : Int} {x : Nat} (h2 : fz.length ≠ 2) : Fun Tryz.prog 149 [NetT z s, IntT .i64 port, NetT fz f, NT .i64 x] (TupT [AggT (fxC [] 0), IntT .i64 4]) := by
 refine Fun.intro Tryz.func149 rfl Tryz.ntmps149 rfl (fun cx => (ts (rn rfl (fG (Ht rfl)) fun B4 => (rn rfl (fG (Ht rfl)) fun B6 => (rn rfl (eW (Ts := [Is (.bool false), Is (.slice none 0 0), Is (.bool false), Is (.slice none 0 0), Is (.slice none 0 0), Is (.bool false), Is (.slice none 0 0), Is (.bool false), Is (.slice none 0 0), Is (.slice none 0 0), Is (.bool false), Is (.slice none 0 0), Is (.bool false), Is (.slice none 0 0), Is (.slice none 0 0), Is (.bool false), Is (.slice none 0 0), Is (.bool false), Is (.slice none 0 0), Is (.slice none 0 0)]) O_192 rfl (fun V => aW ⟨rfl, trivial⟩ (aW ⟨rfl, trivial⟩ (aW ⟨rfl, trivial⟩ (aW ⟨rfl, trivial⟩ (aW ⟨rfl, trivial⟩ (aW ⟨rfl, trivial⟩ (aW ⟨rfl, trivial⟩ (aW ⟨rfl, trivial⟩ (aW ⟨rfl, trivial⟩ (aW ⟨rfl, trivial⟩ (aW ⟨rfl, trivial⟩ (aW ⟨rfl, trivial⟩ (aW ⟨rfl, trivial⟩ (aW ⟨rfl, trivial⟩ (aW ⟨rfl, trivial⟩ (aW ⟨rfl, trivial⟩ (aW ⟨rfl, trivial⟩ (aW ⟨rfl, trivial⟩ (aW ⟨rfl, trivial⟩ (aW ⟨rfl, trivial⟩ (aG)))))))))))))))))))))) fun B8 => ?_)))))
 refine ro rfl (cQ (cJ 0)) (eX (ts (ro rfl (eJ A_30 Z_30 (Ht rfl) (i := 1) rfl rfl rfl) (ro rfl (cZ Tryz.call231 (c_fixture0 h2) ⟨(Ht rfl), trivial⟩) (rm rfl (ro rfl (dK (Ht rfl) rfl) (ro rfl (dK (Ht rfl) rfl) (rn rfl (eW (Ts := [Is (.bool false), Is (.slice none 0 0), Is (.bool false), Is (.slice none 0 0), Is (.slice none 0 0), Is (.bool false), Is (.slice none 0 0), Is (.bool false), Is (.slice none 0 0), Is (.slice none 0 0), Is (.bool false), Is (.slice none 0 0), Is (.bool false), Is (.slice none 0 0), Is (.slice none 0 0), Is (.bool false), Is (.slice none 0 0), Is (.bool false), Is (.slice none 0 0), Is (.slice none 0 0)]) O_192 rfl (fun V => aW ⟨rfl, trivial⟩ (aW ⟨rfl, trivial⟩ (aW ⟨rfl, trivial⟩ (aW ⟨rfl, trivial⟩ (aW ⟨rfl, trivial⟩ (aW ⟨rfl, trivial⟩ (aW ⟨rfl, trivial⟩ (aW ⟨rfl, trivial⟩ (aW ⟨rfl, trivial⟩ (aW ⟨rfl, trivial⟩ (aW ⟨rfl, trivial⟩ (aW ⟨rfl, trivial⟩ (aW ⟨rfl, trivial⟩ (aW ⟨rfl, trivial⟩ (aW ⟨rfl, trivial⟩ (aW ⟨rfl, trivial⟩ (aW ⟨rfl, trivial⟩ (aW ⟨rfl, trivial⟩ (aW ⟨rfl, trivial⟩ (aW ⟨rfl, trivial⟩ (aG)))))))))))))))))))))) fun B10 => ?_))))))))
 refine gQ Z_192 (Ht rfl) (Ht rfl) rfl (i := 3) rfl (aK rfl) rfl rfl (ra rfl (eX (cK (eG (ts (rm rfl (ro rfl (op_neq (Ht rfl) cV) (ra rfl (eX (T_condT (Ht rfl) (by rfl) ?_))))))))))
 refine ts (ro rfl (eJ A_192 Z_192 (Ht rfl) (i := 3) rfl rfl rfl) (rm rfl (gQ Z_192 (Ht rfl) (Ht rfl) rfl (i := 2) rfl (aK rfl) rfl rfl (ra rfl (eX ?_)))))
 exact T_ret2 rfl (fK A_192 Z_192 rfl (i := 2) rfl rfl) (eU rfl)
theorem c_ratios0 {z : List Qi} {s : List (List Qi)} {p : Nat} {e : Qi} {L M : Nat} (hs : Shp s z.length z.length) (hp : p < z.length) (hz : z.length ≤ 1000) (hf : FitM s L) (he2 : FitC e M) (hL : 1 ≤ L) (hLb : L + 3 * M + 2 ≤ 1000000) (he : e = Qi.zero) : Fun Tryz.prog 150 [NetT z s, NT .i64 p, NumT e] (TupT [NumsT [], NumsT [], IntT .i64 6]) := by
 have hsl := hs.1
 have hspr := hs.row hp
 haveI := he2
 refine Fun.intro Tryz.func150 rfl Tryz.ntmps150 rfl (fun cx => (ts (rn rfl (fG (Ht rfl)) fun B3 => (rn rfl (fG (Ht rfl)) fun B5 => (ro rfl (cQ cV) (ro rfl (cQ cV) (ro rfl (cQ (cJ 0)) (eX (cK (cK (T_row 45 5 (T_row 45 5 (cY (ro rfl (eZ fa_30_1 (Ht rfl) rfl) (ro rfl (eY A_28 Z_28 (Ht rfl) (i := 0) rfl rfl) (ro rfl (dG U_28 (Ht rfl) (by rw [List.length_map, hsl])) ?_))))))))))))))))
 refine ro rfl (cX (cJ 0)) (eX (eG ?_))
 refine T_loop3 (fun (i : Nat) (vU : Value) (vV : Value) => i = 0) (fun (i : Nat) (vU : Value) (vV : Value) => z.length - i) (fun (i : Nat) (vU : Value) (vV : Value) => [(1, NT .i64 p), (3, PtrB B3 0), (5, PtrB B5 0), (6, Is vU), (7, Is vV), (8, NT .i64 0), (16, NT .i64 z.length), (17, NT .i64 i)]) (fun (i : Nat) (vU : Value) (vV : Value) => [box B3 30 [NumsT z, NumM s], box B5 45 (nb e), rowO 45 5 vU ((tab i (fun i => gm s i p / e)).map NumT), rowO 45 5 vV ((tab i (fun i => gm s p i / e)).map NumT)]) 0 _ _ rfl
  (aQ rfl (aQ rfl (aQ rfl (aQ rfl (aQ rfl (aQ rfl (aQ rfl (aQ rfl aX)))))))) (aU (box_of rfl) (aU (box_of rfl) (aU (rowO_of rfl) (aU (rowO_of rfl) aY)))) (fun i vU vV hi => ?_)
 refine ts (ro rfl (gX (Ht rfl) (Ht rfl)) (eX (cK (dQ (Ht rfl) (fun hd => ?_) (fun hd => ?_)))))
 ·have hin : i < z.length := by simp only [decide_eq_true_eq] at hd; omega
  have hsr := hs.row hin
  haveI g1 : FitC (gm s i p) L := hf.get hL _ _
  haveI g2 : FitC (gm s p i) L := hf.get hL _ _
  refine cU (cK (eG (ts (rm rfl (ra rfl (eX (cK (Y.D_start (m := 16) [] (bY (Ei := [(3, _)]) rfl rfl (bQ (bJ rfl rfl) bX) rfl rfl (dX rfl (eZ fa_30_1 (Ht rfl) rfl)) (bY (Ei := [(21, _)]) rfl rfl (bQ (bZ 0 rfl rfl) bX) rfl rfl (dX rfl (eY A_28 Z_28 (Ht rfl) (i := 0) rfl rfl)) (bY (Ei := [(9, _)]) rfl rfl (bQ (bJ rfl rfl) bX) rfl rfl (dX rfl (cX (Ht rfl))) (bY (Ei := [(22, _), (23, _)]) rfl rfl (bQ (bZ 1 rfl rfl) (bQ (bZ 2 rfl rfl) bX)) rfl rfl (dX rfl (dZ U_28 Z_27 (Ht rfl) (Ht rfl) rfl (dY (dU (d := []) (by omega))))) ?_))))))))))))
  refine bY (Ei := [(24, _)]) rfl rfl (bQ (bZ 3 rfl rfl) bX) rfl rfl (dX rfl (dJ A_27 Z_27 (Ht rfl))) (bY (Ei := [(1, _)]) rfl rfl (bQ (bJ rfl rfl) bX) rfl rfl (dX rfl (cX (Ht rfl))) (bY (Ei := [(25, _), (26, _)]) rfl rfl (bQ (bZ 4 rfl rfl) (bQ (bZ 5 rfl rfl) bX)) rfl rfl (dX rfl (dZ U_27 Z_45 (Ht rfl) (Ht rfl) rfl (dY (dU (d := Qi.zero) (by omega))))) (bY (Ei := [(27, _)]) rfl rfl (bQ (bZ 6 rfl rfl) bX) rfl rfl (dX rfl (dJ A_45 Z_45 (Ht rfl))) ?_)))
  refine bY (Ei := [(28, _)]) rfl rfl (bQ (bZ 7 rfl rfl) bX) rfl rfl (dX rfl (op_iface mkif_45 (Ht rfl))) (bY (Ei := [(5, _)]) rfl rfl (bQ (bJ rfl rfl) bX) rfl rfl (dX rfl (eJ A_45 Z_45 (Ht rfl) (i := 1) rfl rfl rfl)) (bY (Ei := [(29, _), (30, _)]) rfl rfl (bQ (bZ 8 rfl rfl) (bQ (bZ 9 rfl rfl) bX)) rfl rfl (dX rfl (op_invoke meth_45_Div K_59 (c_Div (x := gm s i p) (y := e) (L := L) (M := M) (by omega)) (Ht rfl) ⟨(Ht rfl), trivial⟩)) (bY (Ei := [(31, _)]) rfl rfl (bQ (bZ 10 rfl rfl) bX) rfl rfl (dX rfl (cX (Ht rfl))) ?_)))
  refine bY (Ei := [(20, _)]) rfl rfl (bQ (bZ 11 rfl rfl) bX) rfl rfl (dX rfl (dK (Ht rfl) rfl)) (bY (Ei := [(20, _)]) rfl rfl (bQ (bZ 11 rfl rfl) bX) rfl rfl (dX rfl (dK (Ht rfl) rfl)) (Y.D_newp (Ei := []) (fun bb => box bb 45 (nb (gm s i p / e))) 15 rfl rfl rfl bX rfl rfl (by kernel_rfl) (eW (Ts := [Is (.bool false), Is (.slice none 0 0), Is (.bool false), Is (.slice none 0 0), Is (.slice none 0 0)]) O_45 rfl (fun V => aW ⟨rfl, trivial⟩ (aW ⟨rfl, trivial⟩ (aW ⟨rfl, trivial⟩ (aW ⟨rfl, trivial⟩ (aW ⟨rfl, trivial⟩ (aG))))))) ?_))
  refine Y.D_putN (Ei := [(32, _)]) 14 rfl rfl rfl rfl rfl rfl (bQ (bZ 12 rfl rfl) bX) (fun bb => P_stA Z_45 (Ht rfl) (Ht rfl) rfl (i := 0) rfl (aK rfl) rfl rfl) (Y.D_done mixed rfl (by kernel_rfl) rfl (by simp [Y.okP]) rfl rfl (bU (bU (bU (bU (bU (bU (bU (bU (bU (bU (bU (bU (bU (bU (Y.F_newp (fun B10 => Y.F_putN (Y.F_nil ?_))))))))))))))))))
  refine ra rfl (eX (cK (gJ (i := 4) (tt := 10) rfl rfl frz_ptr (T_keep [0, 1, 2, 3] rfl (by decide) (Y.D_start (m := 16) [] (bY (Ei := [(3, _)]) rfl rfl (bQ (bJ rfl rfl) bX) rfl rfl (dX rfl (eZ fa_30_1 (Ht rfl) rfl)) (bY (Ei := [(35, _)]) rfl rfl (bQ (bZ 0 rfl rfl) bX) rfl rfl (dX rfl (eY A_28 Z_28 (Ht rfl) (i := 0) rfl rfl)) (bY (Ei := [(1, _)]) rfl rfl (bQ (bJ rfl rfl) bX) rfl rfl (dX rfl (cX (Ht rfl))) (bY (Ei := [(36, _), (37, _)]) rfl rfl (bQ (bZ 1 rfl rfl) (bQ (bZ 2 rfl rfl) bX)) rfl rfl (dX rfl (dZ U_28 Z_27 (Ht rfl) (Ht rfl) rfl (dY (dU (d := []) (by omega))))) ?_)))))))))
  refine bY (Ei := [(38, _)]) rfl rfl (bQ (bZ 3 rfl rfl) bX) rfl rfl (dX rfl (dJ A_27 Z_27 (Ht rfl))) (bY (Ei := [(9, _)]) rfl rfl (bQ (bJ rfl rfl) bX) rfl rfl (dX rfl (cX (Ht rfl))) (bY (Ei := [(39, _), (40, _)]) rfl rfl (bQ (bZ 4 rfl rfl) (bQ (bZ 5 rfl rfl) bX)) rfl rfl (dX rfl (dZ U_27 Z_45 (Ht rfl) (Ht rfl) rfl (dY (dU (d := Qi.zero) (by omega))))) (bY (Ei := [(41, _)]) rfl rfl (bQ (bZ 6 rfl rfl) bX) rfl rfl (dX rfl (dJ A_45 Z_45 (Ht rfl))) ?_)))
  refine bY (Ei := [(42, _)]) rfl rfl (bQ (bZ 7 rfl rfl) bX) rfl rfl (dX rfl (op_iface mkif_45 (Ht rfl))) (bY (Ei := [(5, _)]) rfl rfl (bQ (bJ rfl rfl) bX) rfl rfl (dX rfl (eJ A_45 Z_45 (Ht rfl) (i := 1) rfl rfl rfl)) (bY (Ei := [(43, _), (44, _)]) rfl rfl (bQ (bZ 8 rfl rfl) (bQ (bZ 9 rfl rfl) bX)) rfl rfl (dX rfl (op_invoke meth_45_Div K_59 (c_Div (x := gm s p i) (y := e) (L := L) (M := M) (by omega)) (Ht rfl) ⟨(Ht rfl), trivial⟩)) (bY (Ei := [(45, _)]) rfl rfl (bQ (bZ 10 rfl rfl) bX) rfl rfl (dX rfl (cX (Ht rfl))) ?_)))
  refine bY (Ei := [(34, _)]) rfl rfl (bQ (bZ 11 rfl rfl) bX) rfl rfl (dX rfl (dK (Ht rfl) rfl)) (bY (Ei := [(34, _)]) rfl rfl (bQ (bZ 11 rfl rfl) bX) rfl rfl (dX rfl (dK (Ht rfl) rfl)) (Y.D_newp (Ei := []) (fun bb => box bb 45 (nb (gm s p i / e))) 15 rfl rfl rfl bX rfl rfl (by kernel_rfl) (eW (Ts := [Is (.bool false), Is (.slice none 0 0), Is (.bool false), Is (.slice none 0 0), Is (.slice none 0 0)]) O_45 rfl (fun V => aW ⟨rfl, trivial⟩ (aW ⟨rfl, trivial⟩ (aW ⟨rfl, trivial⟩ (aW ⟨rfl, trivial⟩ (aW ⟨rfl, trivial⟩ (aG))))))) ?_))
  refine Y.D_putN (Ei := [(46, _)]) 14 rfl rfl rfl rfl rfl rfl (bQ (bZ 12 rfl rfl) bX) (fun bb => P_stA Z_45 (Ht rfl) (Ht rfl) rfl (i := 0) rfl (aK rfl) rfl rfl) (Y.D_done mixed rfl (by kernel_rfl) rfl (by simp [Y.okP]) rfl rfl (bU (bU (bU (bU (bU (bU (bU (bU (bU (bU (bU (bU (bU (bU (Y.F_newp (fun B12 => Y.F_putN (Y.F_nil ?_))))))))))))))))))
  refine ra rfl (eX (cK (cK (gJ (i := 4) (tt := 12) rfl rfl frz_ptr (T_keep [0, 1, 2, 3] rfl (by decide) (cY (rm rfl (ro rfl (op_neq (Ht rfl) cV) (rm rfl (fQ rfl rfl (eK rfl rfl (Ht rfl) (fun h => cX (Ht rfl))) (fQ rfl rfl (eK rfl rfl (Ht rfl) (fun h => op_neq (fJ rfl h) cV)) (ro rfl (op_or (Ht rfl) (fun h => (fJ rfl h))) (eX (T_condT (Ht rfl) (by simp [he]) ?_))))))))))))))
  refine ts (ro rfl (cQ cV) (ro rfl (cQ cV) (ro rfl (cQ (cJ 6)) (eX (T_ret3 rfl (fX (eU rfl) ?_) (fX (eU rfl) ?_) (eU rfl))))))
  ·exact nil_slT
  ·exact nil_slT
 ·exact absurd hd (by simp; omega)
theorem c_ratios1 {z : List Qi} {s : List (List Qi)} {p : Nat} {e : Qi} {L M : Nat} (hs : Shp s z.length z.length) (hp : p < z.length) (hz : z.length ≤ 1000) (hf : FitM s L) (he2 : FitC e M) (hL : 1 ≤ L) (hLb : L + 3 * M + 2 ≤ 1000000) (he : e ≠ Qi.zero) : Fun Tryz.prog 150 [NetT z s, NT .i64 p, NumT e] (TupT [NumsT (tab z.length (fun i => gm s i p / e)), NumsT (tab z.length (fun i => gm s p i / e)), IntT .i64 0]) := by
 have hsl := hs.1
 have hspr := hs.row hp
 haveI := he2
 refine Fun.intro Tryz.func150 rfl Tryz.ntmps150 rfl (fun cx => (ts (rn rfl (fG (Ht rfl)) fun B3 => (rn rfl (fG (Ht rfl)) fun B5 => (ro rfl (cQ cV) (ro rfl (cQ cV) (ro rfl (cQ (cJ 0)) (eX (cK (cK (T_row 45 5 (T_row 45 5 (cY (ro rfl (eZ fa_30_1 (Ht rfl) rfl) (ro rfl (eY A_28 Z_28 (Ht rfl) (i := 0) rfl rfl) (ro rfl (dG U_28 (Ht rfl) (by rw [List.length_map, hsl])) ?_))))))))))))))))
 refine ro rfl (cX (cJ 0)) (eX (eG ?_))
 refine T_loop3 (fun (i : Nat) (vU : Value) (vV : Value) => i ≤ z.length) (fun (i : Nat) (vU : Value) (vV : Value) => z.length - i) (fun (i : Nat) (vU : Value) (vV : Value) => [(1, NT .i64 p), (3, PtrB B3 0), (5, PtrB B5 0), (6, Is vU), (7, Is vV), (8, NT .i64 0), (16, NT .i64 z.length), (17, NT .i64 i)]) (fun (i : Nat) (vU : Value) (vV : Value) => [box B3 30 [NumsT z, NumM s], box B5 45 (nb e), rowO 45 5 vU ((tab i (fun i => gm s i p / e)).map NumT), rowO 45 5 vV ((tab i (fun i => gm s p i / e)).map NumT)]) 0 _ _ (Nat.zero_le _)
  (aQ rfl (aQ rfl (aQ rfl (aQ rfl (aQ rfl (aQ rfl (aQ rfl (aQ rfl aX)))))))) (aU (box_of rfl) (aU (box_of rfl) (aU (rowO_of rfl) (aU (rowO_of rfl) aY)))) (fun i vU vV hi => ?_)
 refine ts (ro rfl (gX (Ht rfl) (Ht rfl)) (eX (cK (dQ (Ht rfl) (fun hd => ?_) (fun hd => ?_)))))
 ·have hin : i < z.length := by simp only [decide_eq_true_eq] at hd; omega
  have hsr := hs.row hin
  haveI g1 : FitC (gm s i p) L := hf.get hL _ _
  haveI g2 : FitC (gm s p i) L := hf.get hL _ _
  refine cU (cK (eG (ts (rm rfl (ra rfl (eX (cK (Y.D_start (m := 16) [] (bY (Ei := [(3, _)]) rfl rfl (bQ (bJ rfl rfl) bX) rfl rfl (dX rfl (eZ fa_30_1 (Ht rfl) rfl)) (bY (Ei := [(21, _)]) rfl rfl (bQ (bZ 0 rfl rfl) bX) rfl rfl (dX rfl (eY A_28 Z_28 (Ht rfl) (i := 0) rfl rfl)) (bY (Ei := [(9, _)]) rfl rfl (bQ (bJ rfl rfl) bX) rfl rfl (dX rfl (cX (Ht rfl))) (bY (Ei := [(22, _), (23, _)]) rfl rfl (bQ (bZ 1 rfl rfl) (bQ (bZ 2 rfl rfl) bX)) rfl rfl (dX rfl (dZ U_28 Z_27 (Ht rfl) (Ht rfl) rfl (dY (dU (d := []) (by omega))))) ?_))))))))))))
  refine bY (Ei := [(24, _)]) rfl rfl (bQ (bZ 3 rfl rfl) bX) rfl rfl (dX rfl (dJ A_27 Z_27 (Ht rfl))) (bY (Ei := [(1, _)]) rfl rfl (bQ (bJ rfl rfl) bX) rfl rfl (dX rfl (cX (Ht rfl))) (bY (Ei := [(25, _), (26, _)]) rfl rfl (bQ (bZ 4 rfl rfl) (bQ (bZ 5 rfl rfl) bX)) rfl rfl (dX rfl (dZ U_27 Z_45 (Ht rfl) (Ht rfl) rfl (dY (dU (d := Qi.zero) (by omega))))) (bY (Ei := [(27, _)]) rfl rfl (bQ (bZ 6 rfl rfl) bX) rfl rfl (dX rfl (dJ A_45 Z_45 (Ht rfl))) ?_)))
  refine bY (Ei := [(28, _)]) rfl rfl (bQ (bZ 7 rfl rfl) bX) rfl rfl (dX rfl (op_iface mkif_45 (Ht rfl))) (bY (Ei := [(5, _)]) rfl rfl (bQ (bJ rfl rfl) bX) rfl rfl (dX rfl (eJ A_45 Z_45 (Ht rfl) (i := 1) rfl rfl rfl)) (bY (Ei := [(29, _), (30, _)]) rfl rfl (bQ (bZ 8 rfl rfl) (bQ (bZ 9 rfl rfl) bX)) rfl rfl (dX rfl (op_invoke meth_45_Div K_59 (c_Div (x := gm s i p) (y := e) (L := L) (M := M) (by omega)) (Ht rfl) ⟨(Ht rfl), trivial⟩)) (bY (Ei := [(31, _)]) rfl rfl (bQ (bZ 10 rfl rfl) bX) rfl rfl (dX rfl (cX (Ht rfl))) ?_)))
  refine bY (Ei := [(20, _)]) rfl rfl (bQ (bZ 11 rfl rfl) bX) rfl rfl (dX rfl (dK (Ht rfl) rfl)) (bY (Ei := [(20, _)]) rfl rfl (bQ (bZ 11 rfl rfl) bX) rfl rfl (dX rfl (dK (Ht rfl) rfl)) (Y.D_newp (Ei := []) (fun bb => box bb 45 (nb (gm s i p / e))) 15 rfl rfl rfl bX rfl rfl (by kernel_rfl) (eW (Ts := [Is (.bool false), Is (.slice none 0 0), Is (.bool false), Is (.slice none 0 0), Is (.slice none 0 0)]) O_45 rfl (fun V => aW ⟨rfl, trivial⟩ (aW ⟨rfl, trivial⟩ (aW ⟨rfl, trivial⟩ (aW ⟨rfl, trivial⟩ (aW ⟨rfl, trivial⟩ (aG))))))) ?_))
  refine Y.D_putN (Ei := [(32, _)]) 14 rfl rfl rfl rfl rfl rfl (bQ (bZ 12 rfl rfl) bX) (fun bb => P_stA Z_45 (Ht rfl) (Ht rfl) rfl (i := 0) rfl (aK rfl) rfl rfl) (Y.D_done mixed rfl (by kernel_rfl) rfl (by simp [Y.okP]) rfl rfl (bU (bU (bU (bU (bU (bU (bU (bU (bU (bU (bU (bU (bU (bU (Y.F_newp (fun B10 => Y.F_putN (Y.F_nil ?_))))))))))))))))))
  refine ra rfl (eX (cK (gJ (i := 4) (tt := 10) rfl rfl frz_ptr (T_keep [0, 1, 2, 3] rfl (by decide) (Y.D_start (m := 16) [] (bY (Ei := [(3, _)]) rfl rfl (bQ (bJ rfl rfl) bX) rfl rfl (dX rfl (eZ fa_30_1 (Ht rfl) rfl)) (bY (Ei := [(35, _)]) rfl rfl (bQ (bZ 0 rfl rfl) bX) rfl rfl (dX rfl (eY A_28 Z_28 (Ht rfl) (i := 0) rfl rfl)) (bY (Ei := [(1, _)]) rfl rfl (bQ (bJ rfl rfl) bX) rfl rfl (dX rfl (cX (Ht rfl))) (bY (Ei := [(36, _), (37, _)]) rfl rfl (bQ (bZ 1 rfl rfl) (bQ (bZ 2 rfl rfl) bX)) rfl rfl (dX rfl (dZ U_28 Z_27 (Ht rfl) (Ht rfl) rfl (dY (dU (d := []) (by omega))))) ?_)))))))))
  refine bY (Ei := [(38, _)]) rfl rfl (bQ (bZ 3 rfl rfl) bX) rfl rfl (dX rfl (dJ A_27 Z_27 (Ht rfl))) (bY (Ei := [(9, _)]) rfl rfl (bQ (bJ rfl rfl) bX) rfl rfl (dX rfl (cX (Ht rfl))) (bY (Ei := [(39, _), (40, _)]) rfl rfl (bQ (bZ 4 rfl rfl) (bQ (bZ 5 rfl rfl) bX)) rfl rfl (dX rfl (dZ U_27 Z_45 (Ht rfl) (Ht rfl) rfl (dY (dU (d := Qi.zero) (by omega))))) (bY (Ei := [(41, _)]) rfl rfl (bQ (bZ 6 rfl rfl) bX) rfl rfl (dX rfl (dJ A_45 Z_45 (Ht rfl))) ?_)))
  refine bY (Ei := [(42, _)]) rfl rfl (bQ (bZ 7 rfl rfl) bX) rfl rfl (dX rfl (op_iface mkif_45 (Ht rfl))) (bY (Ei := [(5, _)]) rfl rfl (bQ (bJ rfl rfl) bX) rfl rfl (dX rfl (eJ A_45 Z_45 (Ht rfl) (i := 1) rfl rfl rfl)) (bY (Ei := [(43, _), (44, _)]) rfl rfl (bQ (bZ 8 rfl rfl) (bQ (bZ 9 rfl rfl) bX)) rfl rfl (dX rfl (op_invoke meth_45_Div K_59 (c_Div (x := gm s p i) (y := e) (L := L) (M := M) (by omega)) (Ht rfl) ⟨(Ht rfl), trivial⟩)) (bY (Ei := [(45, _)]) rfl rfl (bQ (bZ 10 rfl rfl) bX) rfl rfl (dX rfl (cX (Ht rfl))) ?_)))
  refine bY (Ei := [(34, _)]) rfl rfl (bQ (bZ 11 rfl rfl) bX) rfl rfl (dX rfl (dK (Ht rfl) rfl)) (bY (Ei := [(34, _)]) rfl rfl (bQ (bZ 11 rfl rfl) bX) rfl rfl (dX rfl (dK (Ht rfl) rfl)) (Y.D_newp (Ei := []) (fun bb => box bb 45 (nb (gm s p i / e))) 15 rfl rfl rfl bX rfl rfl (by kernel_rfl) (eW (Ts := [Is (.bool false), Is (.slice none 0 0), Is (.bool false), Is (.slice none 0 0), Is (.slice none 0 0)]) O_45 rfl (fun V => aW ⟨rfl, trivial⟩ (aW ⟨rfl, trivial⟩ (aW ⟨rfl, trivial⟩ (aW ⟨rfl, trivial⟩ (aW ⟨rfl, trivial⟩ (aG))))))) ?_))
  refine Y.D_putN (Ei := [(46, _)]) 14 rfl rfl rfl rfl rfl rfl (bQ (bZ 12 rfl rfl) bX) (fun bb => P_stA Z_45 (Ht rfl) (Ht rfl) rfl (i := 0) rfl (aK rfl) rfl rfl) (Y.D_done mixed rfl (by kernel_rfl) rfl (by simp [Y.okP]) rfl rfl (bU (bU (bU (bU (bU (bU (bU (bU (bU (bU (bU (bU (bU (bU (Y.F_newp (fun B12 => Y.F_putN (Y.F_nil ?_))))))))))))))))))
  refine ra rfl (eX (cK (cK (gJ (i := 4) (tt := 12) rfl rfl frz_ptr (T_keep [0, 1, 2, 3] rfl (by decide) (cY (rm rfl (ro rfl (op_neq (Ht rfl) cV) (rm rfl (fQ rfl rfl (eK rfl rfl (Ht rfl) (fun h => cX (Ht rfl))) (fQ rfl rfl (eK rfl rfl (Ht rfl) (fun h => op_neq (fJ rfl h) cV)) (ro rfl (op_or (Ht rfl) (fun h => (fJ rfl h))) (eX (T_condF (Ht rfl) (by simp [he]) ?_))))))))))))))
  refine cU (Y.D_startA (m := 7) [] 3 2 rfl rfl (bY (Ei := [(6, _)]) rfl rfl (bQ (bJ rfl rfl) bX) rfl rfl (dX rfl (cX (Ht rfl))) (bY (Ei := [(10, _)]) rfl rfl (bQ (bJ rfl rfl) bX) rfl rfl (dX rfl (dJ A_45 Z_45 (Ht rfl))) (bY (Ei := [(55, _)]) rfl rfl (bQ (bZ 1 rfl rfl) bX) rfl rfl (dX rfl (op_bslice (xs := [.tmp 55]) U_27 Z_45 O_45 (cW (Ht rfl) cG) rfl rfl rfl)) (Y.D_app (Ei := [(54, _), (56, _)]) rfl rfl rfl rfl (bQ (bZ 0 rfl rfl) (bQ (bZ 2 rfl rfl) bX)) rfl (A_append (inf := Tryz.t45) und_27 info_45 rfl rfl rfl (Ht rfl) (Ht rfl) (by simp) (fun T hT => by simp at hT; subst hT; exact El.ag rfl) (by show _ * 88 ≤ _; simp only [List.length_map, tab_len, List.length_cons, List.length_nil]; omega) (by simp only [List.length_map, tab_len, List.length_cons, List.length_nil]; omega)) ?_)))))
  refine bY (Ei := [(7, _)]) rfl rfl (bQ (bJ rfl rfl) bX) rfl rfl (dX rfl (cX (Ht rfl))) (bY (Ei := [(12, _)]) rfl rfl (bQ (bJ rfl rfl) bX) rfl rfl (dX rfl (dJ A_45 Z_45 (Ht rfl))) (bY (Ei := [(59, _)]) rfl rfl (bQ (bZ 5 rfl rfl) bX) rfl rfl (dX rfl (op_bslice (xs := [.tmp 59]) U_27 Z_45 O_45 (cW (Ht rfl) cG) rfl rfl rfl)) (Y.D_done mixed rfl (by kernel_rfl) rfl (by simp [Y.okP]) rfl rfl (bU (bU (bU (Y.F_app (fun v2 => bU (bU (bU (Y.F_nil ?_)))))))))))
  refine R_append (inf := Tryz.t45) und_27 info_45 rfl rfl rfl (Ht rfl) (Ht rfl) (i := 3) rfl (by simp) (fun T hT => by simp at hT; subst hT; exact El.ag rfl) (by show _ * 88 ≤ _; simp only [List.length_map, tab_len, List.length_cons, List.length_nil]; omega) (by simp only [List.length_map, tab_len, List.length_cons, List.length_nil]; omega) rfl (fun v3 => ?_)
  refine ra rfl (ra rfl (eX (T_blk (cY (ro rfl (dV (Ht rfl) (cJ 1) (by show _ < 9223372036854775808; first | omega | (simp only [lim]; omega))) (rm rfl (eX ?_)))))))
  refine T_keep [0, 1, 4, 3] rfl (by decide) (fU (i + 1, v2, v3) hin (by dsimp only; omega) (aQ rfl (aQ rfl (aQ rfl (aQ rfl (aQ rfl (aQ rfl (aQ rfl (aQ rfl aX)))))))) (aU (box_of rfl) (aU (box_of rfl) (aU (rowO_of (by rw [tab_succ, List.map_append]; rfl)) (aU (rowO_of (by rw [tab_succ, List.map_append]; rfl)) aY)))))
 ·obtain rfl : i = z.length := by simp only [decide_eq_false_iff_not] at hd; omega
  refine gV rfl (cK (gJ (i := 2) (tt := 6) rfl rfl frz_row (gJ (i := 3) (tt := 7) rfl rfl frz_row (cY (rm rfl (rm rfl (ra rfl (ra rfl (ro rfl (cQ (cJ 0)) (eX ?_))))))))))
  exact T_ret3 rfl (eU rfl) (eU rfl) (eU rfl)
theorem c_with {z : List Qi} {s : List (List Qi)} {p : Nat} {x : Qi} {F : Nat → Nat → Qi} (hs : Shp s z.length z.length) (hp : p < z.length) (hz : z.length ≤ 1000) : Fun Tryz.prog 151 [NetT z s, NT .i64 p, NumT x, ClT Tryz.prog (Fin z.length × Fin z.length) (fun x => [NT .i64 x.1.1, NT .i64 x.2.1]) (fun x => NumT (F x.1.1 x.2.1))] (NetT (z.set p x) (tab z.length fun i => tab z.length fun j => F i j)) := by
 refine Fun.intro Tryz.func151 rfl Tryz.ntmps151 rfl (fun cx => (ts (rn rfl (fG (Ht rfl)) fun B4 => (rn rfl (fG (Ht rfl)) fun B6 => (rn rfl (eW (Ts := [Is (.slice none 0 0), Is (.slice none 0 0)]) O_30 rfl (fun V => aW ⟨rfl, trivial⟩ (aW ⟨rfl, trivial⟩ (aG)))) fun B8 => (eX (cK (fZ (m := 5) (dp 4 rfl (eJ A_30 Z_30 (Ht rfl) (i := 0) rfl rfl rfl) (dp 4 rfl (eJ A_30 Z_30 (Ht rfl) (i := 0) rfl rfl rfl) (dq 11 1 rfl (cZ Tryz.call112 (c_left0 (z := z) (s := s) (by omega)) ⟨(Ht rfl), cV, trivial⟩) ?_)))))))))))
 refine C.D_new (Ei := [(10, _), (12, _)]) rfl rfl rfl (bV (bG 0 rfl rfl) (bV (bG 2 rfl rfl) bW)) (new_call0 Tryz.call111 (FunO.pack (c_partZ (z := z) (s := s) (Q := lfG [] z.length) (m := z.length) hs (fun x h => lfG_lt h) (all_len _) (by omega) (by omega))) ⟨(Ht rfl), (Ht rfl), trivial⟩) (C.D_new (Ei := []) rfl rfl rfl bW (eW (Ts := [Is (.slice none 0 0), Is (.slice none 0 0)]) O_30 rfl (fun V => aW ⟨rfl, trivial⟩ (aW ⟨rfl, trivial⟩ (aG)))) (fV mixed rfl (by kernel_rfl) (aJ (aJ (aJ (C.F_new (fun B13 => C.F_new (fun B9 => aV ?_))))))))
 refine gQ Z_30 (Ht rfl) (Ht rfl) rfl (i := 4) rfl (aK rfl) rfl rfl (eX (cK (T_keep [3, 0, 1, 2, 4] rfl (by decide) ?_)))
 obtain ⟨⟨vZ, bS⟩, hQ⟩ := B13
 refine T_star (X := [SA.emp, rowO 45 5 (.slice (some ⟨vZ, 0, none⟩) z.length z.length) ((subZ z (lfG [] z.length)).map NumT), matO bS 27 45 5 (FRow NumT (subM s (lfG [] z.length)))]) (Y := [box B4 30 [NumsT z, NumM s], box B6 45 (nb x), box B8 30 [Is (.slice none 0 0), Is (.slice none 0 0)], box B9 30 [Is (.slice (some ⟨vZ, 0, none⟩) z.length z.length), Is (.slice (some ⟨bS, 0, none⟩) z.length z.length)]]) (T_keep [1, 3, 4, 5, 6] rfl (by decide) (T_conv 0 rfl (rowO_of (congrArg (List.map NumT) all_sub)) (cY (ro rfl (eZ fa_30_0 (Ht rfl) rfl) (ro rfl (op_ldBp A_27 Z_27 (Ht rfl) (i := 4) rfl rfl) ?_)))))
 refine rm rfl (ro rfl (eJ A_45 Z_45 (Ht rfl) (i := 2) rfl rfl rfl) (ro rfl (op_idxO U_27 Z_45 (Ht rfl) (Ht rfl) rfl (i := 0) rfl (by rw [List.length_map]; omega) rfl) ?_))
 refine R_stO Z_45 (Ht rfl) (Ht rfl) (El.ag rfl) (i := 0) rfl rfl (by rw [List.length_map]; omega) rfl ?_
 refine eX (ts (ro rfl (eZ fa_30_0 (Ht rfl) rfl) (ro rfl (eY A_27 Z_27 (Ht rfl) (i := 1) rfl rfl) (ro rfl (dG U_27 (Ht rfl) len_map) (rm rfl (ro rfl (cZ Tryz.call119 (c_fill (n := z.length) (f := F) (by omega)) ⟨(Ht rfl), (Ht rfl), trivial⟩) (ro rfl (eZ fa_30_1 (Ht rfl) rfl) (R_st Z_28 (Ht rfl) (Ht rfl) (i := 4) rfl (aK rfl) rfl (eX (cK (T_conv 0 rfl (rowO_of (set_mapF NumT z p x)) (T_frzcell 4 0 0 rfl rfl rfl (by decide) (cY (ro rfl (eJ A_30 Z_30 (Ht rfl) (i := 4) rfl rfl rfl) ?_))))))))))))))
 refine gQ Z_30 (Ht rfl) (Ht rfl) rfl (i := 3) rfl (aK rfl) rfl rfl (eX ?_)
 exact fW rfl (fK A_30 Z_30 rfl (i := 3) rfl rfl)
end
end Go.Proofs.YteimkhgiekndjaaGreat
