/- What functions of the program compute, proved by walks over their code, and the plain mathematics of it; a part of the proof in the last text. -/
import Derived.Test.YtbnpmobaglfcbaaGreatP04
set_option linter.unusedVariables false
set_option linter.unusedSimpArgs false
namespace Go.Proofs.YtbnpmobaglfcbaaGreat
open Go Go.RowKit
set_option maxRecDepth 20000 in
theorem c_IndexInt {l : List Int} {v : Int} (hl : l.length ≤ 1000000) : Fun Tryz.prog 255 [SlT 1 (l.map (IntT .i64)), IntT .i64 v] (IntT .i64 (idxZ (fun x => decide (v = x)) l)) := by
 refine Fun.intro Tryz.func255 rfl Tryz.ntmps255 rfl (fun cx => (ts (ro rfl (op_assign (Has.cN 0)) (R_nil (T_seq (ts (rm rfl (ro rfl (op_len U_91 (Ht rfl) len_map) (ro rfl (op_move (Has.cN 0)) (R_nil (T_block ?_)))))))))))
 refine T_loop (fun (k : Nat) => k ≤ l.length ∧ ∀ (i : Nat) (x : Int), i < k → l[i]? = some x → decide (v = x) = false) (fun (k : Nat) => l.length - k) (fun (k : Nat) => [(0, SlT 1 (l.map (IntT .i64))), (1, IntT .i64 v), (7, NT .i64 l.length), (8, NT .i64 k)]) (fun (k : Nat) => []) 0 ⟨Nat.zero_le _, fun i x h => by omega⟩
  (Sub.cons rfl (Sub.cons rfl (Sub.cons rfl (Sub.cons rfl Sub.nil)))) HSub.nil (fun k ⟨hk, hn⟩ => ?_)
 refine ts (ro rfl (op_lssN (Ht rfl) (Ht rfl)) (R_nil (T_seq (T_cond (Ht rfl) (fun hb => ?_) (fun hb => ?_)))))
 ·simp only [decide_eq_true_eq] at hb
  refine T_skip (T_seq (T_block (ts (rm rfl (ra rfl (R_nil (ts (rm rfl (rm rfl (rm rfl (ro rfl (op_idx U_91 Z_3 (Ht rfl) (Ht rfl) rfl (map_get (getq hb))) (ro rfl (op_ld A_3 Z_3 (Ht rfl)) (ro rfl (op_eql (Ht rfl) (Ht rfl)) (R_nil (T_cond (Ht rfl) (fun hc => ?_) (fun hc => ?_))))))))))))))))
  ·refine ts (rm rfl (ra rfl (R_nil (T_ret1 rfl (rv_to (rv_tmp rfl) ?_)))))
   exact (int_of (idxZ_at (p := fun x => decide (v = x)) (getq hb) hc hn).symm)
  ·refine T_skip (T_blk (T_region (ro rfl (op_addN (Ht rfl) (Has.cN 1) (by show _ < 9223372036854775808; first | omega | (simp only [lim]; omega))) (rm rfl (R_nil ?_)))))
   refine T_again (k + 1) ⟨hb, fun i x h1 h2 => by
    by_cases e : i = k
    ·subst e; rw [getq hb] at h2; obtain rfl := Option.some.inj h2; exact hc
    ·exact hn i x (by omega) h2⟩ (by omega) (Sub.cons rfl (Sub.cons rfl (Sub.cons rfl (Sub.cons rfl Sub.nil)))) HSub.nil
 ·simp only [decide_eq_false_iff_not] at hb
  refine T_exit rfl (ts (ro rfl (op_assign Has.c) (R_nil (T_ret1 rfl (rv_to (rv_tmp rfl) ?_)))))
  exact (int_of (idxZ_none (p := fun x => decide (v = x)) (fun i x h => hn i x (by have := (List.getElem?_eq_some_iff.1 h).1; omega) h)).symm)
set_option maxRecDepth 20000 in
theorem c_ContainsInt {l : List Int} {v : Int} (hl : l.length ≤ 1000000) : Fun Tryz.prog 222 [SlT 1 (l.map (IntT .i64)), IntT .i64 v] (BoolT (l.any fun x => decide (v = x))) := by
 refine Fun.intro Tryz.func222 rfl Tryz.ntmps222 rfl (fun cx => (ts (ro rfl (op_assign Has.c) (R_nil (ts (rm rfl (rm rfl (ro rfl (op_call Tryz.call255 (c_IndexInt (by omega)) ⟨(Ht rfl), (Ht rfl), trivial⟩) (ro rfl (op_geq (Ht rfl) Has.c) (ra rfl (R_nil (T_ret1 rfl (rv_to (rv_tmp rfl) ?_)))))))))))))
 exact (bool_of (idxZ_any _ l))
set_option maxRecDepth 20000 in
theorem c_leftG {z : List Qi} {s : List (List Qi)} {G : List Nat} (hl : z.length ≤ 1000) (hG : G.length ≤ 1000) : Fun Tryz.prog 151 [NetT z s, SlT 1 ((gnI G).map (IntT .i64))] (IntsT ((lfG G z.length).map Nat.succ)) := by
 refine Fun.intro Tryz.func151 rfl Tryz.ntmps151 rfl (fun cx => (ts (rn rfl (new_box (Ht rfl)) fun B2 => (ro rfl (op_assign Has.c) (R_nil (ts (ro rfl (op_assign Has.c) (R_nil (T_seq (ts (ro rfl (op_assign (Has.cN 1)) (R_nil (T_block (T_row 3 1 ?_))))))))))))))
 refine T_loop2 (fun (i : Nat) (v : Value) => i ≤ z.length) (fun (i : Nat) (v : Value) => z.length - i) (fun (i : Nat) (v : Value) => [(1, SlT 1 ((gnI G).map (IntT .i64))), (2, PtrB B2 0), (5, Is v), (6, NT .i64 (i + 1))]) (fun (i : Nat) (v : Value) => [box B2 30 [NumsT z, NumM s], rowO 3 1 v (((lfG G i).map Nat.succ).map (NT .i64))]) 0 (.slice none 0 0) (Nat.zero_le _)
  (Sub.cons rfl (Sub.cons rfl (Sub.cons rfl (Sub.cons rfl Sub.nil)))) (HSub.cons (box_of rfl) (HSub.cons (rowO_of rfl) HSub.nil)) (fun i v hi => ?_)
 refine T_seq (ts (rm rfl (ro rfl (op_fldB fa_30_0 (Ht rfl) rfl) (ro rfl (op_ldB A_27 Z_27 (Ht rfl) (i := 0) rfl rfl) (ro rfl (op_len U_27 (Ht rfl) len_map) (ro rfl (op_leqN (Ht rfl) (Ht rfl)) (R_nil (T_cond (Ht rfl) (fun hd => ?_) (fun hd => ?_)))))))))
 ·simp only [decide_eq_true_eq] at hd
  have hcl := lfG_len G i
  refine T_skip (T_seq (T_block (T_join (fun (v2 : Value) => True) (fun (v2 : Value) => [(1, SlT 1 ((gnI G).map (IntT .i64))), (2, PtrB B2 0), (5, Is v2), (6, NT .i64 (i + 1))]) (fun (v2 : Value) => [box B2 30 [NumsT z, NumM s], rowO 3 1 v2 (((lfG G (i + 1)).map Nat.succ).map (NT .i64))]) ?_ (fun v2 _ => ?_))))
  ·refine ts (rm rfl (rm rfl (ro rfl (op_call Tryz.call222 (c_ContainsInt (l := gnI G) (v := ((i + 1 : Nat) : Int)) (by rw [List.length_map]; omega)) ⟨(Ht rfl), (Ht rfl), trivial⟩) ?_)))
   refine ro rfl (op_not (Ht rfl)) (R_nil (T_cond (Ht rfl) (fun he => ?_) (fun he => ?_)))
   ·rw [gn_any] at he
    have he2 : i ∉ G := by simpa using he
    have hnx : lfG G (i + 1) = lfG G i ++ [i] := by rw [lfG, if_neg he2]
    refine T_region (rm rfl (rm rfl (ro rfl (op_bslice (xs := [.tmp 19]) U_91 Z_3 O_3 (Elems.cons (Ht rfl) Elems.nil) rfl rfl rfl) (R_append (inf := Tryz.t3) und_91 info_3 rfl rfl rfl (Ht rfl) (Ht rfl) (i := 1) rfl (by simp) (fun T hT => by simp at hT; subst hT; exact El.one) (by show _ * 8 ≤ _; simp only [List.length_map, List.length_cons, List.length_nil]; omega) (by simp only [List.length_map, List.length_cons, List.length_nil]; omega) rfl (fun v3 => ?_)))))
    refine ra rfl (R_nil (T_joined v3 trivial (Sub.cons rfl (Sub.cons rfl (Sub.cons rfl (Sub.cons rfl Sub.nil)))) (HSub.cons (box_of rfl) (HSub.cons (rowO_of (by rw [hnx, List.map_append, List.map_append]; rfl)) HSub.nil))))
   ·rw [gn_any] at he
    have he2 : i ∈ G := by simpa using he
    have hnx : lfG G (i + 1) = lfG G i := by rw [lfG, if_pos he2, List.append_nil]
    refine T_skip (T_joined v trivial (Sub.cons rfl (Sub.cons rfl (Sub.cons rfl (Sub.cons rfl Sub.nil)))) (HSub.cons (box_of rfl) (HSub.cons (rowO_of (by rw [hnx])) HSub.nil)))
  ·refine T_blk (T_region (rm rfl (ro rfl (op_addN (Ht rfl) (Has.cN 1) (by show _ < 9223372036854775808; first | omega | (simp only [lim]; omega))) (ra rfl (R_nil (T_again (i + 1, v2) hd (by dsimp only; omega) (Sub.cons rfl (Sub.cons rfl (Sub.cons rfl (Sub.cons rfl Sub.nil)))) (HSub.refl _)))))))
 ·simp only [decide_eq_false_iff_not] at hd
  obtain rfl : z.length = i := Nat.le_antisymm (by omega) hi
  refine T_exit rfl (T_freeze (i := 1) (tt := 5) rfl rfl frz_row (ts (rm rfl (ra rfl (R_nil ?_)))))
  exact T_ret1 rfl (rv_tmp rfl)
theorem c_left {z : List Qi} {s : List (List Qi)} {p : Nat} (hp : p < z.length) (hl : z.length ≤ 1000) : Fun Tryz.prog 151 [NetT z s, SlT 1 [IntT .i64 ((p : Int) + 1)]] (IntsT (lftL p (z.length - 1))) := by
  rw [← lfG_lft hp]; exact c_leftG (G := [p]) hl (by simp)
set_option maxRecDepth 20000 in
theorem c_part1 {z : List Qi} {s : List (List Qi)} {Q : List Nat} {m : Nat} (hs : Shp s z.length z.length) (hQ : ∀ x, x ∈ Q → x < z.length) (hm : Q.length = m) (hm2 : m ≤ 1000) (hl : z.length ≤ 1000) {i j : Nat} (hi : i < m) (hj : j < m) : Fun Tryz.prog 223 [NT .i64 i, NT .i64 j, PT (NetT z s), PT (IntsT (Q.map Nat.succ))] (NumT (gm s (qat Q i) (qat Q j))) := by
 have hki : qat Q i < z.length := qat_lt hQ (by omega)
 have hkj : qat Q j < z.length := qat_lt hQ (by omega)
 have hsl := hs.1
 have hsr := hs.row hki
 refine Fun.intro Tryz.func223 rfl Tryz.ntmps223 rfl (fun cx => (ts (rn rfl (new_alloc (Ts := [Is (.bool false), Is (.slice none 0 0), Is (.bool false), Is (.slice none 0 0), Is (.slice none 0 0)]) O_49 rfl (fun V => Cells.cons' ⟨rfl, trivial⟩ (Cells.cons' ⟨rfl, trivial⟩ (Cells.cons' ⟨rfl, trivial⟩ (Cells.cons' ⟨rfl, trivial⟩ (Cells.cons' ⟨rfl, trivial⟩ (Cells.nil))))))) fun B6 => (R_nil (T_seq (C.D_start (m := 14) (dp 2 rfl (op_fld1 fa_30_1 (Ht rfl) rfl) (dq 7 0 rfl (op_ld A_28 Z_28 (Ht rfl)) (dp 3 rfl (op_ld A_91 Z_91 (Ht rfl)) (dp 0 rfl (op_move (Ht rfl)) ?_))))))))))
 refine dqq 9 2 10 3 rfl (op_idx U_91 Z_3 (Ht rfl) (Ht rfl) rfl (map_get (suc_get (by omega)))) (dq 11 4 rfl (op_ld A_3 Z_3 (Ht rfl)) (dq 12 5 rfl (OpTy.nat (op_subN (Ht rfl) (Has.cN 1) (by omega) (by show _ < 9223372036854775808; first | omega | (simp only [lim]; omega))) (show qat Q i + 1 - 1 = qat Q i by omega)) (dqq 8 1 13 6 rfl (op_idx U_28 Z_27 (Ht rfl) (Ht rfl) rfl (map_get (getD_some (d := []) (by omega)))) (dq 14 7 rfl (op_ld A_27 Z_27 (Ht rfl)) (dp 3 rfl (op_ld A_91 Z_91 (Ht rfl)) ?_)))))
 refine dp 1 rfl (op_move (Ht rfl)) (dqq 16 9 17 10 rfl (op_idx U_91 Z_3 (Ht rfl) (Ht rfl) rfl (map_get (suc_get (by omega)))) (dq 18 11 rfl (op_ld A_3 Z_3 (Ht rfl)) (dq 19 12 rfl (OpTy.nat (op_subN (Ht rfl) (Has.cN 1) (by omega) (by show _ < 9223372036854775808; first | omega | (simp only [lim]; omega))) (show qat Q j + 1 - 1 = qat Q j by omega)) (C.D_done mixed rfl (by kernel_rfl) (C.F_val (C.F_val (C.F_val (C.F_val (C.F_val (C.F_val (C.F_val (C.F_val (C.F_val (C.F_val (C.F_val (C.F_val (C.F_val (C.F_val (C.F_nil (ro rfl (op_idx U_27 Z_49 (Ht rfl) (Ht rfl) rfl (map_get (getD_some (d := Qi.zero) (by omega)))) ?_))))))))))))))))))))
 refine ro rfl (op_ld A_49 Z_49 (Ht rfl)) (R_stA Z_49 (Ht rfl) (Ht rfl) rfl (i := 0) rfl (Nat.le_of_ble_eq_true rfl) rfl rfl (R_nil ?_))
 exact T_ret1 rfl (rv_cell A_49 Z_49 rfl (i := 0) rfl rfl)
set_option maxRecDepth 20000 in
theorem c_partG {z : List Qi} {s : List (List Qi)} {Q : List Nat} {m : Nat} (hs : Shp s z.length z.length) (hQ : ∀ x, x ∈ Q → x < z.length) (hm : Q.length = m) (hm2 : m ≤ 1000) (hl : z.length ≤ 1000) : FunO Tryz.prog 147 [NetT z s, IntsT (Q.map Nat.succ)] [] (Nat) (fun B => AggT [NumsT (subZ z Q), Is (.slice (some ⟨B, 0, none⟩) m m)]) (fun B => [matO B 27 49 5 (FRow NumT (subM s Q))]) (fun _ => True) := by
 have hll : (Q.map Nat.succ).length = m := by rw [List.length_map]; exact hm
 refine FunO.intro Tryz.func147 rfl Tryz.ntmps147 rfl (fun cx Z => (ts (rn rfl (new_box (Ht rfl)) fun B2 => (rn rfl (new_box1 (Ht rfl)) fun B3 => (rn rfl (new_alloc (Ts := [Is (.slice none 0 0), Is (.slice none 0 0)]) O_30 rfl (fun V => Cells.cons' ⟨rfl, trivial⟩ (Cells.cons' ⟨rfl, trivial⟩ (Cells.nil)))) fun B4 => (R_nil (T_seq (T_freeze (i := 1) (tt := 2) rfl rfl frz_ptr (T_freeze (i := 2) (tt := 3) rfl rfl frz_ptr1 (T_region (ro rfl (op_ld A_91 Z_91 (Ht rfl)) (ro rfl (op_len U_91 (Ht rfl) (by rw [List.length_map, hll])) ?_))))))))))))
 refine rn rfl (new_makeO (T := NumT Qi.zero) (i := Tryz.t49) und_27 info_49 rfl rfl (Ht rfl) rfl num_zero_p (El.ag rfl) (by show 88 * _ ≤ _; omega) (by omega)) fun B10 => ra rfl (R_nil (T_seq (ts (ro rfl (op_ld A_91 Z_91 (Ht rfl)) (ro rfl (op_len U_91 (Ht rfl) (by rw [List.length_map, hll])) ?_)))))
 refine ro rfl (op_move (Has.cN 0)) (R_nil (T_block (T_keep [0, 3, 4] rfl (by decide) ?_)))
 refine T_loop (fun (i : Nat) => i ≤ m) (fun (i : Nat) => m - i) (fun (i : Nat) => [(2, PT (NetT z s)), (3, PT (IntsT (Q.map Nat.succ))), (4, PtrB B4 0), (5, Is B10), (11, IntsT (Q.map Nat.succ)), (12, NT .i64 m), (13, NT .i64 i)]) (fun (i : Nat) => [Z, box B4 30 [Is (.slice none 0 0), Is (.slice none 0 0)], rowO 49 5 B10 ((mixT (fun i => gv z (qat Q i)) Qi.zero m i).map NumT)]) 0 (Nat.zero_le _)
  (Sub.cons rfl (Sub.cons rfl (Sub.cons rfl (Sub.cons rfl (Sub.cons rfl (Sub.cons rfl (Sub.cons rfl Sub.nil))))))) (HSub.cons (fun _ _ _ h => h) (HSub.cons (fun _ _ _ h => h) (HSub.cons (rowO_of (by rw [← mix_zero]; exact tab_rep NumT m)) HSub.nil))) (fun i hi => ?_)
 refine ts (ro rfl (op_lssN (Ht rfl) (Ht rfl)) (R_nil (T_seq (T_cond (Ht rfl) (fun hd => ?_) (fun hd => ?_)))))
 ·simp only [decide_eq_true_eq] at hd
  have hki : qat Q i < z.length := qat_lt hQ (by omega)
  refine T_skip (T_seq (T_block (ts (rm rfl (ro rfl (op_idx U_91 Z_3 (Ht rfl) (Ht rfl) rfl (map_get (suc_get (by omega)))) (ro rfl (op_ld A_3 Z_3 (Ht rfl)) (ra rfl (ra rfl (R_nil (T_region (rm rfl (rm rfl (ro rfl (op_fld1 fa_30_0 (Ht rfl) rfl) (ro rfl (op_ld A_27 Z_27 (Ht rfl)) (rm rfl (ro rfl (OpTy.nat (op_subN (Ht rfl) (Has.cN 1) (by omega) (by show _ < 9223372036854775808; first | omega | (simp only [lim]; omega))) (show qat Q i + 1 - 1 = qat Q i by omega)) (ro rfl (op_idx U_27 Z_49 (Ht rfl) (Ht rfl) rfl (map_get (getD_some (d := Qi.zero) hki))) ?_)))))))))))))))))
  refine ro rfl (op_ld A_49 Z_49 (Ht rfl)) (ro rfl (op_idxO U_27 Z_49 (Ht rfl) (Ht rfl) rfl (i := 2) rfl (by rw [List.length_map, mix_len]; omega) rfl) ?_)
  refine R_stO Z_49 (Ht rfl) (Ht rfl) (El.ag rfl) (i := 2) rfl rfl (by rw [List.length_map, mix_len]; omega) rfl ?_
  refine R_nil (T_blk (T_region (ro rfl (op_addN (Ht rfl) (Has.cN 1) (by show _ < 9223372036854775808; first | omega | (simp only [lim]; omega))) (rm rfl (R_nil (T_again (i + 1) hd (by omega) (Sub.cons rfl (Sub.cons rfl (Sub.cons rfl (Sub.cons rfl (Sub.cons rfl (Sub.cons rfl (Sub.cons rfl Sub.nil))))))) (HSub.cons (fun _ _ _ h => h) (HSub.cons (fun _ _ _ h => h) (HSub.cons (rowO_of (by rw [set_mapF, ← mix_set (f := (fun i => gv z (qat Q i)))])) HSub.nil)))))))))
 ·simp only [decide_eq_false_iff_not] at hd
  obtain rfl : m = i := Nat.le_antisymm (by omega) hi
  rw [mix_fin]
  refine T_exit rfl (T_freeze (i := 2) (tt := 5) rfl rfl frz_row ?_)
  rw [show subZ z Q = tab m fun i => gv z (qat Q i) from by rw [subZ, hm], show subM s Q = tab m fun i => tab m fun j => gm s (qat Q i) (qat Q j) from by rw [subM, hm]]
  refine ts (rm rfl (ro rfl (op_ld A_91 Z_91 (Ht rfl)) (ro rfl (op_len U_91 (Ht rfl) (by rw [List.length_map, hll])) ?_)))
  refine ro rfl (op_clos (γ := Fin m × Fin m) (Ts := fun x => [NT .i64 x.1.1, NT .i64 x.2.1]) (U := fun x => NumT (gm s (qat Q x.1.1) (qat Q x.2.1))) Tryz.call223 (fun x => c_part1 hs hQ hm hm2 hl x.1.2 x.2.2) ⟨(Ht rfl), (Ht rfl), trivial⟩) (R_call0 Tryz.call85 (c_fillO (n := m) (f := fun i j => gm s (qat Q i) (qat Q j)) (by omega)) ⟨(Ht rfl), (Ht rfl), trivial⟩ rfl (fun B32 _ => (ro rfl (bld_30_0_1 (Ht rfl) (Ht rfl)) (R_stA Z_30 (Ht rfl) (Ht rfl) rfl (i := 1) rfl (Nat.le_of_ble_eq_true rfl) rfl rfl (R_nil ?_)))))
  exact T_retO B32 trivial [0, 3] ⟨⟨_, rfl, fun _ _ _ h => h⟩, ⟨_, rfl, fun _ _ _ h => h⟩, trivial⟩ (by decide) (rvs1 rfl (rv_cell A_30 Z_30 rfl (i := 1) rfl rfl))
theorem c_partO {z : List Qi} {s : List (List Qi)} {p m : Nat} (hs : Shp s z.length z.length) (hp : p < z.length) (hm : m = z.length - 1) (hl : z.length ≤ 1000) : FunO Tryz.prog 147 [NetT z s, IntsT (lftL p m)] [] Nat (fun B => AggT [NumsT (prtZ z p m), Is (.slice (some ⟨B, 0, none⟩) m m)]) (fun B => [matO B 27 49 5 (FRow NumT (prtS s p m))]) (fun _ => True) := by
  have h := c_partG (Q := tab m (skp p)) hs (skp_all hp hm) (tab_len _ _) (by omega) hl
  rw [subZ_skp, subM_skp, lft_skp] at h
  exact h
set_option maxRecDepth 20000 in
theorem c_whole {n : Int} (h1 : -9223372036854775808 ≤ n) (h2 : n ≤ 9223372036854775807) : Fun Tryz.prog 99 [IntT .i64 n] (NumT (Qi.ofInt n)) := by
 refine Fun.intro Tryz.func99 rfl Tryz.ntmps99 rfl (fun cx => (ts (rn rfl (new_alloc (Ts := [Is (.bool false), Is (.slice none 0 0), Is (.bool false), Is (.slice none 0 0), Is (.slice none 0 0)]) O_49 rfl (fun V => Cells.cons' ⟨rfl, trivial⟩ (Cells.cons' ⟨rfl, trivial⟩ (Cells.cons' ⟨rfl, trivial⟩ (Cells.cons' ⟨rfl, trivial⟩ (Cells.cons' ⟨rfl, trivial⟩ (Cells.nil))))))) fun B2 => (R_nil (ts (rn rfl (new_alloc (Ts := [Is (.bool false), Is (.slice none 0 0), Is (.bool false), Is (.slice none 0 0), Is (.slice none 0 0)]) O_49 rfl (fun V => Cells.cons' ⟨rfl, trivial⟩ (Cells.cons' ⟨rfl, trivial⟩ (Cells.cons' ⟨rfl, trivial⟩ (Cells.cons' ⟨rfl, trivial⟩ (Cells.cons' ⟨rfl, trivial⟩ (Cells.nil))))))) fun B3 => ?_))))))
 refine R_nil (T_seq (C.D_start (m := 4) (dp 3 rfl (op_ldBA A_49 Z_49 (Ht rfl) (i := 1) rfl rfl rfl) (dq 4 0 rfl (op_iface mkif_49 (Ht rfl)) (dp 0 rfl (op_move (Ht rfl)) (dq 6 2 rfl (op_call Tryz.call95 (c_Int (n := n) h1 h2) ⟨(Ht rfl), trivial⟩) (C.D_done mixed rfl (by kernel_rfl) (C.F_val (C.F_val (C.F_val (C.F_val (C.F_nil (ro rfl (op_invoke meth_49_Of Tryz.call292 c_OfZ (Ht rfl) ⟨(Ht rfl), trivial⟩) (R_stA Z_49 (Ht rfl) (Ht rfl) rfl (i := 0) rfl (Nat.le_of_ble_eq_true rfl) rfl rfl (R_nil ?_)))))))))))))))
 exact T_ret1 rfl (rv_cell A_49 Z_49 rfl (i := 0) rfl rfl)
end Go.Proofs.YtbnpmobaglfcbaaGreat
namespace Go.Proofs.YtbnpmobaglfcbaaGreat
open Go Go.RowKit
set_option maxHeartbeats 1000000 in
set_option maxRecDepth 20000 in
theorem c_Term {z : List Qi} {s : List (List Qi)} {port : Int} {g : Qi} {L : Nat} (hs : Shp s z.length z.length) (hf : FitM s L) (hg : FitC g L) (hL : 1 ≤ L) (hLb : L ≤ 1000000) (hl : z.length ≤ 1000) : Fun Tryz.prog 62 [NetT z s, IntT .i64 port, NumT g] (TupT [NetT (trmRZ z s port g) (trmRS z s port g), IntT .i64 (trmE z s port g)]) := by
 haveI := hg
 have hsl := hs.1
 refine Fun.intro Tryz.func62 rfl Tryz.ntmps62 rfl (fun cx => (ts (rn rfl (new_box (Ht rfl)) fun B3 => (rn rfl (new_box (Ht rfl)) fun B5 => (rn rfl (new_alloc (Ts := [Is (.slice none 0 0), Is (.slice none 0 0)]) O_30 rfl (fun V => Cells.cons' ⟨rfl, trivial⟩ (Cells.cons' ⟨rfl, trivial⟩ (Cells.nil)))) fun B6 => (ro rfl (op_assign (Has.cN 0)) (R_nil (T_seq (T_block (ts (ro rfl (op_ldBA A_30 Z_30 (Ht rfl) (i := 0) rfl rfl rfl) (rm rfl (ro rfl (op_call Tryz.call165 c_has ⟨(Ht rfl), (Ht rfl), trivial⟩) (ro rfl (op_not (Ht rfl)) (ra rfl (R_nil (T_cond (Ht rfl) (fun hb => ?_) (fun hb => ?_))))))))))))))))))
 ·have he : trmE z s port g = 1 := trmE_1 (by simpa only [Bool.not_eq_true', decide_eq_false_iff_not] using hb)
  refine ts (ro rfl (OpTy.imp (bld_30_ ) net_nil) (R_stA Z_30 (Ht rfl) (Ht rfl) rfl (i := 2) rfl (Nat.le_of_ble_eq_true rfl) rfl rfl (ro rfl (op_assign (Has.cN 1)) (R_nil (T_ret2 rfl (rv_to (rv_cell A_30 Z_30 rfl (i := 2) rfl rfl) ?_) (rv_to (rv_tmp rfl) ?_))))))
  ·exact (trm_bad he (by decide))
  ·exact (int_of he.symm)
 ·have hb2 : 1 ≤ port ∧ port ≤ (z.length : Int) := by simpa using hb
  obtain ⟨p, rfl⟩ : ∃ p : Nat, port = (p : Int) + 1 := ⟨(port - 1).toNat, by omega⟩
  have hp : p < z.length := by omega
  refine ts (ro rfl (op_fldB fa_30_0 (Ht rfl) rfl) (ro rfl (op_ldB A_27 Z_27 (Ht rfl) (i := 0) rfl rfl) (ro rfl (op_len U_27 (Ht rfl) len_map) (ro rfl (op_eqlN (Ht rfl) (Has.cN 1)) (ra rfl (R_nil (T_cond (Ht rfl) (fun hc => ?_) (fun hc => ?_))))))))
  ·have he : trmE z s ((p : Int) + 1) g = 4 := trmE_4 hb2 (by simpa using hc)
   refine ts (ro rfl (OpTy.imp (bld_30_ ) net_nil) (R_stA Z_30 (Ht rfl) (Ht rfl) rfl (i := 2) rfl (Nat.le_of_ble_eq_true rfl) rfl rfl (ro rfl (op_assign (Has.cN 4)) (R_nil (T_ret2 rfl (rv_to (rv_cell A_30 Z_30 rfl (i := 2) rfl rfl) ?_) (rv_to (rv_tmp rfl) ?_))))))
   ·exact (trm_bad he (by decide))
   ·exact (int_of he.symm)
  ·have hn1 : ¬ z.length = 1 := by simpa using hc
   have htd := trmE_d (s := s) (g := g) hp hn1
   obtain ⟨m, hm⟩ : ∃ m, m = z.length - 1 := ⟨_, rfl⟩
   have hspl := hs.row hp
   haveI f0 : FitC (Qi.ofInt 1) 1 := fit_one
   haveI f1 : FitC (gm s p p) L := hf.get hL p p
   refine T_skip (T_blk (ts (rm rfl (ro rfl (op_sub (Ht rfl) Has.c (r := ((p : Nat) : Int)) ((w64 (z := (p : Int) + 1 - 1) (by omega)).trans (by omega))) ?_))))
   refine ra rfl (R_nil (T_seq (Y.D_start (m := 22) [] (Y.D_hide (Ei := [(5, _)]) rfl rfl (Y.Srcs.cons (Y.Src.pre rfl rfl) Y.Srcs.nil) rfl rfl (S_plain rfl (op_ldBA A_49 Z_49 (Ht rfl) (i := 1) rfl rfl rfl)) (Y.D_hide (Ei := [(32, _)]) rfl rfl (Y.Srcs.cons (Y.Src.op 0 rfl rfl) Y.Srcs.nil) rfl rfl (S_plain rfl (op_iface mkif_49 (Ht rfl))) (Y.D_hide (Ei := []) rfl rfl Y.Srcs.nil rfl rfl (S_plain rfl (op_call Tryz.call99 (c_whole (n := 1) (by decide) (by decide)) ⟨(Has.cN 1), trivial⟩)) (Y.D_hide (Ei := [(34, _)]) rfl rfl (Y.Srcs.cons (Y.Src.op 2 rfl rfl) Y.Srcs.nil) rfl rfl (S_plain rfl (op_iface mkif_49 (Ht rfl))) ?_)))))))
   refine Y.D_hide (Ei := [(3, _)]) rfl rfl (Y.Srcs.cons (Y.Src.pre rfl rfl) Y.Srcs.nil) rfl rfl (S_plain rfl (op_fldB fa_30_1 (Ht rfl) rfl)) (Y.D_hide (Ei := [(36, _)]) rfl rfl (Y.Srcs.cons (Y.Src.op 4 rfl rfl) Y.Srcs.nil) rfl rfl (S_plain rfl (op_ldB A_28 Z_28 (Ht rfl) (i := 0) rfl rfl)) (Y.D_hide (Ei := [(8, _)]) rfl rfl (Y.Srcs.cons (Y.Src.pre rfl rfl) Y.Srcs.nil) rfl rfl (S_plain rfl (op_move (Ht rfl))) (Y.D_hide (Ei := [(37, _), (38, _)]) rfl rfl (Y.Srcs.cons (Y.Src.op 5 rfl rfl) (Y.Srcs.cons (Y.Src.op 6 rfl rfl) Y.Srcs.nil)) rfl rfl (S_plain rfl (op_idx U_28 Z_27 (Ht rfl) (Ht rfl) rfl (map_get (getD_some (d := []) (by omega))))) ?_)))
   refine Y.D_hide (Ei := [(39, _)]) rfl rfl (Y.Srcs.cons (Y.Src.op 7 rfl rfl) Y.Srcs.nil) rfl rfl (S_plain rfl (op_ld A_27 Z_27 (Ht rfl))) (Y.D_hide (Ei := [(8, _)]) rfl rfl (Y.Srcs.cons (Y.Src.pre rfl rfl) Y.Srcs.nil) rfl rfl (S_plain rfl (op_move (Ht rfl))) (Y.D_hide (Ei := [(40, _), (41, _)]) rfl rfl (Y.Srcs.cons (Y.Src.op 8 rfl rfl) (Y.Srcs.cons (Y.Src.op 9 rfl rfl) Y.Srcs.nil)) rfl rfl (S_plain rfl (op_idx U_27 Z_49 (Ht rfl) (Ht rfl) rfl (map_get (getD_some (d := Qi.zero) (by omega))))) (Y.D_hide (Ei := [(42, _)]) rfl rfl (Y.Srcs.cons (Y.Src.op 10 rfl rfl) Y.Srcs.nil) rfl rfl (S_plain rfl (op_ld A_49 Z_49 (Ht rfl))) ?_)))
   refine Y.D_hide (Ei := [(43, _)]) rfl rfl (Y.Srcs.cons (Y.Src.op 11 rfl rfl) Y.Srcs.nil) rfl rfl (S_plain rfl (op_iface mkif_49 (Ht rfl))) (Y.D_hide (Ei := [(5, _)]) rfl rfl (Y.Srcs.cons (Y.Src.pre rfl rfl) Y.Srcs.nil) rfl rfl (S_plain rfl (op_ldBA A_49 Z_49 (Ht rfl) (i := 1) rfl rfl rfl)) (Y.D_hide (Ei := [(44, _), (45, _)]) rfl rfl (Y.Srcs.cons (Y.Src.op 12 rfl rfl) (Y.Srcs.cons (Y.Src.op 13 rfl rfl) Y.Srcs.nil)) rfl rfl (S_plain rfl (op_invoke meth_49_Mul K_69 (c_Mul (x := gm s p p) (y := g) (L := L) (M := L) (by omega)) (Ht rfl) ⟨(Ht rfl), trivial⟩)) (Y.D_hide (Ei := [(35, _), (46, _)]) rfl rfl (Y.Srcs.cons (Y.Src.op 3 rfl rfl) (Y.Srcs.cons (Y.Src.op 14 rfl rfl) Y.Srcs.nil)) rfl rfl (S_plain rfl (op_invoke meth_49_Sub Tryz.call68 (c_Sub (x := Qi.ofInt 1) (y := gm s p p * g) (L := 1) (M := L + L + 1) (hx := f0) (by omega)) (Ht rfl) ⟨(Ht rfl), trivial⟩)) ?_)))
   refine Y.D_hide (Ei := [(33, _), (47, _)]) rfl rfl (Y.Srcs.cons (Y.Src.op 1 rfl rfl) (Y.Srcs.cons (Y.Src.op 15 rfl rfl) Y.Srcs.nil)) rfl rfl (S_plain rfl (op_invoke meth_49_Div Tryz.call61 (c_Div (x := g) (y := Qi.ofInt 1 - gm s p p * g) (L := L) (M := 1 + (L + L + 1) + 1) (hy := @fitSub _ _ _ _ f0 inferInstance) (by omega)) (Ht rfl) ⟨(Ht rfl), trivial⟩)) (Y.D_hide (Ei := [(48, _)]) rfl rfl (Y.Srcs.cons (Y.Src.op 16 rfl rfl) Y.Srcs.nil) rfl rfl (S_plain rfl (op_move (Ht rfl))) (Y.D_hide (Ei := [(31, _)]) rfl rfl (Y.Srcs.cons (Y.Src.op 17 rfl rfl) Y.Srcs.nil) rfl rfl (S_plain rfl (op_extract (Ht rfl) rfl)) ?_))
   refine Y.D_hide (Ei := [(31, _)]) rfl rfl (Y.Srcs.cons (Y.Src.op 17 rfl rfl) Y.Srcs.nil) rfl rfl (S_plain rfl (op_extract (Ht rfl) rfl)) (Y.D_newp (Ei := []) (fun bb => box bb 49 [BoolT (decide ((trmF s p g).a < 0)), NatT (trmF s p g).a.natAbs, BoolT (decide ((trmF s p g).b < 0)), NatT (trmF s p g).b.natAbs, NatT (du (trmF s p g))]) 21 rfl rfl rfl Y.Srcs.nil rfl rfl (by kernel_rfl) (new_alloc (Ts := [Is (.bool false), Is (.slice none 0 0), Is (.bool false), Is (.slice none 0 0), Is (.slice none 0 0)]) O_49 rfl (fun V => Cells.cons' ⟨rfl, trivial⟩ (Cells.cons' ⟨rfl, trivial⟩ (Cells.cons' ⟨rfl, trivial⟩ (Cells.cons' ⟨rfl, trivial⟩ (Cells.cons' ⟨rfl, trivial⟩ (Cells.nil))))))) ?_)
   refine Y.D_putN (Ei := [(49, _)]) 20 rfl rfl rfl rfl rfl rfl (Y.Srcs.cons (Y.Src.op 18 rfl rfl) Y.Srcs.nil) (fun bb => P_stA Z_49 (Ht rfl) (Ht rfl) rfl (i := 0) rfl (Nat.le_of_ble_eq_true rfl) rfl rfl) (Y.D_done mixed rfl (by kernel_rfl) rfl (by simp [Y.okP]) rfl rfl (Y.F_val (Y.F_val (Y.F_val (Y.F_val (Y.F_val (Y.F_val (Y.F_val (Y.F_val (Y.F_val (Y.F_val (Y.F_val (Y.F_val (Y.F_val (Y.F_val (Y.F_val (Y.F_val (Y.F_val (Y.F_val (Y.F_val (Y.F_val (Y.F_newp (fun B9 => Y.F_putN (Y.F_nil ?_))))))))))))))))))))))))
   refine ra rfl (R_nil (T_seq (ts (rm rfl (ro rfl (op_neq (Ht rfl) Has.c) (R_nil (T_cond (Ht rfl) (fun he => ?_) (fun he => ?_))))))))
   ·have hz : Qi.ofInt 1 - gm s p p * g = Qi.zero := by simp at he; exact he
    have he : trmE z s ((p : Int) + 1) g = 6 := by rw [htd, if_pos hz]
    refine ts (ro rfl (OpTy.imp (bld_30_ ) net_nil) (R_stA Z_30 (Ht rfl) (Ht rfl) rfl (i := 2) rfl (Nat.le_of_ble_eq_true rfl) rfl rfl (ro rfl (op_assign (Has.cN 6)) (R_nil (T_ret2 rfl (rv_to (rv_cell A_30 Z_30 rfl (i := 2) rfl rfl) ?_) (rv_to (rv_tmp rfl) ?_))))))
    ·exact (trm_bad he (by decide))
    ·exact (int_of he.symm)
   ·have hz : Qi.ofInt 1 - gm s p p * g ≠ Qi.zero := by simp at he; exact he
    have he : trmE z s ((p : Int) + 1) g = 0 := by rw [htd, if_neg hz]
    haveI ff : FitC (trmF s p g) (7 * L + 11) := trmF_fit hf hg hL hz
    have hll : (lftL p m).length = m := tab_len _ _
    refine T_skip (ts (ro rfl (op_ldBA A_30 Z_30 (Ht rfl) (i := 0) rfl rfl rfl) (rm rfl (ro rfl (op_bslice (xs := [.tmp 55]) U_91 Z_3 O_3 (Elems.cons (Ht rfl) Elems.nil) rfl rfl rfl) (ro rfl (op_call Tryz.call151 (Fun.imp (c_left (z := z) (s := s) (p := p) hp hl) (slT_of (by rw [← hm]))) ⟨(Ht rfl), (Ht rfl), trivial⟩) ?_)))))
    refine ra rfl (R_nil (ts (ro rfl (op_ldBA A_30 Z_30 (Ht rfl) (i := 0) rfl rfl rfl) (rm rfl (R_call0 Tryz.call147 (c_partO (p := p) (m := m) hs hp hm hl) ⟨(Ht rfl), (Ht rfl), trivial⟩ rfl (fun B60 _ => (rn rfl (new_alloc (Ts := [Is (.slice none 0 0), Is (.slice none 0 0)]) O_30 rfl (fun V => Cells.cons' ⟨rfl, trivial⟩ (Cells.cons' ⟨rfl, trivial⟩ (Cells.nil)))) fun B12 => (R_stA Z_30 (Ht rfl) (Ht rfl) rfl (i := 5) rfl (Nat.le_of_ble_eq_true rfl) rfl rfl (R_nil (T_seq (ts (rm rfl (ro rfl (op_len U_91 (Ht rfl) (by rw [List.length_map, hll])) ?_)))))))))))))
    refine ro rfl (op_move (Has.cN 0)) (R_nil (T_block (T_keep [0, 2, 3, 4, 5] rfl (by decide) ?_)))
    refine T_loop (fun (i : Nat) => i ≤ m) (fun (i : Nat) => m - i) (fun (i : Nat) => [(3, PtrB B3 0), (6, PtrB B6 0), (8, NT .i64 p), (9, PtrB B9 0), (11, IntsT (lftL p m)), (12, PtrB B12 0), (61, IntsT (lftL p m)), (62, NT .i64 m), (63, NT .i64 i)]) (fun (i : Nat) => [box B3 30 [NumsT z, NumM s], box B6 30 [Is (.slice none 0 0), Is (.slice none 0 0)], box B9 49 [BoolT (decide ((trmF s p g).a < 0)), NatT (trmF s p g).a.natAbs, BoolT (decide ((trmF s p g).b < 0)), NatT (trmF s p g).b.natAbs, NatT (du (trmF s p g))], matO B60 27 49 5 (FRow NumT (mixG (fun i => tab m fun j => trmX s p (trmF s p g) i j) (fun i => tab m fun j => gm s (skp p i) (skp p j)) m i)), box B12 30 [NumsT (prtZ z p m), Is (.slice (some ⟨B60, 0, none⟩) m m)]]) 0 (Nat.zero_le _)
     (Sub.cons rfl (Sub.cons rfl (Sub.cons rfl (Sub.cons rfl (Sub.cons rfl (Sub.cons rfl (Sub.cons rfl (Sub.cons rfl (Sub.cons rfl Sub.nil))))))))) (HSub.cons (fun _ _ _ h => h) (HSub.cons (fun _ _ _ h => h) (HSub.cons (box_of rfl) (HSub.cons (matO_of (by rw [← mixG_zero]; rfl)) (HSub.cons (box_of rfl) HSub.nil))))) (fun i hi => ?_)
    refine ts (ro rfl (op_lssN (Ht rfl) (Ht rfl)) (R_nil (T_seq (T_cond (Ht rfl) (fun hd => ?_) (fun hd => ?_)))))
    ·simp only [decide_eq_true_eq] at hd
     have hki : skp p i < z.length := skp_lt (by omega) hp
     have hsr := hs.row hki
     refine T_focus 3 (i) rfl (frow_mixG hd) (fun v => (T_skip (T_seq (T_block (ts (rm rfl (ro rfl (op_idx U_91 Z_3 (Ht rfl) (Ht rfl) rfl (map_get (lft_get hd))) (ro rfl (op_ld A_3 Z_3 (Ht rfl)) (ra rfl (ra rfl (R_nil (ts (rm rfl (ro rfl (op_len U_91 (Ht rfl) (by rw [List.length_map, hll])) ?_))))))))))))))
     refine ro rfl (op_move (Has.cN 0)) (R_nil (T_block ?_))
     refine T_loop (fun (j : Nat) => j ≤ m) (fun (j : Nat) => m - j) (fun (j : Nat) => [(3, PtrB B3 0), (6, PtrB B6 0), (8, NT .i64 p), (9, PtrB B9 0), (11, IntsT (lftL p m)), (12, PtrB B12 0), (13, NT .i64 i), (14, NT .i64 (skp p i + 1)), (61, IntsT (lftL p m)), (62, NT .i64 m), (63, NT .i64 i), (68, IntsT (lftL p m)), (69, NT .i64 m), (70, NT .i64 j)]) (fun (j : Nat) => [box B3 30 [NumsT z, NumM s], box B6 30 [Is (.slice none 0 0), Is (.slice none 0 0)], box B9 49 [BoolT (decide ((trmF s p g).a < 0)), NatT (trmF s p g).a.natAbs, BoolT (decide ((trmF s p g).b < 0)), NatT (trmF s p g).b.natAbs, NatT (du (trmF s p g))], matH B60 27 49 5 (FRow NumT (mixG (fun i => tab m fun j => trmX s p (trmF s p g) i j) (fun i => tab m fun j => gm s (skp p i) (skp p j)) m i)) i v, box B12 30 [NumsT (prtZ z p m), Is (.slice (some ⟨B60, 0, none⟩) m m)], rowO 49 5 v ((mixG (fun j => trmX s p (trmF s p g) i j) (fun j => gm s (skp p i) (skp p j)) m j).map NumT)]) 0 (Nat.zero_le _)
      (Sub.cons rfl (Sub.cons rfl (Sub.cons rfl (Sub.cons rfl (Sub.cons rfl (Sub.cons rfl (Sub.cons rfl (Sub.cons rfl (Sub.cons rfl (Sub.cons rfl (Sub.cons rfl (Sub.cons rfl (Sub.cons rfl (Sub.cons rfl Sub.nil)))))))))))))) (HSub.cons (fun _ _ _ h => h) (HSub.cons (fun _ _ _ h => h) (HSub.cons (fun _ _ _ h => h) (HSub.cons (fun _ _ _ h => h) (HSub.cons (fun _ _ _ h => h) (HSub.cons (rowO_of (by rw [← mixG_zero])) HSub.nil)))))) (fun j hj => ?_)
     refine ts (ro rfl (op_lssN (Ht rfl) (Ht rfl)) (R_nil (T_seq (T_cond (Ht rfl) (fun hf2 => ?_) (fun hf2 => ?_)))))
     ·simp only [decide_eq_true_eq] at hf2
      have hkj : skp p j < z.length := skp_lt (by omega) hp
      have hrl := mixG_len (fun j => trmX s p (trmF s p g) i j) (fun j => gm s (skp p i) (skp p j)) m j
      haveI g1 : FitC (gm s (skp p i) (skp p j)) L := hf.get hL _ _
      haveI g2 : FitC (gm s (skp p i) p) L := hf.get hL _ _
      haveI g3 : FitC (gm s p (skp p j)) L := hf.get hL _ _
      refine T_skip (T_seq (T_block (ts (rm rfl (ro rfl (op_idx U_91 Z_3 (Ht rfl) (Ht rfl) rfl (map_get (lft_get hf2))) (ro rfl (op_ld A_3 Z_3 (Ht rfl)) (ra rfl (ra rfl (R_nil (C.D_start (m := 39) (dp 12 rfl (op_fldB fa_30_1 (Ht rfl) rfl) (dq 75 0 rfl (op_ldB A_28 Z_28 (Ht rfl) (i := 4) rfl rfl) (dp 13 rfl (op_move (Ht rfl)) (dqq 76 1 77 2 rfl (op_idxB U_28 Z_27 (Ht rfl) (Ht rfl) rfl (by omega) (by rw [Nat.mul_one, Nat.zero_add])) ?_))))))))))))))
      refine dq 78 3 rfl (op_ldH A_27 Z_27 (Ht rfl) (j := 3) rfl) (dp 15 rfl (op_move (Ht rfl)) (dp 12 rfl (op_fldB fa_30_1 (Ht rfl) rfl) (dq 81 6 rfl (op_ldB A_28 Z_28 (Ht rfl) (i := 4) rfl rfl) (dp 13 rfl (op_move (Ht rfl)) (dqq 82 7 83 8 rfl (op_idxB U_28 Z_27 (Ht rfl) (Ht rfl) rfl (by omega) (by rw [Nat.mul_one, Nat.zero_add])) ?_)))))
      refine dq 84 9 rfl (op_ldH A_27 Z_27 (Ht rfl) (j := 3) rfl) (dp 15 rfl (op_move (Ht rfl)) (dqq 85 10 86 11 rfl (op_idxO U_27 Z_49 (Ht rfl) (Ht rfl) rfl (i := 5) rfl (by simp only [List.length_map, hrl]; omega) rfl) ?_))
      refine dq 87 12 rfl (op_ldO A_49 Z_49 (Ht rfl) (i := 5) rfl rfl (map_get (mixG_get hf2))) (dq 88 13 rfl (op_iface mkif_49 (Ht rfl)) (dp 3 rfl (op_fldB fa_30_1 (Ht rfl) rfl) (dq 90 15 rfl (op_ldB A_28 Z_28 (Ht rfl) (i := 0) rfl rfl) (dp 14 rfl (op_move (Ht rfl)) (dq 92 17 rfl (OpTy.nat (op_subN (Ht rfl) (Has.cN 1) (by omega) (by show _ < 9223372036854775808; first | omega | (simp only [lim]; omega))) (show skp p i + 1 - 1 = skp p i by omega)) (dqq 91 16 93 18 rfl (op_idx U_28 Z_27 (Ht rfl) (Ht rfl) rfl (map_get (getD_some (d := []) (by omega)))) ?_))))))
      refine dq 94 19 rfl (op_ld A_27 Z_27 (Ht rfl)) (dp 8 rfl (op_move (Ht rfl)) (dqq 95 20 96 21 rfl (op_idx U_27 Z_49 (Ht rfl) (Ht rfl) rfl (map_get (getD_some (d := Qi.zero) (by omega)))) (dq 97 22 rfl (op_ld A_49 Z_49 (Ht rfl)) (dq 98 23 rfl (op_iface mkif_49 (Ht rfl)) (dp 9 rfl (op_ldBA A_49 Z_49 (Ht rfl) (i := 2) rfl rfl rfl) (dq 100 25 rfl (op_iface mkif_49 (Ht rfl)) (dp 3 rfl (op_fldB fa_30_1 (Ht rfl) rfl) (dq 102 27 rfl (op_ldB A_28 Z_28 (Ht rfl) (i := 0) rfl rfl) (dp 8 rfl (op_move (Ht rfl)) ?_)))))))))
      refine dqq 103 28 104 29 rfl (op_idx U_28 Z_27 (Ht rfl) (Ht rfl) rfl (map_get (getD_some (d := []) (by omega)))) (dq 105 30 rfl (op_ld A_27 Z_27 (Ht rfl)) (dp 16 rfl (op_move (Ht rfl)) (dq 107 32 rfl (OpTy.nat (op_subN (Ht rfl) (Has.cN 1) (by omega) (by show _ < 9223372036854775808; first | omega | (simp only [lim]; omega))) (show skp p j + 1 - 1 = skp p j by omega)) (dqq 106 31 108 33 rfl (op_idx U_27 Z_49 (Ht rfl) (Ht rfl) rfl (map_get (getD_some (d := Qi.zero) (by omega)))) (dq 109 34 rfl (op_ld A_49 Z_49 (Ht rfl)) ?_)))))
      refine dqq 101 26 110 35 rfl (op_invoke meth_49_Mul K_69 (c_Mul (x := trmF s p g) (y := gm s p (skp p j)) (L := 7 * L + 11) (M := L) (by omega)) (Ht rfl) ⟨(Ht rfl), trivial⟩) (dqq 99 24 111 36 rfl (op_invoke meth_49_Mul K_69 (c_Mul (x := gm s (skp p i) p) (y := trmF s p g * gm s p (skp p j)) (L := L) (M := 7 * L + 11 + L + 1) (by omega)) (Ht rfl) ⟨(Ht rfl), trivial⟩) (dqq 89 14 112 37 rfl (op_invoke meth_49_Add Tryz.call71 (c_Add (x := gm s (skp p i) (skp p j)) (y := gm s (skp p i) p * (trmF s p g * gm s p (skp p j))) (L := L) (M := L + (7 * L + 11 + L + 1) + 1) (by omega)) (Ht rfl) ⟨(Ht rfl), trivial⟩) ?_))
      refine C.D_done mixed rfl (by kernel_rfl) (C.F_val (C.F_val (C.F_val (C.F_val (C.F_val (C.F_val (C.F_val (C.F_val (C.F_val (C.F_val (C.F_val (C.F_val (C.F_val (C.F_val (C.F_val (C.F_val (C.F_val (C.F_val (C.F_val (C.F_val (C.F_val (C.F_val (C.F_val (C.F_val (C.F_val (C.F_val (C.F_val (C.F_val (C.F_val (C.F_val (C.F_val (C.F_val (C.F_val (C.F_val (C.F_val (C.F_val (C.F_val (C.F_val (C.F_val (C.F_nil (ro rfl (op_idxO U_27 Z_49 (Ht rfl) (Ht rfl) rfl (i := 5) rfl (by simp only [List.length_map, hrl]; omega) rfl) ?_)))))))))))))))))))))))))))))))))))))))))
      refine R_stO Z_49 (Ht rfl) (Ht rfl) (El.ag rfl) (i := 5) rfl rfl (by simp only [List.length_map, hrl]; omega) rfl ?_
      refine R_nil (T_blk (T_region (ro rfl (op_addN (Ht rfl) (Has.cN 1) (by show _ < 9223372036854775808; first | omega | (simp only [lim]; omega))) (rm rfl (R_nil (T_again (j + 1) hf2 (by omega) (Sub.cons rfl (Sub.cons rfl (Sub.cons rfl (Sub.cons rfl (Sub.cons rfl (Sub.cons rfl (Sub.cons rfl (Sub.cons rfl (Sub.cons rfl (Sub.cons rfl (Sub.cons rfl (Sub.cons rfl (Sub.cons rfl (Sub.cons rfl Sub.nil)))))))))))))) (HSub.cons (fun _ _ _ h => h) (HSub.cons (fun _ _ _ h => h) (HSub.cons (fun _ _ _ h => h) (HSub.cons (fun _ _ _ h => h) (HSub.cons (fun _ _ _ h => h) (HSub.cons (rowO_of (by rw [set_mapF, ← mixG_set (f := fun j => trmX s p (trmF s p g) i j)]; rfl)) HSub.nil))))))))))))
     ·simp only [decide_eq_false_iff_not] at hf2
      obtain rfl : m = j := Nat.le_antisymm (by omega) hj
      refine T_exit rfl (T_blk (T_unfocus 3 5 rfl rfl (by decide) (by simp only [FRow, List.length_map, mixG_len]; omega) ?_))
      refine T_region (ro rfl (op_addN (Ht rfl) (Has.cN 1) (by show _ < 9223372036854775808; first | omega | (simp only [lim]; omega))) (rm rfl (R_nil (T_keep [0, 1, 2, 3, 4] rfl (by decide) (T_again (i + 1) hd (by omega) (Sub.cons rfl (Sub.cons rfl (Sub.cons rfl (Sub.cons rfl (Sub.cons rfl (Sub.cons rfl (Sub.cons rfl (Sub.cons rfl (Sub.cons rfl Sub.nil))))))))) (HSub.cons (fun _ _ _ h => h) (HSub.cons (fun _ _ _ h => h) (HSub.cons (fun _ _ _ h => h) (HSub.cons (matO_of (by rw [set_FRow, mixG_fin, ← mixG_set (f := (fun i => tab m fun j => trmX s p (trmF s p g) i j))])) (HSub.cons (fun _ _ _ h => h) HSub.nil))))))))))
    ·simp only [decide_eq_false_iff_not] at hd
     obtain rfl : m = i := Nat.le_antisymm (by omega) hi
     rw [mixG_fin]
     refine T_exit rfl (T_seq (T_frzcellG 4 3 1 rfl rfl rfl (by decide) (frzM (q := fun _ => True) (M := trmS s p m (trmF s p g)) (tab_len _ _).symm) ?_))
     subst hm
     refine T_region (ro rfl (op_ldBA A_30 Z_30 (Ht rfl) (i := 4) rfl rfl rfl) (R_stA Z_30 (Ht rfl) (Ht rfl) rfl (i := 1) rfl (Nat.le_of_ble_eq_true rfl) rfl rfl (ro rfl (op_assign (Has.cN 0)) (R_nil (T_ret2 rfl (rv_to (rv_cell A_30 Z_30 rfl (i := 1) rfl rfl) ?_) (rv_to (rv_tmp rfl) ?_))))))
     ·exact (trm_good he)
     ·exact (int_of he.symm)
end Go.Proofs.YtbnpmobaglfcbaaGreat
namespace Go.Proofs.YtbnpmobaglfcbaaGreat
open Go Go.RowKit
def fwZ : List Qi := [r50, r50].map Rt.q
def fwS : List (List Qi) := rq [[rHalf, rHalf], [rHalf, rHalf]]
def fwTZ : List Qi := trmRZ fwZ fwS 2 (Qi.ofInt 1)
def fwTS : List (List Qi) := trmRS fwZ fwS 2 (Qi.ofInt 1)
theorem fw_err : netErr fwZ fwS = 0 := by decide +kernel
theorem fw_shp : Shp fwS fwZ.length fwZ.length := (netErr_ok fw_err).2.2.1
theorem fw_trm : trmE fwZ fwS 2 (Qi.ofInt 1) = 0 := by decide +kernel
theorem fw_tz : fwTZ.length = 1 := by decide +kernel
theorem fw_ts : fwTS = [[Qi.ofInt 1]] := by decide +kernel
theorem fw_inv : invE (pmM true (idM fwZ.length) fwS fwZ.length) fwZ.length ≠ 0 := by decide +kernel
theorem fw_fz : FitL fwZ 2 := FitL.rt
theorem fw_fs : FitM fwS 2 := FitM.rt
theorem fw_f1 : FitC (Qi.ofInt 1) 2 := fit_one.le (by decide)
theorem fw_net : ∀ v V, (TupT [NetT (okL (netErr fwZ fwS) fwZ) (okL (netErr fwZ fwS) fwS), IntT .i64 (netErr fwZ fwS)]).p v V → (TupT [NetT fwZ fwS, IntT .i64 0]).p v V := by rw [fw_err]; exact fun _ _ h => h
theorem fw_ter : ∀ v V, (TupT [NetT (trmRZ fwZ fwS ((2 : Nat) : Int) (Qi.ofInt 1)) (trmRS fwZ fwS ((2 : Nat) : Int) (Qi.ofInt 1)), IntT .i64 (trmE fwZ fwS ((2 : Nat) : Int) (Qi.ofInt 1))]).p v V → (TupT [NetT fwTZ fwTS, IntT .i64 0]).p v V := by
  rw [show trmE fwZ fwS ((2 : Nat) : Int) (Qi.ofInt 1) = 0 from fw_trm]; exact fun _ _ h => h
theorem fw_tsh : Shp fwTS fwTZ.length fwTZ.length := by rw [fw_tz, fw_ts]; exact ⟨rfl, by simp⟩
theorem fw_at : ∀ v V, (TupT [NumT (pkm fwTZ.length fwTS ((1 : Nat) : Int) ((1 : Nat) : Int)), IntT .i64 (if (1 ≤ ((1 : Nat) : Int) ∧ ((1 : Nat) : Int) ≤ fwTZ.length) ∧ 1 ≤ ((1 : Nat) : Int) ∧ ((1 : Nat) : Int) ≤ fwTZ.length then 0 else 1)]).p v V → (TupT [NumT (Qi.ofInt 1), IntT .i64 0]).p v V := by
  rw [fw_tz, fw_ts, if_pos (by decide)]
  rw [show pkm 1 [[Qi.ofInt 1]] ((1 : Nat) : Int) ((1 : Nat) : Int) = Qi.ofInt 1 from rfl]
  exact fun _ _ h => h
theorem fw_t : txt (Qi.ofInt 1) = [49] := by decide +kernel
end Go.Proofs.YtbnpmobaglfcbaaGreat
namespace Go.Proofs.YtbnpmobaglfcbaaGreat
open Go Go.RowKit
set_option maxHeartbeats 1000000 in
set_option maxRecDepth 20000 in
theorem c_awake4  : Fun Tryz.prog 27 [] (BoolT true) := by
 refine Fun.intro Tryz.func27 rfl Tryz.ntmps27 rfl (fun cx => (ts (ro rfl (op_assign Has.c) (R_nil (ts (ro rfl (bld_26_0_2 Has.c Has.c) (rn rfl (new_alloc (Ts := [Is (.int .i64 0), Is (.int .i64 0), Is (.int .i64 0)]) O_26 rfl (fun V => Cells.cons' ⟨rfl, trivial⟩ (Cells.cons' ⟨rfl, trivial⟩ (Cells.cons' ⟨rfl, trivial⟩ (Cells.nil))))) fun B1 => (R_stA Z_26 (Ht rfl) (Ht rfl) rfl (i := 0) rfl (Nat.le_of_ble_eq_true rfl) rfl rfl (R_nil (T_seq (Y.D_start (m := 18) [] (Y.D_hide (Ei := []) rfl rfl Y.Srcs.nil rfl rfl (S_plain rfl (bld_26_0 Has.c)) (Y.D_hide (Ei := []) rfl rfl Y.Srcs.nil rfl rfl (S_plain rfl (bld_26_0 Has.c)) ?_)))))))))))))
 refine Y.D_hide (Ei := [(12, _), (13, _)]) rfl rfl (Y.Srcs.cons (Y.Src.op 0 rfl rfl) (Y.Srcs.cons (Y.Src.op 1 rfl rfl) Y.Srcs.nil)) rfl rfl (S_plain rfl (op_bslice (xs := [.tmp 12, .tmp 13]) U_22 Z_26 O_26 (Elems.cons (Ht rfl) (Elems.cons (Ht rfl) Elems.nil)) rfl rfl rfl)) (Y.D_hide (Ei := [(14, _)]) rfl rfl (Y.Srcs.cons (Y.Src.op 2 rfl rfl) Y.Srcs.nil) rfl rfl (S_plain rfl (op_call Tryz.call19 (c_lawList (l := [r50, r50]) (by decide)) ⟨(Ht rfl), trivial⟩)) (Y.D_hide (Ei := [(1, _)]) rfl rfl (Y.Srcs.cons (Y.Src.pre rfl rfl) Y.Srcs.nil) rfl rfl (S_plain rfl (op_ldBA A_26 Z_26 (Ht rfl) (i := 0) rfl rfl rfl)) ?_))
 refine Y.D_hide (Ei := [(1, _)]) rfl rfl (Y.Srcs.cons (Y.Src.pre rfl rfl) Y.Srcs.nil) rfl rfl (S_plain rfl (op_ldBA A_26 Z_26 (Ht rfl) (i := 0) rfl rfl rfl)) (Y.D_hide (Ei := [(16, _), (17, _)]) rfl rfl (Y.Srcs.cons (Y.Src.op 4 rfl rfl) (Y.Srcs.cons (Y.Src.op 5 rfl rfl) Y.Srcs.nil)) rfl rfl (S_plain rfl (op_bslice (xs := [.tmp 16, .tmp 17]) U_22 Z_26 O_26 (Elems.cons (Ht rfl) (Elems.cons (Ht rfl) Elems.nil)) rfl rfl rfl)) (Y.D_hide (Ei := [(1, _)]) rfl rfl (Y.Srcs.cons (Y.Src.pre rfl rfl) Y.Srcs.nil) rfl rfl (S_plain rfl (op_ldBA A_26 Z_26 (Ht rfl) (i := 0) rfl rfl rfl)) ?_))
 refine Y.D_hide (Ei := [(1, _)]) rfl rfl (Y.Srcs.cons (Y.Src.pre rfl rfl) Y.Srcs.nil) rfl rfl (S_plain rfl (op_ldBA A_26 Z_26 (Ht rfl) (i := 0) rfl rfl rfl)) (Y.D_hide (Ei := [(19, _), (20, _)]) rfl rfl (Y.Srcs.cons (Y.Src.op 7 rfl rfl) (Y.Srcs.cons (Y.Src.op 8 rfl rfl) Y.Srcs.nil)) rfl rfl (S_plain rfl (op_bslice (xs := [.tmp 19, .tmp 20]) U_22 Z_26 O_26 (Elems.cons (Ht rfl) (Elems.cons (Ht rfl) Elems.nil)) rfl rfl rfl)) (Y.D_hide (Ei := [(18, _), (21, _)]) rfl rfl (Y.Srcs.cons (Y.Src.op 6 rfl rfl) (Y.Srcs.cons (Y.Src.op 9 rfl rfl) Y.Srcs.nil)) rfl rfl (S_plain rfl (op_bslice (xs := [.tmp 18, .tmp 21]) U_37 Z_22 Tryz.zeroValue22 (Elems.cons (Ht rfl) (Elems.cons (Ht rfl) Elems.nil)) rfl rfl rfl)) ?_))
 refine Y.D_hide (Ei := [(22, _)]) rfl rfl (Y.Srcs.cons (Y.Src.op 10 rfl rfl) Y.Srcs.nil) rfl rfl (S_plain rfl (op_call Tryz.call20 (c_lawRows (m := [[rHalf, rHalf], [rHalf, rHalf]]) (by decide) (by intro r hr; simp at hr; subst hr; decide)) ⟨(Ht rfl), trivial⟩)) ?_
 refine Y.D_hide (Ei := [(15, _), (23, _)]) rfl rfl (Y.Srcs.cons (Y.Src.op 3 rfl rfl) (Y.Srcs.cons (Y.Src.op 11 rfl rfl) Y.Srcs.nil)) rfl rfl (S_plain rfl (op_call Tryz.call18 (Fun.imp (c_netNew (z := fwZ) (s := fwS) (L := 2) fw_fz (by decide) (by decide) (by decide)) fw_net) ⟨(Ht rfl), (Ht rfl), trivial⟩)) (Y.D_hide (Ei := [(24, _)]) rfl rfl (Y.Srcs.cons (Y.Src.op 12 rfl rfl) Y.Srcs.nil) rfl rfl (S_plain rfl (op_move (Ht rfl))) (Y.D_hide (Ei := [(11, _)]) rfl rfl (Y.Srcs.cons (Y.Src.op 13 rfl rfl) Y.Srcs.nil) rfl rfl (S_plain rfl (op_extract (Ht rfl) rfl)) (Y.D_hide (Ei := [(11, _)]) rfl rfl (Y.Srcs.cons (Y.Src.op 13 rfl rfl) Y.Srcs.nil) rfl rfl (S_plain rfl (op_extract (Ht rfl) rfl)) ?_)))
 refine Y.D_newp (Ei := []) (fun bb => box bb 30 [NumsT fwZ, NumM fwS]) 17 rfl rfl rfl Y.Srcs.nil rfl rfl (by kernel_rfl) (new_alloc (Ts := [Is (.slice none 0 0), Is (.slice none 0 0)]) O_30 rfl (fun V => Cells.cons' ⟨rfl, trivial⟩ (Cells.cons' ⟨rfl, trivial⟩ (Cells.nil)))) (Y.D_putN (Ei := [(25, _)]) 16 rfl rfl rfl rfl rfl rfl (Y.Srcs.cons (Y.Src.op 14 rfl rfl) Y.Srcs.nil) (fun bb => P_stA Z_30 (Ht rfl) (Ht rfl) rfl (i := 0) rfl (Nat.le_of_ble_eq_true rfl) rfl rfl) (Y.D_done mixed rfl (by kernel_rfl) rfl (by simp [Y.okP]) rfl rfl (Y.F_val (Y.F_val (Y.F_val (Y.F_val (Y.F_val (Y.F_val (Y.F_val (Y.F_val (Y.F_val (Y.F_val (Y.F_val (Y.F_val (Y.F_val (Y.F_val (Y.F_val (Y.F_val (Y.F_newp (fun B2 => Y.F_putN (Y.F_nil ?_)))))))))))))))))))))
 refine ra rfl (R_nil (T_seq (Y.D_start (m := 8) [] (Y.D_hide (Ei := [(2, _)]) rfl rfl (Y.Srcs.cons (Y.Src.pre rfl rfl) Y.Srcs.nil) rfl rfl (S_plain rfl (op_ldBA A_30 Z_30 (Ht rfl) (i := 1) rfl rfl rfl)) (Y.D_hide (Ei := []) rfl rfl Y.Srcs.nil rfl rfl (S_plain rfl (op_call Tryz.call95 (c_Int (n := 1) (by decide) (by decide)) ⟨(Has.cN 1), trivial⟩)) (Y.D_hide (Ei := [(28, _), (29, _)]) rfl rfl (Y.Srcs.cons (Y.Src.op 0 rfl rfl) (Y.Srcs.cons (Y.Src.op 1 rfl rfl) Y.Srcs.nil)) rfl rfl (S_plain rfl (op_call Tryz.call62 (Fun.imp (c_Term (z := fwZ) (s := fwS) (port := ((2 : Nat) : Int)) (g := Qi.ofInt 1) (L := 2) fw_shp fw_fs fw_f1 (by decide) (by decide) (by decide)) fw_ter) ⟨(Ht rfl), (Has.cN 2), (Ht rfl), trivial⟩)) ?_))))))
 refine Y.D_hide (Ei := [(30, _)]) rfl rfl (Y.Srcs.cons (Y.Src.op 2 rfl rfl) Y.Srcs.nil) rfl rfl (S_plain rfl (op_move (Ht rfl))) (Y.D_hide (Ei := [(27, _)]) rfl rfl (Y.Srcs.cons (Y.Src.op 3 rfl rfl) Y.Srcs.nil) rfl rfl (S_plain rfl (op_extract (Ht rfl) rfl)) (Y.D_hide (Ei := [(27, _)]) rfl rfl (Y.Srcs.cons (Y.Src.op 3 rfl rfl) Y.Srcs.nil) rfl rfl (S_plain rfl (op_extract (Ht rfl) rfl)) (Y.D_newp (Ei := []) (fun bb => box bb 30 [NumsT fwTZ, NumM fwTS]) 7 rfl rfl rfl Y.Srcs.nil rfl rfl (by kernel_rfl) (new_alloc (Ts := [Is (.slice none 0 0), Is (.slice none 0 0)]) O_30 rfl (fun V => Cells.cons' ⟨rfl, trivial⟩ (Cells.cons' ⟨rfl, trivial⟩ (Cells.nil)))) ?_)))
 refine Y.D_putN (Ei := [(31, _)]) 6 rfl rfl rfl rfl rfl rfl (Y.Srcs.cons (Y.Src.op 4 rfl rfl) Y.Srcs.nil) (fun bb => P_stA Z_30 (Ht rfl) (Ht rfl) rfl (i := 0) rfl (Nat.le_of_ble_eq_true rfl) rfl rfl) (Y.D_done mixed rfl (by kernel_rfl) rfl (by simp [Y.okP]) rfl rfl (Y.F_val (Y.F_val (Y.F_val (Y.F_val (Y.F_val (Y.F_val (Y.F_newp (fun B4 => Y.F_putN (Y.F_nil ?_))))))))))
 refine ra rfl (R_nil (ts (ro rfl (op_ldBA A_30 Z_30 (Ht rfl) (i := 2) rfl rfl rfl) (ro rfl (op_call Tryz.call67 (Fun.imp (c_At (z := fwTZ) (s := fwTS) (i := ((1 : Nat) : Int)) (j := ((1 : Nat) : Int)) fw_tsh (by rw [fw_tz]; decide)) fw_at) ⟨(Ht rfl), (Has.cN 1), (Has.cN 1), trivial⟩) ?_))))
 refine rm rfl (ro rfl (op_extract (Ht rfl) rfl) (ro rfl (op_extract (Ht rfl) rfl) (rn rfl (new_alloc (Ts := [Is (.bool false), Is (.slice none 0 0), Is (.bool false), Is (.slice none 0 0), Is (.slice none 0 0)]) O_49 rfl (fun V => Cells.cons' ⟨rfl, trivial⟩ (Cells.cons' ⟨rfl, trivial⟩ (Cells.cons' ⟨rfl, trivial⟩ (Cells.cons' ⟨rfl, trivial⟩ (Cells.cons' ⟨rfl, trivial⟩ (Cells.nil))))))) fun B6 => (R_stA Z_49 (Ht rfl) (Ht rfl) rfl (i := 3) rfl (Nat.le_of_ble_eq_true rfl) rfl rfl (ra rfl (R_nil (ts (ro rfl (op_ldBA A_30 Z_30 (Ht rfl) (i := 1) rfl rfl rfl) ?_))))))))
 refine ro rfl (op_call Tryz.call38 (c_ImpE (z := fwZ) (s := fwS) (L := 2) fw_shp fw_fs (by decide) (by decide) (by decide) (by decide +kernel) (by decide +kernel) fw_inv) ⟨(Ht rfl), trivial⟩) (rm rfl (ro rfl (op_extract (Ht rfl) rfl) (ro rfl (op_extract (Ht rfl) rfl) (ra rfl (ra rfl (R_nil (ts (rm rfl (ro rfl (op_eql (Ht rfl) Has.c) (rm rfl (R_step rfl rfl (S_when rfl rfl (Ht rfl) (fun h => op_move (Ht rfl))) (R_step rfl rfl (S_when rfl rfl (Ht rfl) (fun h => op_eql (Has.w rfl h) Has.c)) (ro rfl (op_and (Ht rfl) (fun h => (Has.w rfl h))) (rm rfl (R_step rfl rfl (S_when rfl rfl (Ht rfl) (fun h => op_move (Ht rfl))) ?_)))))))))))))))
 refine R_step rfl rfl (S_when rfl rfl (Ht rfl) (fun h => op_eql (Has.w rfl h) Has.c)) (ro rfl (op_and (Ht rfl) (fun h => (Has.w rfl h))) (rm rfl (R_step rfl rfl (S_when rfl rfl (Ht rfl) (fun h => op_move (Ht rfl))) (R_step rfl rfl (S_when rfl rfl (Ht rfl) (fun h => op_eql (Has.w rfl h) Has.c)) (ro rfl (op_and (Ht rfl) (fun h => (Has.w rfl h))) (rm rfl (R_step rfl rfl (S_when rfl rfl (Ht rfl) (fun h => op_ldBA A_30 Z_30 (Ht rfl) (i := 1) rfl rfl rfl)) (R_step rfl rfl (S_when rfl rfl (Ht rfl) (fun h => op_call Tryz.call72 c_Ports ⟨(Has.w rfl h), trivial⟩)) (R_step rfl rfl (S_when rfl rfl (Ht rfl) (fun h => op_eqlN (Has.w rfl h) (Has.cN 2))) ?_)))))))))
 refine ro rfl (op_and (Ht rfl) (fun h => (Has.w rfl h))) (rm rfl (R_step rfl rfl (S_when rfl rfl (Ht rfl) (fun h => op_ldBA A_49 Z_49 (Ht rfl) (i := 3) rfl rfl rfl)) (R_step rfl rfl (S_when rfl rfl (Ht rfl) (fun h => op_call Tryz.call96 (c_Text (x := Qi.ofInt 1) (L := 2) (hx := fw_f1) (by decide)) ⟨(Has.w rfl h), trivial⟩)) (R_step rfl rfl (S_when rfl rfl (Ht rfl) (fun h => op_eqS (Has.w rfl h) (Has.cS (l := [49]) rfl))) (ro rfl (op_and (Ht rfl) (fun h => (Has.w rfl h))) (ra rfl (R_nil (T_ret1 rfl (rv_to (rv_tmp rfl) ?_)))))))))
 exact (bool_of (by rw [fw_t]; rfl))
end Go.Proofs.YtbnpmobaglfcbaaGreat
namespace Go.Proofs.YtbnpmobaglfcbaaGreat
open Go Go.RowKit
set_option maxRecDepth 20000 in
theorem c_refList4 {l : List Rt} (hl : l.length ≤ 1000000) : Fun Tryz.prog 22 [RatsT l] (QsT (l.map Rt.q)) := by
 refine Fun.intro Tryz.func22 rfl Tryz.ntmps22 rfl (fun cx => (ts (ro rfl (op_assign Has.c) (R_nil (ts (rm rfl (ro rfl (op_len U_22 (Ht rfl) len_map) (rn rfl (new_makeO (T := ZQ) (i := Tryz.t81) und_31 info_81 rfl rfl (Ht rfl) rfl zq_p (El.ag rfl) (by show 88 * _ ≤ _; omega) (by omega)) fun B8 => (ra rfl (R_nil (T_seq (ts (rm rfl (ro rfl (op_len U_22 (Ht rfl) len_map) (ro rfl (op_move (Has.cN 0)) (R_nil (T_block ?_)))))))))))))))))
 refine T_loop (fun (k : Nat) => k ≤ l.length) (fun (k : Nat) => l.length - k) (fun (k : Nat) => [(3, Is B8), (9, RatsT l), (10, NT .i64 l.length), (11, NT .i64 k)]) (fun (k : Nat) => [rowO 81 5 B8 (mixT (fun i => QT (l.getD i default).q) ZQ l.length k)]) 0 (Nat.zero_le _)
  (Sub.cons rfl (Sub.cons rfl (Sub.cons rfl (Sub.cons rfl Sub.nil)))) (HSub.cons (rowO_of (by rw [← mix_zero]; exact rep_tab _ _)) HSub.nil) (fun k hk => ?_)
 refine ts (ro rfl (op_lssN (Ht rfl) (Ht rfl)) (R_nil (T_seq (T_cond (Ht rfl) (fun hd => ?_) (fun hd => ?_)))))
 ·simp only [decide_eq_true_eq] at hd
  refine T_skip (T_seq (T_block (ts (rm rfl (ro rfl (op_idx U_22 Z_26 (Ht rfl) (Ht rfl) rfl (map_get (getD_some (d := default) hd))) (ro rfl (op_ld A_26 Z_26 (Ht rfl)) (rn rfl (new_alloc (Ts := [Is (.int .i64 0), Is (.int .i64 0), Is (.int .i64 0)]) O_26 rfl (fun V => Cells.cons' ⟨rfl, trivial⟩ (Cells.cons' ⟨rfl, trivial⟩ (Cells.cons' ⟨rfl, trivial⟩ (Cells.nil))))) fun B5 => (ra rfl (R_stA Z_26 (Ht rfl) (Ht rfl) rfl (i := 1) rfl (Nat.le_of_ble_eq_true rfl) rfl rfl (R_nil (T_region (rm rfl (rm rfl (ro rfl (op_ldBA A_26 Z_26 (Ht rfl) (i := 1) rfl rfl rfl) ?_))))))))))))))
  refine ro rfl (op_call Tryz.call36 c_rOf ⟨(Ht rfl), trivial⟩) (ro rfl (op_idxO U_31 Z_81 (Ht rfl) (Ht rfl) rfl (i := 0) rfl (by rw [mix_len]; omega) rfl) ?_)
  refine R_stO Z_81 (Ht rfl) (Ht rfl) (El.ag rfl) (i := 0) rfl rfl (by rw [mix_len]; omega) rfl ?_
  refine R_nil (T_blk (T_region (ro rfl (op_addN (Ht rfl) (Has.cN 1) (by show _ < 9223372036854775808; first | omega | (simp only [lim]; omega))) (rm rfl (R_nil (T_keep [0] rfl (by decide) (T_again (k + 1) hd (by omega) (Sub.cons rfl (Sub.cons rfl (Sub.cons rfl (Sub.cons rfl Sub.nil)))) (HSub.cons (rowO_of (mix_set (f := fun i => QT (l.getD i default).q))) HSub.nil))))))))
 ·simp only [decide_eq_false_iff_not] at hd
  obtain rfl : k = l.length := Nat.le_antisymm hk (by omega)
  rw [mix_fin]
  refine T_exit rfl (T_freeze (i := 0) (tt := 3) rfl rfl frz_row (ts (rm rfl (ra rfl (R_nil (T_ret1 rfl (rv_to (rv_tmp rfl) ?_)))))))
  exact (slT_of (by rw [← tab_list l Rt.q, tab_map]))
set_option maxRecDepth 20000 in
theorem c_refRows4 {m : List (List Rt)} (hm : m.length ≤ 1000) (hr : ∀ r, r ∈ m → r.length ≤ 1000) : Fun Tryz.prog 23 [RatM m] (QM (rq m)) := by
 refine Fun.intro Tryz.func23 rfl Tryz.ntmps23 rfl (fun cx => (ts (ro rfl (op_assign Has.c) (R_nil (ts (rm rfl (ro rfl (op_len U_37 (Ht rfl) len_map) (rn rfl (new_makeO (T := QsT []) (i := Tryz.t31) und_32 info_31 rfl rfl (Ht rfl) rfl (fun V => nil_slT _ _ rfl) El.one (by show 24 * _ ≤ _; omega) (by omega)) fun B8 => (ra rfl (R_nil (T_seq (ts (rm rfl (ro rfl (op_len U_37 (Ht rfl) len_map) (ro rfl (op_move (Has.cN 0)) (R_nil (T_block ?_)))))))))))))))))
 refine T_loop2 (fun (k : Nat) (out : List (List Qi)) => FillS (fun i => (m.getD i default).map Rt.q) m.length out k) (fun (k : Nat) (out : List (List Qi)) => m.length - k) (fun (k : Nat) (out : List (List Qi)) => [(3, Is B8), (9, RatM m), (10, NT .i64 m.length), (11, NT .i64 k)]) (fun (k : Nat) (out : List (List Qi)) => [rowO 31 1 B8 (out.map QsT)]) 0 (List.replicate m.length []) (FillS.start _ _ _)
  (Sub.cons rfl (Sub.cons rfl (Sub.cons rfl (Sub.cons rfl Sub.nil)))) (HSub.cons (rowO_of (rep_mapF QsT _ _)) HSub.nil) (fun k out hS => ?_)
 refine ts (ro rfl (op_lssN (Ht rfl) (Ht rfl)) (R_nil (T_seq (T_cond (Ht rfl) (fun hk => ?_) (fun hk => ?_)))))
 ·simp only [decide_eq_true_eq] at hk
  have hlen := hS.len
  have hrk : (m.getD k default).length ≤ 1000 := by
   have e : m.getD k default = m[k] := by simp [List.getD, hk]
   rw [e]; exact hr _ (List.getElem_mem hk)
  refine T_skip (T_seq (T_block (ts (rm rfl (ro rfl (op_idx U_37 Z_22 (Ht rfl) (Ht rfl) rfl (map_get (getD_some (d := default) hk))) (ro rfl (op_ld A_22 Z_22 (Ht rfl)) (ra rfl (ra rfl (R_nil (T_region (rm rfl (rm rfl (rm rfl (ro rfl (op_call Tryz.call22 (c_refList4 (by omega)) ⟨(Ht rfl), trivial⟩) (ro rfl (op_idxO U_32 Z_31 (Ht rfl) (Ht rfl) rfl (i := 0) rfl (by first | omega | (simp; omega)) rfl) (R_stO Z_31 (Ht rfl) (Ht rfl) El.one (i := 0) rfl rfl (by first | omega | (simp; omega)) rfl (R_nil (T_blk ?_))))))))))))))))))
  refine T_region (ro rfl (op_addN (Ht rfl) (Has.cN 1) (by show _ < 9223372036854775808; first | omega | (simp only [lim]; omega))) (rm rfl (R_nil (T_again (k + 1, _) (hS.next hk rfl) (by dsimp only; omega) (Sub.cons rfl (Sub.cons rfl (Sub.cons rfl (Sub.cons rfl Sub.nil)))) (HSub.cons (rowO_of (set_mapF QsT _ _ _)) HSub.nil)))))
 ·simp only [decide_eq_false_iff_not] at hk
  obtain rfl : k = m.length := Nat.le_antisymm hS.kle (by omega)
  have hfin := hS.fin
  rw [tab_list m (fun r => r.map Rt.q)] at hfin
  refine T_exit rfl (T_freeze (i := 0) (tt := 3) rfl rfl frz_row (ts (rm rfl (ra rfl (R_nil (T_ret1 rfl (rv_to (rv_tmp rfl) ?_)))))))
  exact (slT_of (by rw [hfin]))
set_option maxRecDepth 20000 in
theorem c_is4 {z : List Qi} {s : List (List Qi)} {L : Nat} (hz : FitL z L) (hs : FitM s L) (hL1 : 1 ≤ L) (hL : L ≤ 8796093022208) (hsh : Shp s z.length z.length) (hl : z.length ≤ 1000) : Fun Tryz.prog 80 [NetT z s, RNetT z s] (BoolT true) := by
 have hs1 := hsh.1
 refine Fun.intro Tryz.func80 rfl Tryz.ntmps80 rfl (fun cx => (ts (rn rfl (new_box (Ht rfl)) fun B2 => (rn rfl (new_box (Ht rfl)) fun B3 => (ro rfl (op_assign Has.c) (R_nil (T_seq (T_seq (C.D_start (m := 5) (dp 2 rfl (op_ldBA A_30 Z_30 (Ht rfl) (i := 0) rfl rfl rfl) (dq 13 0 rfl (op_call Tryz.call72 c_Ports ⟨(Ht rfl), trivial⟩) (dp 3 rfl (op_fldB fa_34_0 (Ht rfl) rfl) (dq 15 2 rfl (op_ldB A_31 Z_31 (Ht rfl) (i := 1) rfl rfl) (dq 16 3 rfl (op_len U_31 (Ht rfl) len_map) (C.D_done mixed rfl (by kernel_rfl) (C.F_val (C.F_val (C.F_val (C.F_val (C.F_val (C.F_nil ?_)))))))))))))))))))))
 refine ro rfl (op_neqN (Ht rfl) (Ht rfl)) (R_nil (T_condF (Ht rfl) (by simp) ?_))
 refine T_skip (T_seq (ts (ro rfl (op_fldB fa_34_0 (Ht rfl) rfl) (ro rfl (op_ldB A_31 Z_31 (Ht rfl) (i := 1) rfl rfl) (ro rfl (op_len U_31 (Ht rfl) len_map) (ro rfl (op_move (Has.cN 0)) (R_nil (T_block ?_))))))))
 refine T_loop (fun (i : Nat) => i ≤ z.length) (fun (i : Nat) => z.length - i) (fun (i : Nat) => [(2, PtrB B2 0), (3, PtrB B3 0), (20, QsT z), (21, NT .i64 z.length), (22, NT .i64 i)]) (fun (i : Nat) => [box B2 30 [NumsT z, NumM s], box B3 34 [QsT z, QM s]]) 0 (Nat.zero_le _)
  (Sub.cons rfl (Sub.cons rfl (Sub.cons rfl (Sub.cons rfl (Sub.cons rfl Sub.nil))))) (HSub.refl _) (fun i hi => ?_)
 refine ts (ro rfl (op_lssN (Ht rfl) (Ht rfl)) (R_nil (T_seq (T_cond (Ht rfl) (fun hd => ?_) (fun hd => ?_)))))
 ·simp only [decide_eq_true_eq] at hd
  haveI f1 : FitC (gv z i) L := hz.get hL1 i
  have hsr := hsh.row hd
  refine T_skip (T_seq (T_block (ts (rm rfl (ro rfl (op_idx U_31 Z_81 (Ht rfl) (Ht rfl) rfl (map_get (getD_some (d := Qi.zero) hd))) (ro rfl (op_ld A_81 Z_81 (Ht rfl)) (rn rfl (new_alloc (Ts := [Is (.bool false), Is (.slice none 0 0), Is (.bool false), Is (.slice none 0 0), Is (.slice none 0 0)]) O_81 rfl (fun V => Cells.cons' ⟨rfl, trivial⟩ (Cells.cons' ⟨rfl, trivial⟩ (Cells.cons' ⟨rfl, trivial⟩ (Cells.cons' ⟨rfl, trivial⟩ (Cells.cons' ⟨rfl, trivial⟩ (Cells.nil))))))) fun B6 => (ra rfl (R_stA Z_81 (Ht rfl) (Ht rfl) rfl (i := 2) rfl (Nat.le_of_ble_eq_true rfl) rfl rfl ?_)))))))))
  refine R_nil (ts (ro rfl (op_ldBA A_30 Z_30 (Ht rfl) (i := 0) rfl rfl rfl) (rm rfl (ro rfl (op_addN (Ht rfl) (Has.cN 1) (by show _ < 9223372036854775808; first | omega | (simp only [lim]; omega))) (ro rfl (op_call Tryz.call65 (Fun.imp (c_Ref (z := z) (s := s) (i := ((i + 1 : Nat) : Int)) (by omega)) (is_ref hd)) ⟨(Ht rfl), (Ht rfl), trivial⟩) (rm rfl (ro rfl (op_extract (Ht rfl) rfl) (ro rfl (op_extract (Ht rfl) rfl) (rn rfl (new_alloc (Ts := [Is (.bool false), Is (.slice none 0 0), Is (.bool false), Is (.slice none 0 0), Is (.slice none 0 0)]) O_49 rfl (fun V => Cells.cons' ⟨rfl, trivial⟩ (Cells.cons' ⟨rfl, trivial⟩ (Cells.cons' ⟨rfl, trivial⟩ (Cells.cons' ⟨rfl, trivial⟩ (Cells.cons' ⟨rfl, trivial⟩ (Cells.nil))))))) fun B7 => ?_)))))))))
  refine R_stA Z_49 (Ht rfl) (Ht rfl) rfl (i := 3) rfl (Nat.le_of_ble_eq_true rfl) rfl rfl (ra rfl (R_nil (T_seq (ts (rm rfl (ro rfl (op_neq (Ht rfl) Has.c) (rm rfl (R_step rfl rfl (S_when rfl rfl (Ht rfl) (fun h => op_ldBA A_49 Z_49 (Ht rfl) (i := 3) rfl rfl rfl)) (R_step rfl rfl (S_when rfl rfl (Ht rfl) (fun h => op_ldBA A_81 Z_81 (Ht rfl) (i := 2) rfl rfl rfl)) (R_step rfl rfl (S_when rfl rfl (Ht rfl) (fun h => op_call Tryz.call129 (c_lawIs (x := gv z i) (y := gv z i) (L := L) (M := L) hL hL) ⟨(Has.w rfl h), (Has.w rfl h), trivial⟩)) (R_step rfl rfl (S_when rfl rfl (Ht rfl) (fun h => op_not (Has.w rfl h))) ?_)))))))))))
  refine ro rfl (op_or (Ht rfl) (fun h => (Has.w rfl h))) (R_nil (T_condF (Ht rfl) (by simp) ?_))
  refine T_skip (ts (ro rfl (op_fldB fa_34_1 (Ht rfl) rfl) (ro rfl (op_ldB A_32 Z_32 (Ht rfl) (i := 1) rfl rfl) (rm rfl (ro rfl (op_idx U_32 Z_31 (Ht rfl) (Ht rfl) rfl (map_get (getD_some (d := []) (by omega)))) (ro rfl (op_ld A_31 Z_31 (Ht rfl)) (ro rfl (op_len U_31 (Ht rfl) len_map) (ro rfl (op_move (Has.cN 0)) (R_nil (T_block (T_keep [0, 1] rfl (by decide) ?_)))))))))))
  refine T_loop (fun (j : Nat) => j ≤ z.length) (fun (j : Nat) => z.length - j) (fun (j : Nat) => [(2, PtrB B2 0), (3, PtrB B3 0), (5, NT .i64 i), (20, QsT z), (21, NT .i64 z.length), (22, NT .i64 i), (46, QsT (s.getD i [])), (47, NT .i64 z.length), (48, NT .i64 j)]) (fun (j : Nat) => [box B2 30 [NumsT z, NumM s], box B3 34 [QsT z, QM s]]) 0 (Nat.zero_le _)
   (Sub.cons rfl (Sub.cons rfl (Sub.cons rfl (Sub.cons rfl (Sub.cons rfl (Sub.cons rfl (Sub.cons rfl (Sub.to rfl (nt_of hsr) (Sub.cons rfl Sub.nil))))))))) (HSub.refl _) (fun j hj => ?_)
  refine ts (ro rfl (op_lssN (Ht rfl) (Ht rfl)) (R_nil (T_seq (T_cond (Ht rfl) (fun hf => ?_) (fun hf => ?_)))))
  ·simp only [decide_eq_true_eq] at hf
   haveI f2 : FitC (gm s i j) L := hs.get hL1 i j
   refine T_skip (T_seq (T_block (ts (rm rfl (ro rfl (op_idx U_31 Z_81 (Ht rfl) (Ht rfl) rfl (map_get (getD_some (d := Qi.zero) (by omega)))) (ro rfl (op_ld A_81 Z_81 (Ht rfl)) (rn rfl (new_alloc (Ts := [Is (.bool false), Is (.slice none 0 0), Is (.bool false), Is (.slice none 0 0), Is (.slice none 0 0)]) O_81 rfl (fun V => Cells.cons' ⟨rfl, trivial⟩ (Cells.cons' ⟨rfl, trivial⟩ (Cells.cons' ⟨rfl, trivial⟩ (Cells.cons' ⟨rfl, trivial⟩ (Cells.cons' ⟨rfl, trivial⟩ (Cells.nil))))))) fun B10 => (ra rfl (R_stA Z_81 (Ht rfl) (Ht rfl) rfl (i := 2) rfl (Nat.le_of_ble_eq_true rfl) rfl rfl ?_)))))))))
   refine R_nil (ts (ro rfl (op_ldBA A_30 Z_30 (Ht rfl) (i := 0) rfl rfl rfl) (rm rfl (ro rfl (op_addN (Ht rfl) (Has.cN 1) (by show _ < 9223372036854775808; first | omega | (simp only [lim]; omega))) (rm rfl (ro rfl (op_addN (Ht rfl) (Has.cN 1) (by show _ < 9223372036854775808; first | omega | (simp only [lim]; omega))) (ro rfl (op_call Tryz.call67 (Fun.imp (c_At (z := z) (s := s) (i := ((i + 1 : Nat) : Int)) (j := ((j + 1 : Nat) : Int)) hsh (by omega)) (is_at hd hf)) ⟨(Ht rfl), (Ht rfl), (Ht rfl), trivial⟩) (rm rfl (ro rfl (op_extract (Ht rfl) rfl) (ro rfl (op_extract (Ht rfl) rfl) ?_))))))))))
   refine rn rfl (new_alloc (Ts := [Is (.bool false), Is (.slice none 0 0), Is (.bool false), Is (.slice none 0 0), Is (.slice none 0 0)]) O_49 rfl (fun V => Cells.cons' ⟨rfl, trivial⟩ (Cells.cons' ⟨rfl, trivial⟩ (Cells.cons' ⟨rfl, trivial⟩ (Cells.cons' ⟨rfl, trivial⟩ (Cells.cons' ⟨rfl, trivial⟩ (Cells.nil))))))) fun B11 => R_stA Z_49 (Ht rfl) (Ht rfl) rfl (i := 3) rfl (Nat.le_of_ble_eq_true rfl) rfl rfl (ra rfl (R_nil (ts (rm rfl (ro rfl (op_neq (Ht rfl) Has.c) (rm rfl (R_step rfl rfl (S_when rfl rfl (Ht rfl) (fun h => op_ldBA A_49 Z_49 (Ht rfl) (i := 3) rfl rfl rfl)) ?_)))))))
   refine R_step rfl rfl (S_when rfl rfl (Ht rfl) (fun h => op_ldBA A_81 Z_81 (Ht rfl) (i := 2) rfl rfl rfl)) (R_step rfl rfl (S_when rfl rfl (Ht rfl) (fun h => op_call Tryz.call129 (c_lawIs (x := gm s i j) (y := gm s i j) (L := L) (M := L) hL hL) ⟨(Has.w rfl h), (Has.w rfl h), trivial⟩)) (R_step rfl rfl (S_when rfl rfl (Ht rfl) (fun h => op_not (Has.w rfl h))) (ro rfl (op_or (Ht rfl) (fun h => (Has.w rfl h))) (R_nil (T_condF (Ht rfl) (by simp) ?_)))))
   refine T_skip (T_blk (T_region (ro rfl (op_addN (Ht rfl) (Has.cN 1) (by show _ < 9223372036854775808; first | omega | (simp only [lim]; omega))) (rm rfl (R_nil (T_keep [0, 1] rfl (by decide) (T_again (j + 1) hf (by omega) (Sub.cons rfl (Sub.cons rfl (Sub.cons rfl (Sub.cons rfl (Sub.cons rfl (Sub.cons rfl (Sub.cons rfl (Sub.cons rfl (Sub.cons rfl Sub.nil))))))))) (HSub.refl _))))))))
  ·refine T_exit rfl (T_blk (T_region (ro rfl (op_addN (Ht rfl) (Has.cN 1) (by show _ < 9223372036854775808; first | omega | (simp only [lim]; omega))) (rm rfl (R_nil (T_keep [0, 1] rfl (by decide) (T_again (i + 1) hd (by omega) (Sub.cons rfl (Sub.cons rfl (Sub.cons rfl (Sub.cons rfl (Sub.cons rfl Sub.nil))))) (HSub.refl _))))))))
 ·refine T_exit rfl (ts (ro rfl (op_assign Has.c) (R_nil ?_)))
  exact T_ret1 rfl (rv_tmp rfl)
set_option maxRecDepth 20000 in
theorem c_ans4 {z : List Qi} {s : List (List Qi)} {e : Int} {L : Nat} (hz : FitL z L) (hs : FitM s L) (hL1 : 1 ≤ L) (hL : L ≤ 8796093022208) (hsh : Shp s z.length z.length) (hl : z.length ≤ 1000) : Fun Tryz.prog 24 [NetT z s, IntT .i64 e, RNetT z s, IntT .i64 e] (BoolT true) := by
 refine Fun.intro Tryz.func24 rfl Tryz.ntmps24 rfl (fun cx => (ts (rn rfl (new_box (Ht rfl)) fun B4 => (rn rfl (new_box (Ht rfl)) fun B6 => (ro rfl (op_assign Has.c) (R_nil (ts (rm rfl (rm rfl (ro rfl (op_eql (Ht rfl) (Ht rfl)) (rm rfl (R_step rfl rfl (S_when rfl rfl (Ht rfl) (fun h => op_ldBA A_30 Z_30 (Ht rfl) (i := 0) rfl rfl rfl)) (R_step rfl rfl (S_when rfl rfl (Ht rfl) (fun h => op_ldBA A_34 Z_34 (Ht rfl) (i := 1) rfl rfl rfl)) (R_step rfl rfl (S_when rfl rfl (Ht rfl) (fun h => op_call Tryz.call80 (c_is4 hz hs hL1 hL hsh hl) ⟨(Has.w rfl h), (Has.w rfl h), trivial⟩)) ?_))))))))))))))
 refine ro rfl (op_and (Ht rfl) (fun h => (Has.w rfl h))) (ra rfl (R_nil (T_ret1 rfl (rv_to (rv_tmp rfl) ?_))))
 exact (bool_of (by simp))
end Go.Proofs.YtbnpmobaglfcbaaGreat
namespace Go.Proofs.YtbnpmobaglfcbaaGreat
open Go Go.RowKit
theorem tm_bound (x : Int) {b : Int} (h : 0 < b) : -b < x.tmod b ∧ x.tmod b < b := by
  by_cases hx : 0 ≤ x
  · rw [Int.tmod_eq_emod_of_nonneg hx]
    have h1 := Int.emod_nonneg x (by omega : b ≠ 0)
    have h2 := Int.emod_lt_of_pos x h
    omega
  · have e : x.tmod b = -((-x).tmod b) := by rw [Int.neg_tmod, Int.neg_neg]
    rw [e, Int.tmod_eq_emod_of_nonneg (by omega : 0 ≤ -x)]
    have h1 := Int.emod_nonneg (-x) (by omega : b ≠ 0)
    have h2 := Int.emod_lt_of_pos (-x) h
    omega
def absI (x : Int) : Int := if x < 0 then -x else x
theorem absI_b {x : Int} {b : Int} (h : -b < x ∧ x < b) : 0 ≤ absI x ∧ absI x < b := by unfold absI; split <;> omega
def smR (r : Rt) : Rt where
  re := r.re.tmod 9
  im := r.im.tmod 9
  den := absI (r.den.tmod 4) + 1
  h1 := by have := tm_bound r.re (b := 9) (by decide); omega
  h2 := by have := tm_bound r.re (b := 9) (by decide); omega
  h3 := by have := tm_bound r.im (b := 9) (by decide); omega
  h4 := by have := tm_bound r.im (b := 9) (by decide); omega
  h5 := by have := absI_b (tm_bound r.den (b := 4) (by decide)); omega
  h6 := by have := absI_b (tm_bound r.den (b := 4) (by decide)); omega
def imR (r : Rt) : Rt where
  re := absI (smR r).re + 1
  im := 0
  den := (smR r).den
  h1 := by have := absI_b (tm_bound r.re (b := 9) (by decide)); show _ ≤ absI (r.re.tmod 9) + 1; omega
  h2 := by have := absI_b (tm_bound r.re (b := 9) (by decide)); show absI (r.re.tmod 9) + 1 ≤ _; omega
  h3 := by decide
  h4 := by decide
  h5 := (smR r).h5
  h6 := (smR r).h6
def pkR (l : List Rt) (i : Nat) : Rt := if l.length = 0 then default else l.getD (i % l.length) default
def plN (a : Nat) : Nat := a % 4 + 1
def plZ (a : Nat) (zl : List Rt) : List Rt := tab (plN a) fun i => imR (pkR zl i)
def plS (a : Nat) (sl : List Rt) : List (List Rt) := tab (plN a) fun i => tab (plN a) fun j => smR (pkR sl (plN a * i + j))
theorem imR_pos (r : Rt) : posQ (imR r).q = true := by
  have h1 := absI_b (tm_bound r.re (b := 9) (by decide))
  have h2 := absI_b (tm_bound r.den (b := 4) (by decide))
  have hd : (imR r).d = absI (r.den.tmod 4) + 1 := by
    show (if absI (r.den.tmod 4) + 1 = 0 then 1 else absI (r.den.tmod 4) + 1) = _
    rw [if_neg (by omega)]
  have hq : (imR r).q = Qi.frac (absI (r.re.tmod 9) + 1) 0 (absI (r.den.tmod 4) + 1) := by rw [Rt.q, hd]; rfl
  have hb : (imR r).q.b = 0 := Qi.b_zero.2 (by rw [hq]; show ((0 : Int) : Rat) / _ = 0; rw [Rat.div_def]; exact Rat.zero_mul _)
  have ha : 0 < (imR r).q.a := by
    rw [Qi.a_pos, hq]
    show (0 : Rat) < ((absI (r.re.tmod 9) + 1 : Int) : Rat) / ((absI (r.den.tmod 4) + 1 : Int) : Rat)
    rw [Rat.div_def]
    refine Rat.mul_pos (Rat.intCast_pos.2 (by omega)) (Rat.inv_pos.2 (Rat.intCast_pos.2 (by omega)))
  simp only [posQ, hb, ha, and_self, decide_true]
theorem pl_err (a : Nat) (zl sl : List Rt) : netErr ((plZ a zl).map Rt.q) (rq (plS a sl)) = 0 := by
  have hz : ((plZ a zl).map Rt.q).length = plN a := by rw [List.length_map, plZ, tab_len]
  have hs : (rq (plS a sl)).length = plN a := by rw [List.length_map, plS, tab_len]
  have hn : plN a ≤ 4 := by unfold plN; omega
  have hn1 : 1 ≤ plN a := by unfold plN; omega
  rw [netErr, if_neg, if_pos]
  · rw [List.all_eq_true]
    intro x hx
    obtain ⟨r, hr, rfl⟩ := List.mem_map.1 hx
    obtain ⟨i, _, rfl⟩ := tab_mem.1 hr
    exact imR_pos _
  · rw [hz, hs]
    rintro (h | h | h | h)
    · omega
    · omega
    · exact h rfl
    · obtain ⟨r, hr, h2⟩ := List.any_eq_true.1 h
      obtain ⟨y, hy, rfl⟩ := List.mem_map.1 hr
      obtain ⟨i, _, rfl⟩ := tab_mem.1 hy
      simp [tab_len] at h2
end Go.Proofs.YtbnpmobaglfcbaaGreat
namespace Go.Proofs.YtbnpmobaglfcbaaGreat
open Go Go.RowKit
theorem bld_26_0_1_2 {n : Nat} {E : Env} {H : Hp} {d : Option Tmp} {t : TypeId} {pos : String} {af : Array Edge} {g : Option (Nat × Bool)} {x0 x1 x2 : Operand} {T0 T1 T2 : Ty} [s0 : Shape T0 1 false] (h0 : Has E x0 T0) [s1 : Shape T1 1 false] (h1 : Has E x1 T1) [s2 : Shape T2 1 false] (h2 : Has E x2 T2) :
    OpTy Tryz.prog n E H ⟨d, .build 26 #[(0, x0), (1, x1), (2, x2)], t, pos, af, g⟩ (AggT [T0, T1, T2]) :=
  op_build (parts := [(0, x0), (1, x1), (2, x2)]) fun a V w hs => by
    have p0 := h0 n V a hs
    generalize e0 : a.eval x0 = v0 at p0
    have q0 := (s0.ok v0 V p0).2.2 rfl
    have p1 := h1 n V a hs
    generalize e1 : a.eval x1 = v1 at p1
    have q1 := (s1.ok v1 V p1).2.2 rfl
    have p2 := h2 n V a hs
    generalize e2 : a.eval x2 = v2 at p2
    have q2 := (s2.ok v2 V p2).2.2 rfl
    refine ⟨.agg #[v0, v1, v2], ?_, [v0, v1, v2], rfl, Cells.cons' (⟨p0, q0⟩) (Cells.cons' (⟨p1, q1⟩) (Cells.cons' (⟨p2, q2⟩) (Cells.nil)))⟩
    simp [e0, e1, e2, Instr.build, Instr.fill, Sem.run_bind, Result.andThen, cells_agg, q0.cells, q1.cells, q2.cells, O_26, U_26, Z_2]
end Go.Proofs.YtbnpmobaglfcbaaGreat
namespace Go.Proofs.YtbnpmobaglfcbaaGreat
open Go Go.RowKit
set_option maxRecDepth 20000 in
theorem c_small {r : Rt} : Fun Tryz.prog 17 [RatT r] (RatT (smR r)) := by
 have b1 := tm_bound r.den (b := 4) (by decide)
 refine Fun.intro Tryz.func17 rfl Tryz.ntmps17 rfl (fun cx => (ts (rn rfl (new_box (Ht rfl)) fun B1 => (rn rfl (new_alloc (Ts := [Is (.int .i64 0), Is (.int .i64 0), Is (.int .i64 0)]) O_26 rfl (fun V => Cells.cons' ⟨rfl, trivial⟩ (Cells.cons' ⟨rfl, trivial⟩ (Cells.cons' ⟨rfl, trivial⟩ (Cells.nil))))) fun B2 => (R_nil (ts (ro rfl (op_fldB fa_26_2 (Ht rfl) rfl) (ro rfl (op_ldB A_2 Z_2 (Ht rfl) (i := 0) rfl rfl) (ro rfl (op_rem (Ht rfl) Has.c (by decide) rfl) (ra rfl (R_nil (T_seq (T_join (fun (d : Int) => d = absI (r.den.tmod 4)) (fun (d : Int) => [(1, PtrB B1 0), (2, PtrB B2 0), (3, IntT .i64 d)]) (fun (d : Int) => [box B1 26 [IntT .i64 r.re, IntT .i64 r.im, IntT .i64 r.den], box B2 26 [Is (.int .i64 0), Is (.int .i64 0), Is (.int .i64 0)]]) ?_ (fun d hd => ?_))))))))))))))
 ·refine ts (rm rfl (ro rfl (op_lss (Ht rfl) Has.c) (R_nil (T_cond (Ht rfl) (fun hb => ?_) (fun hb => ?_)))))
  ·have hb2 : r.den.tmod 4 < 0 := of_decide_eq_true hb
   refine T_region (rm rfl (ro rfl (op_neg (Ht rfl) (w64 (by omega))) (ra rfl (R_nil (T_joined (-(r.den.tmod 4)) (by rw [absI, if_pos hb2]) (Sub.cons rfl (Sub.cons rfl (Sub.cons rfl Sub.nil))) (HSub.refl _))))))
  ·have hb2 : ¬ r.den.tmod 4 < 0 := of_decide_eq_false hb
   refine T_skip (T_joined (r.den.tmod 4) (by rw [absI, if_neg hb2]) (Sub.cons rfl (Sub.cons rfl (Sub.cons rfl Sub.nil))) (HSub.refl _))
 ·have b2 := absI_b b1
  rw [← hd] at b2
  refine ts (ro rfl (op_fldB fa_26_0 (Ht rfl) rfl) (ro rfl (op_ldB A_2 Z_2 (Ht rfl) (i := 0) rfl rfl) (ro rfl (op_rem (Ht rfl) Has.c (by decide) rfl) (ro rfl (op_fldB fa_26_1 (Ht rfl) rfl) (ro rfl (op_ldB A_2 Z_2 (Ht rfl) (i := 0) rfl rfl) (ro rfl (op_rem (Ht rfl) Has.c (by decide) rfl) (rm rfl (ro rfl (op_add (Ht rfl) Has.c (w64 (by omega))) (ro rfl (bld_26_0_1_2 (Ht rfl) (Ht rfl) (Ht rfl)) (R_stA Z_26 (Ht rfl) (Ht rfl) rfl (i := 1) rfl (Nat.le_of_ble_eq_true rfl) rfl rfl (R_nil (T_ret1 rfl (rv_to (rv_cell A_26 Z_26 rfl (i := 1) rfl rfl) ?_)))))))))))))
  exact (fun v V h => by rw [hd] at h; exact h)
set_option maxRecDepth 20000 in
theorem c_imped {r : Rt} : Fun Tryz.prog 81 [RatT r] (RatT (imR r)) := by
 have b1 : -9 < (smR r).re ∧ (smR r).re < 9 := tm_bound r.re (b := 9) (by decide)
 refine Fun.intro Tryz.func81 rfl Tryz.ntmps81 rfl (fun cx => (ts (rn rfl (new_box (Ht rfl)) fun B1 => (rn rfl (new_alloc (Ts := [Is (.int .i64 0), Is (.int .i64 0), Is (.int .i64 0)]) O_26 rfl (fun V => Cells.cons' ⟨rfl, trivial⟩ (Cells.cons' ⟨rfl, trivial⟩ (Cells.cons' ⟨rfl, trivial⟩ (Cells.nil))))) fun B2 => (R_nil (ts (ro rfl (op_ldBA A_26 Z_26 (Ht rfl) (i := 0) rfl rfl rfl) (ro rfl (op_call Tryz.call17 c_small ⟨(Ht rfl), trivial⟩) (rn rfl (new_alloc (Ts := [Is (.int .i64 0), Is (.int .i64 0), Is (.int .i64 0)]) O_26 rfl (fun V => Cells.cons' ⟨rfl, trivial⟩ (Cells.cons' ⟨rfl, trivial⟩ (Cells.cons' ⟨rfl, trivial⟩ (Cells.nil))))) fun B3 => ?_)))))))))
 refine R_stA Z_26 (Ht rfl) (Ht rfl) rfl (i := 2) rfl (Nat.le_of_ble_eq_true rfl) rfl rfl (R_nil (T_seq (T_join (fun (x : Int) => x = absI (smR r).re) (fun (x : Int) => [(1, PtrB B1 0), (2, PtrB B2 0), (3, PtrB B3 0)]) (fun (x : Int) => [box B1 26 [IntT .i64 r.re, IntT .i64 r.im, IntT .i64 r.den], box B2 26 [Is (.int .i64 0), Is (.int .i64 0), Is (.int .i64 0)], box B3 26 [IntT .i64 x, IntT .i64 (smR r).im, IntT .i64 (smR r).den]]) ?_ (fun x hx => ?_))))
 ·refine ts (ro rfl (op_fldB fa_26_0 (Ht rfl) rfl) (ro rfl (op_ldB A_2 Z_2 (Ht rfl) (i := 2) rfl rfl) (ro rfl (op_lss (Ht rfl) Has.c) (R_nil (T_cond (Ht rfl) (fun hb => ?_) (fun hb => ?_))))))
  ·have hb2 : (smR r).re < 0 := of_decide_eq_true hb
   refine T_region (ro rfl (op_fldB fa_26_0 (Ht rfl) rfl) (ro rfl (op_ldB A_2 Z_2 (Ht rfl) (i := 2) rfl rfl) (ro rfl (op_neg (Ht rfl) (w64 (by omega))) (ro rfl (op_fldB fa_26_0 (Ht rfl) rfl) (R_st Z_2 (Ht rfl) (Ht rfl) (i := 2) rfl (Nat.le_of_ble_eq_true rfl) rfl (R_nil (T_joined (-((smR r).re)) (by rw [absI, if_pos hb2]) (Sub.cons rfl (Sub.cons rfl (Sub.cons rfl Sub.nil))) (HSub.refl _))))))))
  ·have hb2 : ¬ (smR r).re < 0 := of_decide_eq_false hb
   refine T_skip (T_joined ((smR r).re) (by rw [absI, if_neg hb2]) (Sub.cons rfl (Sub.cons rfl (Sub.cons rfl Sub.nil))) (HSub.refl _))
 ·have b2 := absI_b b1
  rw [← hx] at b2
  refine ts (ro rfl (op_fldB fa_26_0 (Ht rfl) rfl) (ro rfl (op_ldB A_2 Z_2 (Ht rfl) (i := 2) rfl rfl) (ro rfl (op_add (Ht rfl) Has.c (w64 (by omega))) (ro rfl (op_fldB fa_26_2 (Ht rfl) rfl) (ro rfl (op_ldB A_2 Z_2 (Ht rfl) (i := 2) rfl rfl) (ro rfl (bld_26_0_2 (Ht rfl) (Ht rfl)) (R_stA Z_26 (Ht rfl) (Ht rfl) rfl (i := 1) rfl (Nat.le_of_ble_eq_true rfl) rfl rfl (R_nil (T_ret1 rfl (rv_to (rv_cell A_26 Z_26 rfl (i := 1) rfl rfl) ?_))))))))))
  exact (fun v V h => by rw [hx] at h; exact h)
set_option maxRecDepth 20000 in
theorem c_pick {l : List Rt} {i : Nat} : Fun Tryz.prog 82 [RatsT l, NT .i64 i] (RatT (pkR l i)) := by
 refine Fun.intro Tryz.func82 rfl Tryz.ntmps82 rfl (fun cx => (ts (rn rfl (new_alloc (Ts := [Is (.int .i64 0), Is (.int .i64 0), Is (.int .i64 0)]) O_26 rfl (fun V => Cells.cons' ⟨rfl, trivial⟩ (Cells.cons' ⟨rfl, trivial⟩ (Cells.cons' ⟨rfl, trivial⟩ (Cells.nil))))) fun B4 => (R_nil (T_seq (ts (rm rfl (ro rfl (op_len U_22 (Ht rfl) len_map) (ro rfl (op_eqlN (Ht rfl) (Has.cN 0)) (R_nil (T_cond (Ht rfl) (fun hb => ?_) (fun hb => ?_))))))))))))
 ·have hb2 : l.length = 0 := by simpa only [decide_eq_true_eq] using hb
  refine ts (ro rfl (bld_26_ ) (R_stA Z_26 (Ht rfl) (Ht rfl) rfl (i := 0) rfl (Nat.le_of_ble_eq_true rfl) rfl rfl (R_nil (T_ret1 rfl (rv_to (rv_cell A_26 Z_26 rfl (i := 0) rfl rfl) ?_)))))
  exact (fun v V h => by rw [pkR, if_pos hb2]; exact h)
 ·have hb2 : ¬ l.length = 0 := by simpa only [decide_eq_false_iff_not] using hb
  have hm := Nat.mod_lt i (Nat.pos_of_ne_zero hb2)
  refine T_skip (ts (rm rfl (rm rfl (rm rfl (ro rfl (op_len U_22 (Ht rfl) len_map) (ro rfl (op_remN (Ht rfl) (Ht rfl) (by omega)) (ro rfl (op_idx U_22 Z_26 (Ht rfl) (Ht rfl) rfl (map_get (getD_some (d := default) hm))) (ro rfl (op_ld A_26 Z_26 (Ht rfl)) (R_stA Z_26 (Ht rfl) (Ht rfl) rfl (i := 0) rfl (Nat.le_of_ble_eq_true rfl) rfl rfl (R_nil (T_ret1 rfl (rv_to (rv_cell A_26 Z_26 rfl (i := 0) rfl rfl) ?_))))))))))))
  exact (fun v V h => by rw [pkR, if_neg hb2]; exact h)
end Go.Proofs.YtbnpmobaglfcbaaGreat
namespace Go.Proofs.YtbnpmobaglfcbaaGreat
open Go Go.RowKit
namespace Qi
def npow' (x : Qi) : Nat → Qi
  | 0 => Qi.ofInt 1
  | k + 1 => npow' x k * x
theorem one_mul2 (x : Qi) : Qi.ofInt 1 * x = x := ext' (by show ((1 : Int) : Rat) * x.re - 0 * x.im = x.re; grind) (by show ((1 : Int) : Rat) * x.im + 0 * x.re = x.im; grind)
theorem mul_one2 (x : Qi) : x * Qi.ofInt 1 = x := by rw [mul_comm', one_mul2]
end Qi
instance qiField : Lean.Grind.CommRing Qi where
  natCast := ⟨fun n => Qi.ofInt n⟩
  ofNat n := ⟨Qi.ofInt n⟩
  nsmul := ⟨fun n x => Qi.ofInt n * x⟩
  npow := ⟨Qi.npow'⟩
  add_zero := Qi.add_zero'
  add_comm := Qi.add_comm'
  add_assoc := Qi.add_assoc'
  mul_assoc := Qi.mul_assoc'
  mul_comm := Qi.mul_comm'
  mul_one := Qi.mul_one2
  one_mul := Qi.one_mul2
  left_distrib := Qi.mul_add'
  right_distrib := Qi.add_mul'
  zero_mul := Qi.zero_mul'
  mul_zero := Qi.mul_zero'
  pow_zero _ := rfl
  pow_succ _ _ := rfl
  ofNat_succ n := Qi.ext' (by show (((n + 1 : Nat) : Int) : Rat) = ((n : Int) : Rat) + ((1 : Int) : Rat); rw [Int.natCast_add, Rat.intCast_add]; rfl) (by show (0 : Rat) = 0 + 0; grind)
  intCast := ⟨Qi.ofInt⟩
  zsmul := ⟨fun n x => Qi.ofInt n * x⟩
  neg_add_cancel x := Qi.ext' (by show -x.re + x.re = ((0 : Int) : Rat); grind) (by show -x.im + x.im = 0; grind)
  sub_eq_add_neg := Qi.sub_def
  neg_zsmul i x := Qi.ext' (by show ((-i : Int) : Rat) * x.re - 0 * x.im = -((i : Rat) * x.re - 0 * x.im); rw [Rat.intCast_neg]; grind) (by show ((-i : Int) : Rat) * x.im + 0 * x.re = -((i : Rat) * x.im + 0 * x.re); rw [Rat.intCast_neg]; grind)
  intCast_neg i := Qi.ext' (Rat.intCast_neg i) (by show (0 : Rat) = -0; grind)
theorem q0 : Qi.zero = 0 := rfl
theorem q1 : Qi.ofInt 1 = 1 := rfl
theorem mul_inv2 {x : Qi} (h : x ≠ 0) : x * Qi.inv x = 1 := by
  have hn : x.nrm ≠ 0 := fun e => h (Qi.nrm_zero.1 e)
  have e : x.re * x.re + x.im * x.im = x.nrm := rfl
  refine Qi.ext' ?_ ?_
  · show x.re * (x.re / x.nrm) - x.im * (-x.im / x.nrm) = ((1 : Int) : Rat)
    grind
  · show x.re * (-x.im / x.nrm) + x.im * (x.re / x.nrm) = 0
    grind
theorem div_eq {x y : Qi} (h : y ≠ 0) : x / y * y = x := by
  rw [Qi.div_def]
  have := mul_inv2 h
  grind
end Go.Proofs.YtbnpmobaglfcbaaGreat
namespace Go.Proofs.YtbnpmobaglfcbaaGreat
open Go Go.RowKit
theorem sumN_sub (m : Nat) (f : Qi) (a b : Nat → Qi) : sumN m (fun k => a k - f * b k) = sumN m a - f * sumN m b := by
  induction m with
  | zero => simp only [sumN, q0]; grind
  | succ m ih => simp only [sumN, ih]; grind
def Ker (M : List (List Qi)) (n m : Nat) (x : Nat → Qi) : Prop := ∀ i, i < n → sumN m (fun k => gm M i k * x k) = 0
def redJR (rr rc : List Qi) (c k : Nat) : List Qi := tab rr.length fun j => if c ≤ j ∧ j < k then gv rr j - gv rr c / gv rc c * gv rc j else gv rr j
def redJ (M : List (List Qi)) (c r : Nat) : List (List Qi) := tab M.length fun i => if i ≠ c ∧ i < r then redJR (rw' M i) (rw' M c) c (rw' M i).length else rw' M i
theorem redJ_len (M : List (List Qi)) (c r : Nat) : (redJ M c r).length = M.length := tab_len _ _
theorem redJR_len (rr rc : List Qi) (c k : Nat) : (redJR rr rc c k).length = rr.length := tab_len _ _
theorem redJ_row {M : List (List Qi)} {c r i : Nat} (hi : i < M.length) : rw' (redJ M c r) i = if i ≠ c ∧ i < r then redJR (rw' M i) (rw' M c) c (rw' M i).length else rw' M i := by
  simp only [rw', redJ, List.getD]; rw [tab_get hi]; rfl
theorem redJ_shp {M : List (List Qi)} {n m c r : Nat} (h : Shp M n m) : Shp (redJ M c r) n m := by
  refine ⟨(redJ_len _ _ _).trans h.1, fun x hx => ?_⟩
  obtain ⟨i, hi, rfl⟩ := tab_mem.1 hx
  have hr := h.row (i := i) (by rw [← h.1]; exact hi)
  show (if i ≠ c ∧ i < r then redJR (rw' M i) (rw' M c) c (rw' M i).length else rw' M i).length = m
  split
  · rw [redJR_len]; exact hr
  · exact hr
theorem redJ_gm {M : List (List Qi)} {n m c i j : Nat} (h : Shp M n m) (hi : i < n) (hj : j < m) : gm (redJ M c n) i j = if i ≠ c ∧ c ≤ j then gm M i j - gm M i c / gm M c c * gm M c j else gm M i j := by
  have hr : (rw' M i).length = m := h.row hi
  show gv (rw' (redJ M c n) i) j = _
  rw [redJ_row (by rw [h.1]; exact hi)]
  by_cases e : i = c
  · rw [if_neg (fun k => k.1 e), if_neg (fun k => k.1 e)]
  · rw [if_pos ⟨e, hi⟩, redJR, gv_tab (by omega)]
    by_cases e2 : c ≤ j
    · rw [if_pos ⟨e2, by omega⟩, if_pos ⟨e, e2⟩]
    · rw [if_neg (fun k => e2 k.1), if_neg (fun k => e2 k.2)]
theorem swp_rw {M : List (List Qi)} {p c i : Nat} (hp : p < M.length) (hc : c < M.length) : rw' (swp [] M p c) i = rw' M (if i = c then p else if i = p then c else i) := by
  simp only [rw', swp, List.getD]
  by_cases e : i = c
  · subst e; rw [List.getElem?_set_self (by simpa using hc), if_pos rfl]; rfl
  · rw [List.getElem?_set_ne (Ne.symm e), if_neg e]
    by_cases e2 : i = p
    · subst e2; rw [List.getElem?_set_self hp, if_pos rfl]; rfl
    · rw [List.getElem?_set_ne (Ne.symm e2), if_neg e2]
theorem ker_swp {M : List (List Qi)} {n m p c : Nat} {x : Nat → Qi} (hl : M.length = n) (hp : p < n) (hc : c < n) : Ker (swp [] M p c) n m x ↔ Ker M n m x := by
  have key : ∀ i, gm (swp [] M p c) i = gm M (if i = c then p else if i = p then c else i) := fun i => by
    funext j; exact congrArg (fun r => gv r j) (swp_rw (by omega) (by omega))
  constructor
  · intro h i hi
    have h1 := h (if i = c then p else if i = p then c else i) (by split <;> (try split) <;> omega)
    rw [key] at h1
    have e : (if (if i = c then p else if i = p then c else i) = c then p else if (if i = c then p else if i = p then c else i) = p then c else (if i = c then p else if i = p then c else i)) = i := by
      by_cases e1 : i = c
      · subst e1; rw [if_pos rfl]
        by_cases e2 : p = i
        · rw [if_pos e2]; exact e2
        · rw [if_neg e2, if_pos rfl]
      · rw [if_neg e1]
        by_cases e2 : i = p
        · subst e2; rw [if_pos rfl, if_pos rfl]
        · rw [if_neg e2, if_neg e1, if_neg e2]
    rw [e] at h1; exact h1
  · intro h i hi
    rw [key]; exact h _ (by split <;> (try split) <;> omega)
theorem ker_red {M : List (List Qi)} {n m c : Nat} {x : Nat → Qi} (hs : Shp M n m) (hc : c < n) (hz : ∀ j, j < c → gm M c j = 0) : Ker (redJ M c n) n m x ↔ Ker M n m x := by
  have key : ∀ i, i < n → i ≠ c → sumN m (fun k => gm (redJ M c n) i k * x k) = sumN m (fun k => gm M i k * x k) - gm M i c / gm M c c * sumN m (fun k => gm M c k * x k) := fun i hi e => by
    rw [← sumN_sub]
    refine sumN_congr fun k hk => ?_
    rw [redJ_gm hs hi hk]
    by_cases e2 : c ≤ k
    · rw [if_pos ⟨e, e2⟩]; grind
    · rw [if_neg (fun h => e2 h.2), hz k (by omega)]; grind
  have keyc : sumN m (fun k => gm (redJ M c n) c k * x k) = sumN m (fun k => gm M c k * x k) := sumN_congr fun k hk => by rw [redJ_gm hs hc hk, if_neg (fun h => h.1 rfl)]
  constructor
  · intro h i hi
    have h0 := h c hc
    rw [keyc] at h0
    by_cases e : i = c
    · rw [e]; exact h0
    · have h1 := h i hi
      rw [key i hi e, h0] at h1
      grind
  · intro h i hi
    have h0 := h c hc
    by_cases e : i = c
    · rw [e, keyc]; exact h0
    · rw [key i hi e, h0, h i hi]; grind
structure GJ (M A : List (List Qi)) (n m c : Nat) : Prop where
  sh : Shp A n m
  ker : ∀ x, Ker A n m x ↔ Ker M n m x
  off : ∀ j, j < c → ∀ i, i < n → i ≠ j → gm A i j = 0
  dg : ∀ j, j < c → gm A j j ≠ 0
theorem GJ.next {M A : List (List Qi)} {n m c p : Nat} (h : GJ M A n m c) (hc : c < n) (hnm : n ≤ m) (hcp : c ≤ p) (hp : p < n) (hz : gm A p c ≠ 0) : GJ M (redJ (swp [] A p c) c n) n m (c + 1) := by
  have hs : Shp (swp [] A p c) n m := swp_shp h.sh hp hc
  have hl := h.sh.1
  have key : ∀ i, gm (swp [] A p c) i = gm A (if i = c then p else if i = p then c else i) := fun i => by
    funext j; exact congrArg (fun r => gv r j) (swp_rw (by omega) (by omega))
  have hcc : gm (swp [] A p c) c c ≠ 0 := by rw [key, if_pos rfl]; exact hz
  have hoff : ∀ j, j < c → ∀ i, i < n → i ≠ j → gm (swp [] A p c) i j = 0 := fun j hj i hi hij => by
    rw [key]
    by_cases e1 : i = c
    · rw [if_pos e1]; exact h.off j hj p hp (by omega)
    · rw [if_neg e1]
      by_cases e2 : i = p
      · rw [if_pos e2]; exact h.off j hj c hc (by omega)
      · rw [if_neg e2]; exact h.off j hj i hi hij
  refine ⟨redJ_shp hs, fun x => (ker_red hs hc (fun j hj => hoff j hj c hc (by omega))).trans ((ker_swp hl hp hc).trans (h.ker x)), fun j hj i hi hij => ?_, fun j hj => ?_⟩
  · rw [redJ_gm hs hi (by omega)]
    by_cases e : j = c
    · subst e
      rw [if_pos ⟨hij, Nat.le_refl _⟩]
      have := div_eq (x := gm (swp [] A p j) i j) hcc
      grind
    · rw [if_neg (fun k => by omega)]; exact hoff j (by omega) i hi hij
  · rw [redJ_gm hs (by omega) (by omega)]
    by_cases e : j = c
    · subst e; rw [if_neg (fun k => k.1 rfl)]; exact hcc
    · rw [if_neg (fun k => by omega), key, if_neg (by omega), if_neg (by omega)]; exact h.dg j (by omega)
end Go.Proofs.YtbnpmobaglfcbaaGreat
namespace Go.Proofs.YtbnpmobaglfcbaaGreat
open Go Go.RowKit
def sidR (a b : List (List Qi)) (x y i : Nat) : List Qi := tab (x + y) fun j => if i < x then (if j < x then gm a i j else Qi.zero) else (if x ≤ j then gm b (i - x) (j - x) else Qi.zero)
def sidM (a b : List (List Qi)) (x y : Nat) : List (List Qi) := tab (x + y) (sidR a b x y)
theorem sidM_shp (a b : List (List Qi)) (x y : Nat) : Shp (sidM a b x y) (x + y) (x + y) := ⟨tab_len _ _, fun r hr => by obtain ⟨i, _, rfl⟩ := tab_mem.1 hr; exact tab_len _ _⟩
theorem sidM_fit {a b : List (List Qi)} {x y L : Nat} (ha : FitM a L) (hb : FitM b L) (hL : 1 ≤ L) : FitM (sidM a b x y) L := fun r hr => by
  obtain ⟨i, _, rfl⟩ := tab_mem.1 hr
  refine FitL.tab fun j _ => ?_
  split
  · split
    · exact ha.get hL _ _
    · exact FitC.zero hL
  · split
    · exact hb.get hL _ _
    · exact FitC.zero hL
theorem sidM_gm {a b : List (List Qi)} {x y i j : Nat} (hi : i < x + y) (hj : j < x + y) : gm (sidM a b x y) i j = if i < x then (if j < x then gm a i j else Qi.zero) else (if x ≤ j then gm b (i - x) (j - x) else Qi.zero) := by
  have e : (sidM a b x y).getD i [] = sidR a b x y i := by rw [sidM, List.getD, tab_get hi]; rfl
  show gv ((sidM a b x y).getD i []) j = _
  rw [e, sidR, gv_tab hj]
def rowS (f : Nat → Qi) (lo hi n : Nat) : List Qi := tab n fun k => if lo ≤ k ∧ k < hi then f k else Qi.zero
theorem rowS_len (f : Nat → Qi) (lo hi n : Nat) : (rowS f lo hi n).length = n := tab_len _ _
theorem rowS_start (f : Nat → Qi) (lo n : Nat) : (tab n fun _ => Qi.zero) = rowS f lo lo n := tab_congr fun k _ => by rw [if_neg (by omega)]
theorem rowS_next {f : Nat → Qi} {lo hi n : Nat} (h : lo ≤ hi) : (rowS f lo hi n).set hi (f hi) = rowS f lo (hi + 1) n := by
  apply List.ext_getElem?
  intro j
  by_cases hj : j < n
  · by_cases e : j = hi
    · subst e; rw [List.getElem?_set_self (by rw [rowS_len]; exact hj), rowS, tab_get hj, if_pos (by omega)]
    · rw [List.getElem?_set_ne (Ne.symm e), rowS, rowS, tab_get hj, tab_get hj]
      by_cases e2 : lo ≤ j ∧ j < hi
      · rw [if_pos e2, if_pos (by omega)]
      · rw [if_neg e2, if_neg (by omega)]
  · rw [List.getElem?_eq_none (by rw [List.length_set, rowS_len]; omega), List.getElem?_eq_none (by rw [rowS_len]; omega)]
theorem rowS_fst {a b : List (List Qi)} {x y i : Nat} (h : i < x) : rowS (gm a i) 0 x (x + y) = sidR a b x y i := tab_congr fun k _ => by
  rw [if_pos h]
  by_cases e : k < x
  · rw [if_pos ⟨Nat.zero_le _, e⟩, if_pos e]
  · rw [if_neg (fun k => e k.2), if_neg e]
theorem rowS_snd {a b : List (List Qi)} {x y i : Nat} : rowS (fun k => gm b i (k - x)) x (x + y) (x + y) = sidR a b x y (x + i) := tab_congr fun k hk => by
  rw [if_neg (show ¬ x + i < x by omega), show x + i - x = i by omega]
  by_cases e : x ≤ k
  · rw [if_pos ⟨e, hk⟩, if_pos e]
  · rw [if_neg (fun k => e k.1), if_neg e]
end Go.Proofs.YtbnpmobaglfcbaaGreat
namespace Go.Proofs.YtbnpmobaglfcbaaGreat
open Go Go.RowKit
theorem mapQ_ne {l : List Qi} (h : 1 ≤ l.length) : l.map QT ≠ [] := fun e => by
  have h2 := congrArg List.length e
  rw [List.length_map, List.length_nil] at h2; omega
theorem rn_of {Ts : List Ty} {T : Ty} {z : List Qi} (h : Ts = z.map QT) : ∀ v V, (AggT [SlT 5 Ts, T]).p v V → (AggT [SlT 5 (z.map QT), T]).p v V := fun _ _ k => h ▸ k
set_option maxHeartbeats 2000000 in
set_option maxRecDepth 20000 in
theorem c_side {z zb : List Qi} {a b : List (List Qi)} {x y : Nat} (ha : Shp a x x) (hb : Shp b y y) (hz : z.length = x) (hzb : zb.length = y) (hx1 : 1 ≤ x) (hy1 : 1 ≤ y) (hx : x ≤ 100) (hy : y ≤ 100) : Fun Tryz.prog 145 [RNetT z a, RNetT zb b] (RNetT (z ++ zb) (sidM a b x y)) := by
 have hal := ha.1
 have hbl := hb.1
 refine Fun.intro Tryz.func145 rfl Tryz.ntmps145 rfl (fun cx => (ts (rn rfl (new_box (Ht rfl)) fun B2 => (rn rfl (new_box (Ht rfl)) fun B3 => (rn rfl (new_alloc (Ts := [Is (.slice none 0 0), Is (.slice none 0 0)]) O_34 rfl (fun V => Cells.cons' ⟨rfl, trivial⟩ (Cells.cons' ⟨rfl, trivial⟩ (Cells.nil)))) fun B4 => (R_nil (T_seq (C.D_start (m := 7) (dp 2 rfl (op_fldB fa_34_0 (Ht rfl) rfl) (dq 12 0 rfl (op_ldB A_31 Z_31 (Ht rfl) (i := 0) rfl rfl) (dq 13 1 rfl (op_len U_31 (Ht rfl) (by rw [List.length_map, hz])) ?_)))))))))))
 refine dp 3 rfl (op_fldB fa_34_0 (Ht rfl) rfl) (dq 15 3 rfl (op_ldB A_31 Z_31 (Ht rfl) (i := 1) rfl rfl) (dq 16 4 rfl (op_len U_31 (Ht rfl) (by rw [List.length_map, hzb])) ?_))
 refine dq 14 2 rfl (op_assign (Ht rfl)) (C.D_done mixed rfl (by kernel_rfl) (C.F_val (C.F_val (C.F_val (C.F_val (C.F_val (C.F_val (C.F_val (C.F_nil (ra rfl (R_nil (T_seq (C.D_start (m := 16) (C.D_tmp (Ei := []) rfl rfl rfl C.Srcs.nil (new_bslice0 U_31 Z_81 O_81) (dp 2 rfl (op_fldB fa_34_0 (Ht rfl) rfl) (dq 19 1 rfl (op_ldB A_31 Z_31 (Ht rfl) (i := 0) rfl rfl) (C.D_app (Ei := [(20, _)]) 0 false rfl rfl rfl rfl rfl rfl (C.Srcs.cons (C.Src.op 2 rfl rfl) C.Srcs.nil) (fun x21 => A_appendS (inf := Tryz.t81) und_31 info_81 rfl rfl rfl (Ht rfl) (Ht rfl) (mapQ_ne (by omega)) (fun T hT => by obtain ⟨x, _, rfl⟩ := List.mem_map.1 hT; exact El.ag rfl) (by show _ * 88 ≤ _; simp only [List.length_map, List.length_append, List.length_nil]; omega) (by simp only [List.length_map, List.length_append, List.length_nil]; omega)) ?_)))))))))))))))))
 refine dp 3 rfl (op_fldB fa_34_0 (Ht rfl) rfl) (dq 22 4 rfl (op_ldB A_31 Z_31 (Ht rfl) (i := 1) rfl rfl) (C.D_app (Ei := [(23, _)]) 3 true rfl rfl rfl rfl rfl rfl (C.Srcs.cons (C.Src.op 5 rfl rfl) C.Srcs.nil) (fun x24 => A_appendS (inf := Tryz.t81) und_31 info_81 rfl rfl rfl (Ht rfl) (Ht rfl) (mapQ_ne (by omega)) (fun T hT => by obtain ⟨x, _, rfl⟩ := List.mem_map.1 hT; exact El.ag rfl) (by show _ * 88 ≤ _; simp only [List.length_map, List.length_append, List.length_nil]; omega) (by simp only [List.length_map, List.length_append, List.length_nil]; omega)) ?_))
 refine dp 5 rfl (op_move (Ht rfl)) (dp 6 rfl (op_move (Ht rfl)) (dqq 25 7 26 8 rfl (op_addN (Ht rfl) (Ht rfl) (by show _ < 9223372036854775808; first | omega | (simp only [lim]; omega))) (dp 5 rfl (op_move (Ht rfl)) (dp 6 rfl (op_move (Ht rfl)) (dqq 28 10 29 11 rfl (op_addN (Ht rfl) (Ht rfl) (by show _ < 9223372036854775808; first | omega | (simp only [lim]; omega))) (C.D_new (Ei := [(27, _), (30, _)]) rfl rfl rfl (C.Srcs.cons (C.Src.op 9 rfl rfl) (C.Srcs.cons (C.Src.op 12 rfl rfl) C.Srcs.nil)) (new_call0 Tryz.call101 (c_ZerosO (n := x + y) (m := x + y) (by omega) (by omega)) ⟨(Ht rfl), (Ht rfl), trivial⟩) ?_))))))
 refine C.D_dep (fun T U => AggT [T, U]) 6 13 rfl rfl rfl rfl rfl rfl (fun T U hT hU => by obtain ⟨x, rfl⟩ := hT; obtain ⟨y, rfl⟩ := hU; (try dsimp only); exact S_plain rfl (bld_34_0_1 (Ht rfl) (Ht rfl))) (C.D_new (Ei := []) rfl rfl rfl C.Srcs.nil (new_alloc (Ts := [Is (.slice none 0 0), Is (.slice none 0 0)]) O_34 rfl (fun V => Cells.cons' ⟨rfl, trivial⟩ (Cells.cons' ⟨rfl, trivial⟩ (Cells.nil)))) (C.D_done mixed rfl (by kernel_rfl) (C.F_tmp (fun B18 => C.F_val (C.F_val (C.F_tmp (fun v21 => C.F_val (C.F_val (C.F_new (fun v24 => C.F_val (C.F_val (C.F_val (C.F_val (C.F_val (C.F_val (C.F_new (fun B31 => C.F_dep rfl rfl (C.F_new (fun B7 => C.F_nil ?_)))))))))))))))))))
 refine R_stA Z_34 (Ht rfl) (Ht rfl) rfl (i := 5) rfl (Nat.le_of_ble_eq_true rfl) rfl rfl (R_nil (T_seq (ts (ro rfl (op_assign (Has.cN 0)) (R_nil (T_block ?_))))))
 generalize Value.slice (some ⟨v24.1, 0, none⟩) ([] ++ List.map QT z ++ List.map QT zb).length v24.2 = vz
 refine T_loop (fun (i : Nat) => i ≤ x) (fun (i : Nat) => x - i) (fun (i : Nat) => [(2, PtrB B2 0), (3, PtrB B3 0), (4, PtrB B4 0), (5, NT .i64 x), (6, NT .i64 y), (7, PtrB B7 0), (8, NT .i64 i)]) (fun (i : Nat) => [box B2 34 [QsT z, QM a], box B3 34 [QsT zb, QM b], box B4 34 [Is (.slice none 0 0), Is (.slice none 0 0)], rowO 81 5 vz ([] ++ List.map QT z ++ List.map QT zb), matP exactH B31 31 81 5 (FRow QT (mixT (sidR a b x y) (tab (x + y) fun _ => Qi.zero) (x + y) i)), box B7 34 [Is vz, Is (.slice (some ⟨B31, 0, none⟩) (x + y) (x + y))]]) 0 (Nat.zero_le _)
  (Sub.cons rfl (Sub.cons rfl (Sub.cons rfl (Sub.cons rfl (Sub.cons rfl (Sub.cons rfl (Sub.cons rfl Sub.nil))))))) (HSub.cons (box_of rfl) (HSub.cons (box_of rfl) (HSub.cons (box_of rfl) (HSub.cons (fun _ _ _ h => h) (HSub.cons (matO_of (by rw [zeroM, mix_zero])) (HSub.cons (box_of rfl) HSub.nil)))))) (fun i hi => ?_)
 refine T_seq (ts (rm rfl (rm rfl (ro rfl (op_lssN (Ht rfl) (Ht rfl)) (R_nil (T_cond (Ht rfl) (fun hd => ?_) (fun hd => ?_)))))))
 ·have hdn : i < x := by simp only [decide_eq_true_eq] at hd; omega
  have har := ha.row hdn
  refine T_focusE 4 (i) rfl (frow_mix (by omega)) (fun v0 hv0 => (T_skip (T_seq (T_block (ts (ro rfl (op_assign (Has.cN 0)) (R_nil (T_block ?_))))))))
  refine T_loop (fun (j : Nat) => j ≤ x) (fun (j : Nat) => x - j) (fun (j : Nat) => [(2, PtrB B2 0), (3, PtrB B3 0), (4, PtrB B4 0), (5, NT .i64 x), (6, NT .i64 y), (7, PtrB B7 0), (8, NT .i64 i), (9, NT .i64 j)]) (fun (j : Nat) => [box B2 34 [QsT z, QM a], box B3 34 [QsT zb, QM b], box B4 34 [Is (.slice none 0 0), Is (.slice none 0 0)], rowO 81 5 vz ([] ++ List.map QT z ++ List.map QT zb), matQ exactH B31 31 81 5 (FRow QT (mixT (sidR a b x y) (tab (x + y) fun _ => Qi.zero) (x + y) i)) i v0, box B7 34 [Is vz, Is (.slice (some ⟨B31, 0, none⟩) (x + y) (x + y))], rowO 81 5 v0 ((rowS (gm a i) 0 j (x + y)).map QT)]) 0 (Nat.zero_le _)
   (Sub.cons rfl (Sub.cons rfl (Sub.cons rfl (Sub.cons rfl (Sub.cons rfl (Sub.cons rfl (Sub.cons rfl (Sub.cons rfl Sub.nil)))))))) (HSub.cons (box_of rfl) (HSub.cons (box_of rfl) (HSub.cons (box_of rfl) (HSub.cons (fun _ _ _ h => h) (HSub.cons (fun _ _ _ h => h) (HSub.cons (box_of rfl) (HSub.cons (rowO_of (by rw [← rowS_start])) HSub.nil))))))) (fun j hj => ?_)
  refine T_seq (ts (rm rfl (rm rfl (ro rfl (op_lssN (Ht rfl) (Ht rfl)) (R_nil (T_cond (Ht rfl) (fun he => ?_) (fun he => ?_)))))))
  ·have hen : j < x := by simp only [decide_eq_true_eq] at he; omega
   refine T_skip (T_seq (T_block (C.D_start (m := 14) (dp 7 rfl (op_fldB fa_34_1 (Ht rfl) rfl) (dq 43 0 rfl (op_ldB A_32 Z_32 (Ht rfl) (i := 5) rfl rfl) (dp 8 rfl (op_move (Ht rfl)) (dqq 44 1 45 2 rfl (op_idxB U_32 Z_31 (Ht rfl) (Ht rfl) rfl (by omega) (by rw [Nat.mul_one, Nat.zero_add])) ?_)))))))
   refine dq 46 3 rfl (op_ldH A_31 Z_31 (Ht rfl) (j := 4) rfl) (dp 9 rfl (op_move (Ht rfl)) (dp 2 rfl (op_fldB fa_34_1 (Ht rfl) rfl) (dq 49 6 rfl (op_ldB A_32 Z_32 (Ht rfl) (i := 0) rfl rfl) (dp 8 rfl (op_move (Ht rfl)) (dqq 50 7 51 8 rfl (op_idx U_32 Z_31 (Ht rfl) (Ht rfl) rfl (map_get (getD_some (d := []) (by omega)))) (dq 52 9 rfl (op_ld A_31 Z_31 (Ht rfl)) (dp 9 rfl (op_move (Ht rfl)) (dqq 53 10 54 11 rfl (op_idx U_31 Z_81 (Ht rfl) (Ht rfl) rfl (map_get (getD_some (d := Qi.zero) (by omega)))) ?_))))))))
   refine dq 55 12 rfl (op_ld A_81 Z_81 (Ht rfl)) (C.D_done mixed rfl (by kernel_rfl) (C.F_val (C.F_val (C.F_val (C.F_val (C.F_val (C.F_val (C.F_val (C.F_val (C.F_val (C.F_val (C.F_val (C.F_val (C.F_val (C.F_val (C.F_nil (ro rfl (op_idxO U_31 Z_81 (Ht rfl) (Ht rfl) rfl (i := 6) rfl (by rw [List.length_map, rowS_len]; omega) rfl) ?_)))))))))))))))))
   refine R_stO Z_81 (Ht rfl) (Ht rfl) (El.ag rfl) (i := 6) rfl rfl (by rw [List.length_map, rowS_len]; omega) rfl ?_
   refine R_nil (T_blk (T_region (rm rfl (ro rfl (op_addN (Ht rfl) (Has.cN 1) (by show _ < 9223372036854775808; first | omega | (simp only [lim]; omega))) (ra rfl (R_nil (T_again (j + 1) hen (by omega) (Sub.cons rfl (Sub.cons rfl (Sub.cons rfl (Sub.cons rfl (Sub.cons rfl (Sub.cons rfl (Sub.cons rfl (Sub.cons rfl Sub.nil)))))))) (HSub.cons (box_of rfl) (HSub.cons (box_of rfl) (HSub.cons (box_of rfl) (HSub.cons (fun _ _ _ h => h) (HSub.cons (fun _ _ _ h => h) (HSub.cons (box_of rfl) (HSub.cons (rowO_of (by rw [set_mapF]; exact congrArg _ (rowS_next (Nat.zero_le _)))) HSub.nil))))))))))))))
  ·have hjx : j = x := by simp only [decide_eq_false_iff_not] at he; omega
   subst hjx
   rw [rowS_fst hdn]
   refine T_exit rfl (T_blk (T_unfocus 4 6 rfl rfl (by decide) (by simp only [FRow, List.length_map, mix_len]; omega) ?_))
   refine T_region (rm rfl (ro rfl (op_addN (Ht rfl) (Has.cN 1) (by show _ < 9223372036854775808; first | omega | (simp only [lim]; omega))) (ra rfl (R_nil (T_keep [0, 1, 2, 3, 4, 5] rfl (by decide) (T_again (i + 1) hdn (by omega) (Sub.cons rfl (Sub.cons rfl (Sub.cons rfl (Sub.cons rfl (Sub.cons rfl (Sub.cons rfl (Sub.cons rfl Sub.nil))))))) (HSub.cons (box_of rfl) (HSub.cons (box_of rfl) (HSub.cons (box_of rfl) (HSub.cons (fun _ _ _ h => h) (HSub.cons (matO_of (by rw [set_FRow, ← mix_set (f := sidR a b j y)])) (HSub.cons (box_of rfl) HSub.nil))))))))))))
 ·have hix : i = x := by simp only [decide_eq_false_iff_not] at hd; omega
  subst hix
  refine T_exit rfl (T_seq (ts (ro rfl (op_assign (Has.cN 0)) (R_nil (T_block ?_)))))
  refine T_loop (fun (r : Nat) => r ≤ y) (fun (r : Nat) => y - r) (fun (r : Nat) => [(2, PtrB B2 0), (3, PtrB B3 0), (4, PtrB B4 0), (5, NT .i64 i), (6, NT .i64 y), (7, PtrB B7 0), (10, NT .i64 r)]) (fun (r : Nat) => [box B2 34 [QsT z, QM a], box B3 34 [QsT zb, QM b], box B4 34 [Is (.slice none 0 0), Is (.slice none 0 0)], rowO 81 5 vz ([] ++ List.map QT z ++ List.map QT zb), matP exactH B31 31 81 5 (FRow QT (mixT (sidR a b i y) (tab (i + y) fun _ => Qi.zero) (i + y) (i + r))), box B7 34 [Is vz, Is (.slice (some ⟨B31, 0, none⟩) (i + y) (i + y))]]) 0 (Nat.zero_le _)
   (Sub.cons rfl (Sub.cons rfl (Sub.cons rfl (Sub.cons rfl (Sub.cons rfl (Sub.cons rfl (Sub.cons rfl Sub.nil))))))) (HSub.cons (box_of rfl) (HSub.cons (box_of rfl) (HSub.cons (box_of rfl) (HSub.cons (fun _ _ _ h => h) (HSub.cons (matO_of rfl) (HSub.cons (box_of rfl) HSub.nil)))))) (fun r hr => ?_)
  refine T_seq (ts (rm rfl (rm rfl (ro rfl (op_lssN (Ht rfl) (Ht rfl)) (R_nil (T_cond (Ht rfl) (fun hd2 => ?_) (fun hd2 => ?_)))))))
  ·have hrn : r < y := by simp only [decide_eq_true_eq] at hd2; omega
   have hbr := hb.row hrn
   refine T_focusE 4 ((i + r)) rfl (frow_mix (by omega)) (fun v0 hv0 => (T_skip (T_seq (T_block (ts (ro rfl (op_assign (Has.cN 0)) (R_nil (T_block ?_))))))))
   refine T_loop (fun (j : Nat) => j ≤ y) (fun (j : Nat) => y - j) (fun (j : Nat) => [(2, PtrB B2 0), (3, PtrB B3 0), (4, PtrB B4 0), (5, NT .i64 i), (6, NT .i64 y), (7, PtrB B7 0), (10, NT .i64 r), (11, NT .i64 j)]) (fun (j : Nat) => [box B2 34 [QsT z, QM a], box B3 34 [QsT zb, QM b], box B4 34 [Is (.slice none 0 0), Is (.slice none 0 0)], rowO 81 5 vz ([] ++ List.map QT z ++ List.map QT zb), matQ exactH B31 31 81 5 (FRow QT (mixT (sidR a b i y) (tab (i + y) fun _ => Qi.zero) (i + y) (i + r))) (i + r) v0, box B7 34 [Is vz, Is (.slice (some ⟨B31, 0, none⟩) (i + y) (i + y))], rowO 81 5 v0 ((rowS (fun k => gm b r (k - i)) i (i + j) (i + y)).map QT)]) 0 (Nat.zero_le _)
    (Sub.cons rfl (Sub.cons rfl (Sub.cons rfl (Sub.cons rfl (Sub.cons rfl (Sub.cons rfl (Sub.cons rfl (Sub.cons rfl Sub.nil)))))))) (HSub.cons (box_of rfl) (HSub.cons (box_of rfl) (HSub.cons (box_of rfl) (HSub.cons (fun _ _ _ h => h) (HSub.cons (fun _ _ _ h => h) (HSub.cons (box_of rfl) (HSub.cons (rowO_of (by rw [rowS_start (fun k => gm b r (k - i)) i]; rfl)) HSub.nil))))))) (fun j hj2 => ?_)
   refine T_seq (ts (rm rfl (rm rfl (ro rfl (op_lssN (Ht rfl) (Ht rfl)) (R_nil (T_cond (Ht rfl) (fun he2 => ?_) (fun he2 => ?_)))))))
   ·have hen : j < y := by simp only [decide_eq_true_eq] at he2; omega
    have hnx := rowS_next (f := (fun k => gm b r (k - i))) (lo := i) (hi := i + j) (n := i + y) (by omega)
    simp only [Nat.add_sub_cancel_left] at hnx
    refine T_skip (T_seq (T_block (C.D_start (m := 18) (dp 7 rfl (op_fldB fa_34_1 (Ht rfl) rfl) (dq 68 0 rfl (op_ldB A_32 Z_32 (Ht rfl) (i := 5) rfl rfl) (dp 5 rfl (op_move (Ht rfl)) (dp 10 rfl (op_move (Ht rfl)) (dqq 70 2 71 3 rfl (op_addN (Ht rfl) (Ht rfl) (by show _ < 9223372036854775808; first | omega | (simp only [lim]; omega))) (dqq 69 1 72 4 rfl (op_idxB U_32 Z_31 (Ht rfl) (Ht rfl) rfl (by omega) (by rw [Nat.mul_one, Nat.zero_add])) ?_)))))))))
    refine dq 73 5 rfl (op_ldH A_31 Z_31 (Ht rfl) (j := 4) rfl) (dp 5 rfl (op_move (Ht rfl)) (dp 11 rfl (op_move (Ht rfl)) (dqq 75 7 76 8 rfl (op_addN (Ht rfl) (Ht rfl) (by show _ < 9223372036854775808; first | omega | (simp only [lim]; omega))) (dp 3 rfl (op_fldB fa_34_1 (Ht rfl) rfl) (dq 78 10 rfl (op_ldB A_32 Z_32 (Ht rfl) (i := 1) rfl rfl) (dp 10 rfl (op_move (Ht rfl)) (dqq 79 11 80 12 rfl (op_idx U_32 Z_31 (Ht rfl) (Ht rfl) rfl (map_get (getD_some (d := []) (by omega)))) (dq 81 13 rfl (op_ld A_31 Z_31 (Ht rfl)) ?_))))))))
    refine dp 11 rfl (op_move (Ht rfl)) (dqq 82 14 83 15 rfl (op_idx U_31 Z_81 (Ht rfl) (Ht rfl) rfl (map_get (getD_some (d := Qi.zero) (by omega)))) (dq 84 16 rfl (op_ld A_81 Z_81 (Ht rfl)) (C.D_done mixed rfl (by kernel_rfl) (C.F_val (C.F_val (C.F_val (C.F_val (C.F_val (C.F_val (C.F_val (C.F_val (C.F_val (C.F_val (C.F_val (C.F_val (C.F_val (C.F_val (C.F_val (C.F_val (C.F_val (C.F_val (C.F_nil (ro rfl (op_idxO U_31 Z_81 (Ht rfl) (Ht rfl) rfl (i := 6) rfl (by rw [List.length_map, rowS_len]; omega) rfl) ?_)))))))))))))))))))))))
    refine R_stO Z_81 (Ht rfl) (Ht rfl) (El.ag rfl) (i := 6) rfl rfl (by rw [List.length_map, rowS_len]; omega) rfl ?_
    refine R_nil (T_blk (T_region (rm rfl (ro rfl (op_addN (Ht rfl) (Has.cN 1) (by show _ < 9223372036854775808; first | omega | (simp only [lim]; omega))) (ra rfl (R_nil (T_again (j + 1) hen (by omega) (Sub.cons rfl (Sub.cons rfl (Sub.cons rfl (Sub.cons rfl (Sub.cons rfl (Sub.cons rfl (Sub.cons rfl (Sub.cons rfl Sub.nil)))))))) (HSub.cons (box_of rfl) (HSub.cons (box_of rfl) (HSub.cons (box_of rfl) (HSub.cons (fun _ _ _ h => h) (HSub.cons (fun _ _ _ h => h) (HSub.cons (box_of rfl) (HSub.cons (rowO_of (by rw [set_mapF]; exact congrArg _ hnx)) HSub.nil))))))))))))))
   ·have hjx : j = y := by simp only [decide_eq_false_iff_not] at he2; omega
    subst hjx
    rw [rowS_snd (a := a) (b := b)]
    refine T_exit rfl (T_blk (T_unfocus 4 6 rfl rfl (by decide) (by simp only [FRow, List.length_map, mix_len]; omega) ?_))
    refine T_region (rm rfl (ro rfl (op_addN (Ht rfl) (Has.cN 1) (by show _ < 9223372036854775808; first | omega | (simp only [lim]; omega))) (ra rfl (R_nil (T_keep [0, 1, 2, 3, 4, 5] rfl (by decide) (T_again (r + 1) hrn (by omega) (Sub.cons rfl (Sub.cons rfl (Sub.cons rfl (Sub.cons rfl (Sub.cons rfl (Sub.cons rfl (Sub.cons rfl Sub.nil))))))) (HSub.cons (box_of rfl) (HSub.cons (box_of rfl) (HSub.cons (box_of rfl) (HSub.cons (fun _ _ _ h => h) (HSub.cons (matO_of (by rw [set_FRow, mix_set (f := sidR a b i j)]; rfl)) (HSub.cons (box_of rfl) HSub.nil))))))))))))
  ·have hry : r = y := by simp only [decide_eq_false_iff_not] at hd2; omega
   subst hry
   rw [mix_fin]
   refine T_exit rfl (T_seq (T_frzcell 5 3 0 rfl rfl rfl (by decide) (T_frzcellG 5 4 1 rfl rfl rfl (by decide) (frzM (q := exactH) (M := sidM a b i r) (tab_len _ _).symm) (T_region (ro rfl (op_ldBA A_34 Z_34 (Ht rfl) (i := 5) rfl rfl rfl) (R_stA Z_34 (Ht rfl) (Ht rfl) rfl (i := 2) rfl (Nat.le_of_ble_eq_true rfl) rfl rfl (R_nil (T_ret1 rfl (rv_to (rv_cell A_34 Z_34 rfl (i := 2) rfl rfl) ?_)))))))))
   exact (rn_of (by rw [List.nil_append, List.map_append]))
end Go.Proofs.YtbnpmobaglfcbaaGreat
namespace Go.Proofs.YtbnpmobaglfcbaaGreat
open Go Go.RowKit
theorem fa_24_0 (a : Addr) (w : World) : (Instr.fieldAt 24 (.pointer (some a)) 0).run Tryz.prog w = .ok (.pointer (some (a.add 0))) w := by
  simp [Instr.fieldAt, Instr.sureAddr, fieldPlace, Sem.run_bind, Result.andThen, U_24, Z_5]
theorem fa_24_1 (a : Addr) (w : World) : (Instr.fieldAt 24 (.pointer (some a)) 1).run Tryz.prog w = .ok (.pointer (some (a.add 1))) w := by
  simp [Instr.fieldAt, Instr.sureAddr, fieldPlace, Sem.run_bind, Result.andThen, U_24, Z_22]
theorem fa_24_2 (a : Addr) (w : World) : (Instr.fieldAt 24 (.pointer (some a)) 2).run Tryz.prog w = .ok (.pointer (some (a.add 2))) w := by
  simp [Instr.fieldAt, Instr.sureAddr, fieldPlace, Sem.run_bind, Result.andThen, U_24, Z_22]
theorem info_22 : Tryz.prog.info? 22 = some Tryz.t22 := by kernel_rfl
theorem info_26 : Tryz.prog.info? 26 = some Tryz.t26 := by kernel_rfl
theorem und_22 : Tryz.prog.underlying 22 = some (.slice 26) := by kernel_rfl
end Go.Proofs.YtbnpmobaglfcbaaGreat
namespace Go.Proofs.YtbnpmobaglfcbaaGreat
open Go Go.RowKit
abbrev PartT (a : Nat) (zl sl : List Rt) : Ty := AggT [NT .u8 a, RatsT zl, RatsT sl]
theorem rat0_p : ∀ V, (RatT default).p (.agg #[.int .i64 0, .int .i64 0, .int .i64 0]) V := fun V => ⟨[.int .i64 0, .int .i64 0, .int .i64 0], rfl, Cells.cons' ⟨rfl, trivial⟩ (Cells.cons' ⟨rfl, trivial⟩ (Cells.cons' ⟨rfl, trivial⟩ Cells.nil))⟩
theorem frzG {B e s l : Nat} {BT : TypeId} {Rs : List (List Ty)} {q : Value → Prop} (hl : l = Rs.length) : ∀ u S V, (Is (.slice (some ⟨B, 0, none⟩) l l)).p u V → (matP q B BT e s Rs).h S V V → (SlT 1 (Rs.map (SlT s))).p u V := fun u S V h1 h2 => frz_mat hl (Nat.le_refl _) u S V h1 h2
theorem plS_rows (a : Nat) (sl : List Rt) : (tab (plN a) fun i => tab (plN a) fun j => RatT (smR (pkR sl (plN a * i + j)))).map (SlT 3) = (plS a sl).map RatsT := by
  rw [plS, tab_map, tab_map]
  refine tab_congr fun i _ => ?_
  rw [RatsT, tab_map]
set_option maxRecDepth 20000 in
theorem c_PlainO {a : Nat} {zl sl : List Rt} (ha : a < 256) : FunO Tryz.prog 16 [PartT a zl sl] [] (Nat) (fun B => TupT [RatsT (plZ a zl), Is (.slice (some ⟨B, 0, none⟩) (plN a) (plN a))]) (fun B => [matO B 22 26 3 (tab (plN a) (fun i => tab (plN a) fun j => RatT (smR (pkR sl (plN a * i + j)))))]) (fun _ => True) := by
 have hn : plN a ≤ 4 := by unfold plN; omega
 have hn0 : a % 4 + 1 = plN a := rfl
 refine FunO.intro Tryz.func16 rfl Tryz.ntmps16 rfl (fun cx Z => (ts (rn rfl (new_box (Ht rfl)) fun B1 => (ro rfl (op_assign Has.c) (ro rfl (op_assign Has.c) (R_nil (ts (ro rfl (op_fldB fa_24_0 (Ht rfl) rfl) (ro rfl (op_ldB A_5 Z_5 (Ht rfl) (i := 1) rfl rfl) (ro rfl (op_remN (Ht rfl) (Has.cN 4) (by omega)) (ro rfl (op_convN U_5 U_3 (Ht rfl) (by show _ < 9223372036854775808; first | omega | (simp only [lim]; omega))) (ro rfl (OpTy.nat (op_addN (Ht rfl) (Has.cN 1) (by show _ < 9223372036854775808; first | omega | (simp only [lim]; omega))) hn0) ?_))))))))))))
 refine ra rfl (R_nil (T_seq (C.D_start (m := 5) (dp 4 rfl (op_move (Ht rfl)) (C.D_new (Ei := [(14, _)]) rfl rfl rfl (C.Srcs.cons (C.Src.op 0 rfl rfl) C.Srcs.nil) (new_makeO (T := RatT default) (i := Tryz.t26) und_22 info_26 rfl rfl (Ht rfl) rfl rat0_p (El.ag rfl) (by show 24 * _ ≤ _; omega) (by omega)) (dp 4 rfl (op_move (Ht rfl)) (C.D_new (Ei := [(16, _)]) rfl rfl rfl (C.Srcs.cons (C.Src.op 2 rfl rfl) C.Srcs.nil) (new_make (T := Is (.slice none 0 0)) (i := Tryz.t22) Tryz.underlying37 info_22 rfl rfl (Ht rfl) rfl (fun _ => rfl) trivial (by show 24 * _ ≤ _; omega) (by omega)) (C.D_cpy 1 rfl rfl rfl rfl rfl C.cpy_assign ?_))))))))
 refine C.D_done mixed rfl (by kernel_rfl) (C.F_val (C.F_new (fun B15 => C.F_val (C.F_new (fun B17 => C.F_cpy rfl (C.F_nil (ra rfl (R_nil (T_seq (ts (rm rfl (ro rfl (op_lenO U_22 (Ht rfl) (i := 2) rfl (show ((List.replicate (plN a) (RatT default)).length : Int) = ((plN a : Nat) : Int) from by simp)) (ro rfl (op_move (Has.cN 0)) (R_nil (T_block (T_conv 3 rfl (mat_nil (e := 26) (s := 3)) ?_))))))))))))))))
 refine T_loop (fun (i : Nat) => i ≤ plN a) (fun (i : Nat) => plN a - i) (fun (i : Nat) => [(1, PtrB B1 0), (4, NT .i64 (plN a)), (5, Is B15), (6, Is (.slice (some ⟨B17, 0, none⟩) (plN a) (plN a))), (19, NT .i64 (plN a)), (20, NT .i64 i)]) (fun (i : Nat) => [Z, box B1 24 [NT .u8 a, RatsT zl, RatsT sl], rowO 26 3 B15 (mixT (fun i => RatT (imR (pkR zl i))) (RatT default) (plN a) i), matO B17 22 26 3 (mixT (fun i => tab (plN a) fun j => RatT (smR (pkR sl (plN a * i + j)))) [] (plN a) i)]) 0 (Nat.zero_le _)
  (Sub.cons rfl (Sub.cons rfl (Sub.cons rfl (Sub.cons rfl (Sub.to rfl (nt_of (by simp)) (Sub.cons rfl Sub.nil)))))) (HSub.cons (fun _ _ _ h => h) (HSub.cons (box_of rfl) (HSub.cons (rowO_of (by rw [← mix_zero]; exact rep_tab _ _)) (HSub.cons (matO_of (by rw [← mix_zero]; exact rep_tab _ _)) HSub.nil)))) (fun i hi => ?_)
 refine ts (ro rfl (op_lssN (Ht rfl) (Ht rfl)) (R_nil (T_seq (T_cond (Ht rfl) (fun hd => ?_) (fun hd => ?_)))))
 ·simp only [decide_eq_true_eq] at hd
  have hni : plN a * i ≤ 4 * 4 := Nat.mul_le_mul hn (by omega)
  refine T_focus 3 (i) rfl (mix_get hd) (fun v0 => (T_skip (T_seq (T_block (ts (rm rfl (ra rfl (R_nil (ts (rm rfl (rm rfl (ro rfl (op_fldB fa_24_1 (Ht rfl) rfl) (ro rfl (op_ldB A_22 Z_22 (Ht rfl) (i := 1) rfl rfl) (rm rfl (ro rfl (op_call Tryz.call82 c_pick ⟨(Ht rfl), (Ht rfl), trivial⟩) (ro rfl (op_call Tryz.call81 c_imped ⟨(Ht rfl), trivial⟩) (ro rfl (op_idxO U_22 Z_26 (Ht rfl) (Ht rfl) rfl (i := 2) rfl (by rw [mix_len]; omega) rfl) ?_)))))))))))))))))
  refine R_stO Z_26 (Ht rfl) (Ht rfl) (El.ag rfl) (i := 2) rfl rfl (by rw [mix_len]; omega) rfl ?_
  refine R_nil (ts (rm rfl (rm rfl (rm rfl (rn rfl (new_makeO (T := RatT default) (i := Tryz.t26) und_22 info_26 rfl rfl (Ht rfl) rfl rat0_p (El.ag rfl) (by show 24 * _ ≤ _; omega) (by omega)) fun B34 => (ro rfl (op_idxB U_37 Z_22 (Ht rfl) (Ht rfl) rfl (by omega) (by rw [Nat.mul_one, Nat.zero_add])) ?_))))))
  refine R_stH Z_22 (Ht rfl) (Ht rfl) (by rw [mix_len]; omega) (j := 3) (l := 5) rfl rfl rfl ?_
  refine R_nil (T_seq (T_keep [0, 1, 2, 3, 5] rfl (by decide) (T_region (rm rfl (rm rfl (ro rfl (op_idxB U_37 Z_22 (Ht rfl) (Ht rfl) rfl (by omega) (by rw [Nat.mul_one, Nat.zero_add])) ?_))))))
  refine ro rfl (op_ldH A_22 Z_22 (Ht rfl) (j := 3) rfl) (ro rfl (op_lenO U_22 (Ht rfl) (i := 4) rfl (show ((List.replicate (plN a) (RatT default)).length : Int) = ((plN a : Nat) : Int) from by simp)) (ro rfl (op_move (Has.cN 0)) (R_nil (T_block ?_))))
  refine T_loop (fun (j : Nat) => j ≤ plN a) (fun (j : Nat) => plN a - j) (fun (j : Nat) => [(1, PtrB B1 0), (4, NT .i64 (plN a)), (5, Is B15), (6, Is (.slice (some ⟨B17, 0, none⟩) (plN a) (plN a))), (7, NT .i64 i), (19, NT .i64 (plN a)), (20, NT .i64 i), (40, NT .i64 (plN a)), (41, NT .i64 j)]) (fun (j : Nat) => [Z, box B1 24 [NT .u8 a, RatsT zl, RatsT sl], rowO 26 3 B15 (mixT (fun i => RatT (imR (pkR zl i))) (RatT default) (plN a) (i + 1)), matH B17 22 26 3 (mixT (fun i => tab (plN a) fun j => RatT (smR (pkR sl (plN a * i + j)))) [] (plN a) i) i B34, rowO 26 3 B34 (mixT (fun j => RatT (smR (pkR sl (plN a * i + j)))) (RatT default) (plN a) j)]) 0 (Nat.zero_le _)
   (Sub.cons rfl (Sub.cons rfl (Sub.cons rfl (Sub.cons rfl (Sub.cons rfl (Sub.cons rfl (Sub.cons rfl (Sub.cons rfl (Sub.cons rfl Sub.nil))))))))) (HSub.cons (fun _ _ _ h => h) (HSub.cons (box_of rfl) (HSub.cons (rowO_of (mix_set (f := (fun i => RatT (imR (pkR zl i)))))) (HSub.cons (fun _ _ _ h => h) (HSub.cons (rowO_of (by rw [← mix_zero]; exact rep_tab _ _)) HSub.nil))))) (fun j hj => ?_)
  refine ts (ro rfl (op_lssN (Ht rfl) (Ht rfl)) (R_nil (T_seq (T_cond (Ht rfl) (fun he => ?_) (fun he => ?_)))))
  ·simp only [decide_eq_true_eq] at he
   refine T_skip (T_seq (T_block (ts (rm rfl (ra rfl (R_nil (C.D_start (m := 14) (dp 6 rfl (op_move (Ht rfl)) (dp 7 rfl (op_move (Ht rfl)) (dqq 44 0 45 1 rfl (op_idxB U_37 Z_22 (Ht rfl) (Ht rfl) rfl (by omega) (by rw [Nat.mul_one, Nat.zero_add])) ?_))))))))))
   refine dq 46 2 rfl (op_ldH A_22 Z_22 (Ht rfl) (j := 3) rfl) (dp 8 rfl (op_move (Ht rfl)) (dp 1 rfl (op_fldB fa_24_2 (Ht rfl) rfl) (dq 49 5 rfl (op_ldB A_22 Z_22 (Ht rfl) (i := 1) rfl rfl) (dp 4 rfl (op_move (Ht rfl)) (dp 7 rfl (op_move (Ht rfl)) (dqq 51 7 52 8 rfl (op_mulN (Ht rfl) (Ht rfl) (by show _ < 9223372036854775808; omega)) (dp 8 rfl (op_move (Ht rfl)) (dqq 53 9 54 10 rfl (op_addN (Ht rfl) (Ht rfl) (by show _ < 9223372036854775808; omega)) (dqq 50 6 55 11 rfl (op_call Tryz.call82 c_pick ⟨(Ht rfl), (Ht rfl), trivial⟩) (dq 56 12 rfl (op_call Tryz.call17 c_small ⟨(Ht rfl), trivial⟩) ?_))))))))))
   refine C.D_done mixed rfl (by kernel_rfl) (C.F_val (C.F_val (C.F_val (C.F_val (C.F_val (C.F_val (C.F_val (C.F_val (C.F_val (C.F_val (C.F_val (C.F_val (C.F_val (C.F_val (C.F_nil (ro rfl (op_idxO U_22 Z_26 (Ht rfl) (Ht rfl) rfl (i := 4) rfl (by rw [mix_len]; omega) rfl) ?_))))))))))))))))
   refine R_stO Z_26 (Ht rfl) (Ht rfl) (El.ag rfl) (i := 4) rfl rfl (by rw [mix_len]; omega) rfl ?_
   refine R_nil (T_blk (T_region (ro rfl (op_addN (Ht rfl) (Has.cN 1) (by show _ < 9223372036854775808; first | omega | (simp only [lim]; omega))) (rm rfl (R_nil (T_again (j + 1) he (by omega) (Sub.cons rfl (Sub.cons rfl (Sub.cons rfl (Sub.cons rfl (Sub.cons rfl (Sub.cons rfl (Sub.cons rfl (Sub.cons rfl (Sub.cons rfl Sub.nil))))))))) (HSub.cons (fun _ _ _ h => h) (HSub.cons (box_of rfl) (HSub.cons (fun _ _ _ h => h) (HSub.cons (fun _ _ _ h => h) (HSub.cons (rowO_of (mix_set (f := fun j => RatT (smR (pkR sl (plN a * i + j)))))) HSub.nil)))))))))))
  ·simp only [decide_eq_false_iff_not] at he
   have hjn : j = plN a := Nat.le_antisymm hj (by omega)
   rw [hjn, mix_fin]
   refine T_exit rfl (T_blk (T_unfocus 3 4 rfl rfl (by decide) (by rw [mix_len]; omega) ?_))
   refine T_region (ro rfl (op_addN (Ht rfl) (Has.cN 1) (by show _ < 9223372036854775808; first | omega | (simp only [lim]; omega))) (rm rfl (R_nil (T_keep [0, 1, 2, 3] rfl (by decide) (T_again (i + 1) hd (by omega) (Sub.cons rfl (Sub.cons rfl (Sub.cons rfl (Sub.cons rfl (Sub.cons rfl (Sub.cons rfl Sub.nil)))))) (HSub.cons (fun _ _ _ h => h) (HSub.cons (box_of rfl) (HSub.cons (fun _ _ _ h => h) (HSub.cons (matO_of (mix_set (f := (fun i => tab (plN a) fun j => RatT (smR (pkR sl (plN a * i + j))))))) HSub.nil)))))))))
 ·simp only [decide_eq_false_iff_not] at hd
  have hin : i = plN a := Nat.le_antisymm hi (by omega)
  rw [hin, mix_fin, mix_fin]
  refine T_exit rfl (T_freeze (i := 2) (tt := 5) rfl rfl frz_row (ts (rm rfl (rm rfl (ra rfl (ra rfl (R_nil ?_)))))))
  exact T_retO B17 trivial [0, 3] ⟨⟨_, rfl, fun _ _ _ h => h⟩, ⟨_, rfl, fun _ _ _ h => h⟩, trivial⟩ (by decide) (rvs2 rfl (rv_to (rv_tmp rfl) (slT_of (by rw [plZ, tab_map]))) (rv_tmp rfl))
theorem tup2 {T U U' : Ty} {v : Value} {V : View} (h : (TupT [T, U]).p v V) (hU : ∀ u, U.p u V → U'.p u V) : (TupT [T, U']).p v V := by
  obtain ⟨vs, h1, h2⟩ := h
  match vs, h2 with
  | [x, y], ⟨a, b, c⟩ => exact ⟨[x, y], h1, a, hU y b, c⟩
theorem c_Plain {a : Nat} {zl sl : List Rt} (ha : a < 256) : Fun Tryz.prog 16 [PartT a zl sl] (TupT [RatsT (plZ a zl), RatM (plS a sl)]) := (c_PlainO ha).fun fun B _ v S V h1 h2 => tup2 h1 fun u hu => by
  exact slT_of (plS_rows a sl) u V (frzG (tab_len _ _).symm u S V hu h2)
set_option maxRecDepth 20000 in
theorem c_Build {a : Nat} {zl sl : List Rt} (ha : a < 256) : Fun Tryz.prog 15 [PartT a zl sl] (TupT [NetT ((plZ a zl).map Rt.q) (rq (plS a sl)), RNetT ((plZ a zl).map Rt.q) (rq (plS a sl)), BoolT true]) := by
 have hn : plN a ≤ 4 := by unfold plN; omega
 have herr := pl_err a zl sl
 have hzl : (plZ a zl).length = plN a := tab_len _ _
 have hsl : (plS a sl).length = plN a := tab_len _ _
 have hall : ∀ r, r ∈ plS a sl → r.length ≤ 1000 := fun r hr => by obtain ⟨i, _, rfl⟩ := tab_mem.1 hr; rw [tab_len]; omega
 have hsh := (netErr_ok herr).2.2.1
 have z1 : ((plZ a zl).map Rt.q).length ≤ 1000 := by rw [List.length_map, hzl]; omega
 have s1 : (rq (plS a sl)).length ≤ 1000 := by rw [List.length_map, hsl]; omega
 have hcv : ∀ v V, (TupT [NetT (okL (netErr ((plZ a zl).map Rt.q) (rq (plS a sl))) ((plZ a zl).map Rt.q)) (okL (netErr ((plZ a zl).map Rt.q) (rq (plS a sl))) (rq (plS a sl))), IntT .i64 (netErr ((plZ a zl).map Rt.q) (rq (plS a sl)))]).p v V → (TupT [NetT ((plZ a zl).map Rt.q) (rq (plS a sl)), IntT .i64 0]).p v V := by rw [herr]; exact fun _ _ h => h
 have hcv2 : ∀ v V, (TupT [RNetT (okL (netErr ((plZ a zl).map Rt.q) (rq (plS a sl))) ((plZ a zl).map Rt.q)) (okL (netErr ((plZ a zl).map Rt.q) (rq (plS a sl))) (rq (plS a sl))), IntT .i64 (netErr ((plZ a zl).map Rt.q) (rq (plS a sl)))]).p v V → (TupT [RNetT ((plZ a zl).map Rt.q) (rq (plS a sl)), IntT .i64 0]).p v V := by rw [herr]; exact fun _ _ h => h
 refine Fun.intro Tryz.func15 rfl Tryz.ntmps15 rfl (fun cx => (ts (rn rfl (new_box (Ht rfl)) fun B1 => (rn rfl (new_alloc (Ts := [Is (.slice none 0 0), Is (.slice none 0 0)]) O_30 rfl (fun V => Cells.cons' ⟨rfl, trivial⟩ (Cells.cons' ⟨rfl, trivial⟩ (Cells.nil)))) fun B2 => (rn rfl (new_alloc (Ts := [Is (.slice none 0 0), Is (.slice none 0 0)]) O_34 rfl (fun V => Cells.cons' ⟨rfl, trivial⟩ (Cells.cons' ⟨rfl, trivial⟩ (Cells.nil)))) fun B3 => (ro rfl (op_assign Has.c) (R_nil (ts (ro rfl (op_ldBA Tryz.isAgg24 Tryz.sizeOf24 (Ht rfl) (i := 0) rfl rfl rfl) (ro rfl (op_call Tryz.call16 (c_Plain ha) ⟨(Ht rfl), trivial⟩) ?_))))))))))
 refine rm rfl (ro rfl (op_extract (Ht rfl) rfl) (ro rfl (op_extract (Ht rfl) rfl) (ra rfl (ra rfl (R_nil (ts (rm rfl (ro rfl (op_call Tryz.call19 (c_lawList (by omega)) ⟨(Ht rfl), trivial⟩) (rm rfl (ro rfl (op_call Tryz.call20 (c_lawRows (by omega) hall) ⟨(Ht rfl), trivial⟩) (ro rfl (op_call Tryz.call18 (Fun.imp (c_netNew (z := ((plZ a zl).map Rt.q)) (s := (rq (plS a sl))) (L := 2) FitL.rt (by decide) z1 s1) hcv) ⟨(Ht rfl), (Ht rfl), trivial⟩) (rm rfl (ro rfl (op_extract (Ht rfl) rfl) (ro rfl (op_extract (Ht rfl) rfl) (rn rfl (new_alloc (Ts := [Is (.slice none 0 0), Is (.slice none 0 0)]) O_30 rfl (fun V => Cells.cons' ⟨rfl, trivial⟩ (Cells.cons' ⟨rfl, trivial⟩ (Cells.nil)))) fun B7 => ?_)))))))))))))))
 refine R_stA Z_30 (Ht rfl) (Ht rfl) rfl (i := 3) rfl (Nat.le_of_ble_eq_true rfl) rfl rfl (ra rfl (R_nil (ts (rm rfl (ro rfl (op_call Tryz.call22 (c_refList4 (by omega)) ⟨(Ht rfl), trivial⟩) (rm rfl (ro rfl (op_call Tryz.call23 (c_refRows4 (by omega) hall) ⟨(Ht rfl), trivial⟩) (ro rfl (op_call Tryz.call21 (Fun.imp (c_rnetNew (z := ((plZ a zl).map Rt.q)) (s := (rq (plS a sl))) (L := 2) FitL.rt (by decide) z1 s1) hcv2) ⟨(Ht rfl), (Ht rfl), trivial⟩) (rm rfl (ro rfl (op_extract (Ht rfl) rfl) (ro rfl (op_extract (Ht rfl) rfl) (rn rfl (new_alloc (Ts := [Is (.slice none 0 0), Is (.slice none 0 0)]) O_34 rfl (fun V => Cells.cons' ⟨rfl, trivial⟩ (Cells.cons' ⟨rfl, trivial⟩ (Cells.nil)))) fun B9 => ?_))))))))))))
 refine R_stA Z_34 (Ht rfl) (Ht rfl) rfl (i := 4) rfl (Nat.le_of_ble_eq_true rfl) rfl rfl (ra rfl (R_nil (T_seq (Y.D_start (m := 11) [(9, 1, box B2 30 [NumsT ((plZ a zl).map Rt.q), NumM (rq (plS a sl))]), (10, 2, box B3 34 [QsT ((plZ a zl).map Rt.q), QM (rq (plS a sl))])] (Y.D_step (Ei := [(7, _)]) rfl rfl (Y.Srcs.cons (Y.Src.pre rfl rfl) Y.Srcs.nil) rfl rfl (by kernel_rfl) (S_plain rfl (op_ldBA A_30 Z_30 (Ht rfl) (i := 3) rfl rfl rfl)) (Y.D_hide (Ei := [(9, _)]) rfl rfl (Y.Srcs.cons (Y.Src.pre rfl rfl) Y.Srcs.nil) rfl rfl (S_plain rfl (op_ldBA A_34 Z_34 (Ht rfl) (i := 4) rfl rfl rfl)) ?_))))))
 refine Y.D_step (Ei := [(8, _)]) rfl rfl (Y.Srcs.cons (Y.Src.pre rfl rfl) Y.Srcs.nil) rfl rfl (by kernel_rfl) (S_plain rfl (op_move (Ht rfl))) (Y.D_step (Ei := [(34, _)]) rfl rfl (Y.Srcs.cons (Y.Src.op 2 rfl rfl) Y.Srcs.nil) rfl rfl (by kernel_rfl) (S_plain rfl (op_eql (Ht rfl) Has.c)) (Y.D_step (Ei := [(35, _)]) rfl rfl (Y.Srcs.cons (Y.Src.op 3 rfl rfl) Y.Srcs.nil) rfl rfl (by kernel_rfl) (S_plain rfl (op_move (Ht rfl))) (Y.D_step (Ei := [(7, _), (36, _)]) rfl rfl (Y.Srcs.cons (Y.Src.pre rfl rfl) (Y.Srcs.cons (Y.Src.op 4 rfl rfl) Y.Srcs.nil)) rfl rfl (by kernel_rfl) (S_when rfl rfl (Ht rfl) (fun h => op_ldBA A_30 Z_30 (Ht rfl) (i := 3) rfl rfl rfl)) ?_)))
 refine Y.D_step (Ei := [(9, _), (36, _)]) rfl rfl (Y.Srcs.cons (Y.Src.pre rfl rfl) (Y.Srcs.cons (Y.Src.op 4 rfl rfl) Y.Srcs.nil)) rfl rfl (by kernel_rfl) (S_when rfl rfl (Ht rfl) (fun h => op_ldBA A_34 Z_34 (Ht rfl) (i := 4) rfl rfl rfl)) (Y.D_step (Ei := [(37, _), (38, _), (36, _)]) rfl rfl (Y.Srcs.cons (Y.Src.op 5 rfl rfl) (Y.Srcs.cons (Y.Src.op 6 rfl rfl) (Y.Srcs.cons (Y.Src.op 4 rfl rfl) Y.Srcs.nil))) rfl rfl (by kernel_rfl) (S_when rfl rfl (Ht rfl) (fun h => op_call Tryz.call80 (c_is4 (z := ((plZ a zl).map Rt.q)) (s := (rq (plS a sl))) (L := 2) FitL.rt FitM.rt (by decide) (by decide) hsh z1) ⟨(Has.w rfl h), (Has.w rfl h), trivial⟩)) ?_)
 refine Y.D_hide (Ei := [(36, _), (39, _)]) rfl rfl (Y.Srcs.cons (Y.Src.op 4 rfl rfl) (Y.Srcs.cons (Y.Src.op 7 rfl rfl) Y.Srcs.nil)) rfl rfl (S_plain rfl (op_and (Ht rfl) (fun h => (Has.w rfl h)))) (Y.D_putI (Ei := [(2, _), (32, _)]) 1 rfl rfl rfl (Y.Srcs.cons (Y.Src.pre rfl rfl) (Y.Srcs.cons (Y.Src.op 0 rfl rfl) Y.Srcs.nil)) (.head _) rfl (P_stA Z_30 (Ht rfl) (Ht rfl) rfl (i := 0) rfl (Nat.le_of_ble_eq_true rfl) rfl rfl) (Y.D_putI (Ei := [(3, _), (33, _)]) 2 rfl rfl rfl (Y.Srcs.cons (Y.Src.pre rfl rfl) (Y.Srcs.cons (Y.Src.op 1 rfl rfl) Y.Srcs.nil)) (.tail _ (.head _)) rfl (P_stA Z_34 (Ht rfl) (Ht rfl) rfl (i := 0) rfl (Nat.le_of_ble_eq_true rfl) rfl rfl) ?_))
 refine Y.D_done mixed rfl (by kernel_rfl) rfl (by simp [Y.okP]) rfl rfl (Y.F_val (Y.F_val (Y.F_val (Y.F_val (Y.F_val (Y.F_val (Y.F_val (Y.F_val (Y.F_val (Y.F_putI (Y.F_putI (Y.F_nil ?_))))))))))))
 refine ra rfl (R_nil (T_ret3 rfl (rv_cell A_30 Z_30 rfl (i := 1) rfl rfl) (rv_cell A_34 Z_34 rfl (i := 2) rfl rfl) (rv_to (rv_tmp rfl) ?_)))
 exact (bool_of (by simp))
end Go.Proofs.YtbnpmobaglfcbaaGreat
namespace Go.Proofs.YtbnpmobaglfcbaaGreat
open Go Go.RowKit
def stkE (x y : Nat) : Int := if 8 < x + y then 4 else 0
def stkZ (z zb : List Qi) : List Qi := okL (stkE z.length zb.length) (z ++ zb)
def stkS (z zb : List Qi) (a b : List (List Qi)) : List (List Qi) := okL (stkE z.length zb.length) (sidM a b z.length zb.length)
theorem stk_bad {x y : Nat} (h : 8 < x + y) : stkE x y = 4 := if_pos h
theorem stk_ok {x y : Nat} (h : ¬ 8 < x + y) : stkE x y = 0 := if_neg h
theorem stk_shp (z zb : List Qi) (a b : List (List Qi)) : Shp (stkS z zb a b) (stkZ z zb).length (stkZ z zb).length ∧ (stkZ z zb).length ≤ z.length + zb.length := by
  by_cases h : stkE z.length zb.length = 0
  · rw [stkS, stkZ, okL, okL, h, if_pos rfl, if_pos rfl, List.length_append]; exact ⟨sidM_shp _ _ _ _, Nat.le_refl _⟩
  · rw [stkS, stkZ, okL, okL, if_neg h, if_neg h]; exact ⟨⟨rfl, fun r hr => by cases hr⟩, Nat.zero_le _⟩
theorem stk_fitS {z zb : List Qi} {a b : List (List Qi)} {L : Nat} (ha : FitM a L) (hb : FitM b L) (hL : 1 ≤ L) : FitM (stkS z zb a b) L := okL_fitM (sidM_fit ha hb hL)
theorem fitL_app {z zb : List Qi} {L : Nat} (hz : FitL z L) (hb : FitL zb L) : FitL (z ++ zb) L := fun x hx => (List.mem_append.1 hx).elim (hz x) (hb x)
theorem stk_fitZ {z zb : List Qi} {L : Nat} (hz : FitL z L) (hb : FitL zb L) : FitL (stkZ z zb) L := okL_fit (fitL_app hz hb)
def freshE (n : Nat) (p : Int) (o : List Int) : Int := if ¬ (1 ≤ p ∧ p ≤ n) then 1 else if (o.any fun x => decide (p = x)) = true then 8 else 0
def prtE (n : Nat) (l : List Int) : Int := firstE (fun i => freshE n (l.getD i 0) (l.take i)) l.length
def posL (l : List Int) : List Nat := l.map fun p => (p - 1).toNat
theorem posL_len (l : List Int) : (posL l).length = l.length := by rw [posL, List.length_map]
theorem fresh_ok {n : Nat} {p : Int} {o : List Int} (h : freshE n p o = 0) : 1 ≤ p ∧ p ≤ n := by
  unfold freshE at h
  split at h
  · omega
  · rename_i c; exact Decidable.not_not.1 c
theorem prt_in {n : Nat} {l : List Int} (h : prtE n l = 0) : ∀ x, x ∈ l → 1 ≤ x ∧ x ≤ n := fun x hx => by
  obtain ⟨i, hi, e⟩ := List.getElem_of_mem hx
  have := fresh_ok (firstE_zero h i hi)
  rw [show l.getD i 0 = x by rw [List.getD, List.getElem?_eq_getElem hi, e]; rfl] at this
  exact this
theorem pos_lt {n : Nat} {l : List Int} (h : prtE n l = 0) : ∀ x, x ∈ posL l → x < n := fun x hx => by
  obtain ⟨p, hp, rfl⟩ := List.mem_map.1 hx
  have := prt_in h p hp; omega
theorem pos_ints {n : Nat} {l : List Int} (h : prtE n l = 0) : l.map (IntT .i64) = ((posL l).map Nat.succ).map (NT .i64) := by
  rw [posL, List.map_map, List.map_map]
  refine List.map_congr_left fun p hp => ?_
  have := prt_in h p hp
  show IntT .i64 p = IntT .i64 (((p - 1).toNat + 1 : Nat) : Int)
  congr 1; omega
theorem pos_get {n : Nat} {l : List Int} (h : prtE n l = 0) {i : Nat} (hi : i < l.length) : qat (posL l) i = (l.getD i 0 - 1).toNat ∧ 1 ≤ l.getD i 0 := by
  have h1 := prt_in h (l.getD i 0) (by rw [show l.getD i 0 = l[i] by simp [List.getD, hi]]; exact List.getElem_mem hi)
  refine ⟨?_, h1.1⟩
  simp [qat, posL, List.getD, hi]
def rnmE (n : Nat) (l : List Int) : Int := if l.length ≠ n then 4 else prtE n l
def rnmZ (z : List Qi) (l : List Int) : List Qi := okL (rnmE z.length l) (subZ z (posL l))
def rnmS (z : List Qi) (s : List (List Qi)) (l : List Int) : List (List Qi) := okL (rnmE z.length l) (subM s (posL l))
theorem rnm_size {n : Nat} {l : List Int} (h : l.length ≠ n) : rnmE n l = 4 := if_pos h
theorem rnm_ok {n : Nat} {l : List Int} (h : l.length = n) : rnmE n l = prtE n l := if_neg (fun k => k h)
theorem subZ_len (z : List Qi) (Q : List Nat) : (subZ z Q).length = Q.length := tab_len _ _
theorem subM_shp (s : List (List Qi)) (Q : List Nat) : Shp (subM s Q) Q.length Q.length := Shp.tab
theorem rnm_shp (z : List Qi) (s : List (List Qi)) (l : List Int) : Shp (rnmS z s l) (rnmZ z l).length (rnmZ z l).length ∧ (rnmZ z l).length ≤ l.length := by
  by_cases h : rnmE z.length l = 0
  · rw [rnmS, rnmZ, okL, okL, h, if_pos rfl, if_pos rfl, subZ_len]; exact ⟨subM_shp _ _, by rw [posL_len]; exact Nat.le_refl _⟩
  · rw [rnmS, rnmZ, okL, okL, if_neg h, if_neg h]; exact ⟨⟨rfl, fun r hr => by cases hr⟩, Nat.zero_le _⟩
theorem subZ_fit {z : List Qi} {Q : List Nat} {L : Nat} (h : FitL z L) (hL : 1 ≤ L) : FitL (subZ z Q) L := FitL.tab fun i _ => h.get hL _
theorem subM_fit {s : List (List Qi)} {Q : List Nat} {L : Nat} (h : FitM s L) (hL : 1 ≤ L) : FitM (subM s Q) L := FitM.tab fun i j _ _ => h.get hL _ _
end Go.Proofs.YtbnpmobaglfcbaaGreat
namespace Go.Proofs.YtbnpmobaglfcbaaGreat
open Go Go.RowKit
section
variable {P : Program} {n : Nat} {E : Env} {H : Hp}
variable {d : Option Tmp} {t : TypeId} {pos : String} {af : Array Edge} {g : Option (Nat × Bool)}
theorem P_stB {x y : Operand} {i B o' : Nat} {BT : TypeId} {Ts Ws : List Ty} {T : Ty} [hsh : Shape T 1 false] (hS : ∀ w, (sizeOf t).run P w = .ok 1 w) (hx : Has E x (PtrB B o')) (hy : Has E y T)
    (hH : H[i]? = some (box B BT Ts)) (hlt : o' < Ts.length) (hW : Ts.set o' T = Ws) {t' : TypeId} {H' : Hp} (hH' : H.set i (box B BT Ws) = H') :
    W.PutTy P n E H H' ⟨none, .store t x y, t', pos, af, none⟩ := by subst hW; subst hH'; exact P_st hS hx hy hH hlt
theorem new_growZ {x y : Operand} {m e s : Nat} {tn : TypeId} {i : TypeInfo} {z : Value} {kd kn : IntKind} (ht : P.underlying t = some (.slice e)) (htn : P.underlying tn = some (.int kn)) (hi : P.info? e = some i) (hz : i.zero = some z) (hs : i.size = s) (hzs : z.cells.size = s) (hs0 : 0 < s)
    (hx : Has E x (Is (.slice none 0 0))) (hy : Has E y (IntT kd (m : Int))) (h0 : 0 < m) (hb : m * i.bytes ≤ 281474976710656) (hm : m ≤ 9223372036854775807) {t' : TypeId} :
    NewTy P n E H ⟨d, .call ⟨.builtin .append, #[x, y], #[t, tn]⟩, t', pos, af, g⟩ (Nat × Nat) (fun q => Is (.slice (some ⟨q.1, 0, none⟩) m q.2)) (fun q => rowO e s (.slice (some ⟨q.1, 0, none⟩) 0 q.2) []) := NewTy.of fun cx X a w V hi' hsl => by
  have ex : a.eval x = .slice none 0 0 := hx n V a hsl
  have ey : a.eval y = .int kd (m : Int) := hy n V a hsl
  have hr := Lib.run_append_nil_zeros (P := P) w t tn t' e i z kd kn ht htn hi hz m h0 (by omega) (by omega) hb
  have hge := grownCap_ge w m 0 e
  have hcm : grownCap w m 0 e ≤ maxLen := grownCap_le_maxLen w m 0 e (by simp only [maxLen]; omega)
  subst hs
  refine ⟨(w.heap.size, grownCap w m 0 e), _, _, ?_, rfl, (hi'.drew).alloc (ob := .cells (Builtin.zeroCells z.cells m ++ Builtin.zeroCells z.cells (grownCap w m 0 e - m)) e) (fun mm hm' => ⟨[], ⟨trivial, by simp, by simp [flat]⟩, .inr ⟨w.heap.size, grownCap w m 0 e, _, rfl, rfl, hm', Nat.zero_le _, hcm, ?_, by simp [flat]⟩⟩)⟩
  · simp [execOp, resolve, invoke, builtin, ex, ey, hr, Sem.run_bind, Result.andThen]
  · simp only [Array.size_append, size_zeroCells, hzs, ← Nat.add_mul]
    congr 1; omega
theorem op_capI {x : Operand} {ad : Option Addr} {l cap : Nat} {e : TypeId} {ta : TypeId} (hU : ∀ w, (underlying ta).run P w = .ok (.slice e) w) (hx : Has E x (Is (.slice ad l cap))) :
    OpTy P n E H ⟨d, .call ⟨.builtin .cap, #[x], #[ta]⟩, t, pos, af, g⟩ (IntT .i64 cap) :=
  op_pure fun a V w hs => by
    have e1 : a.eval x = .slice ad l cap := hx n V a hs
    exact ⟨.int .i64 cap, by simp [execOp, resolve, e1, invoke, builtin, Builtin.cap_, Sem.run_bind, hU, Result.andThen, goInt], rfl⟩
theorem op_sliceI {x hiO : Operand} {ad : Option Addr} {l cap m s : Nat} {kd : IntKind} {e : TypeId} (hU : ∀ w, (underlying t).run P w = .ok (.slice e) w) (hS : ∀ w, (sizeOf e).run P w = .ok s w) (hx : Has E x (Is (.slice ad l cap))) (hh : Has E hiO (IntT kd (m : Int))) (h1 : m ≤ cap) {t' : TypeId} :
    OpTy P n E H ⟨d, .slice t x none (some hiO) none, t', pos, af, g⟩ (Is (.slice ad m cap)) :=
  op_pure fun a V w hs => by
    have e1 : a.eval x = .slice ad l cap := hx n V a hs
    have eh : a.eval hiO = .int kd (m : Int) := hh n V a hs
    have had : (ad.map fun x : Addr => x.add 0) = ad := by cases ad <;> simp [Addr.add]
    refine ⟨.slice ad m cap, ?_, rfl⟩
    simp [execOp, e1, eh, Instr.sliceAt, Instr.slice, Instr.sliceBounds, Instr.sliceBound, asIntOf, Sem.run_bind, hU, hS, Result.andThen, h1, had]
end
end Go.Proofs.YtbnpmobaglfcbaaGreat
namespace Go.Proofs.YtbnpmobaglfcbaaGreat
open Go Go.RowKit
theorem und_3 : Tryz.prog.underlying 3 = some (.int .i64) := by kernel_rfl
end Go.Proofs.YtbnpmobaglfcbaaGreat
namespace Go.Proofs.YtbnpmobaglfcbaaGreat
open Go Go.RowKit
set_option maxRecDepth 20000 in
theorem c_GrowO {m : Nat} (hm : m ≤ 1000) : FunO Tryz.prog 221 [Is (.slice none 0 0), NT .i64 m] [] (Value) (fun v => Is v) (fun v => [rowO 49 5 v []]) (fun _ => True) := by
 refine FunO.intro Tryz.func221 rfl Tryz.ntmps221 rfl (fun cx Z => (ts (ro rfl (op_assign Has.c) (R_nil (T_seq (ts (rm rfl (ro rfl (op_lssN (Ht rfl) (Has.cN 0)) (R_nil (T_condF (Ht rfl) (by simp) ?_))))))))))
 refine T_skip (T_seq (ts (rm rfl (rm rfl (ro rfl (op_capI U_27 (Ht rfl)) (rm rfl (ro rfl (op_lenI U_27 (Ht rfl)) (ro rfl (op_subN (Ht rfl) (Ht rfl) (by omega) (by show _ < 9223372036854775808; first | omega | (simp only [lim]; omega))) (ro rfl (op_subN (Ht rfl) (Ht rfl) (by omega) (by show _ < 9223372036854775808; first | omega | (simp only [lim]; omega))) (ra rfl (R_nil (ts (rm rfl (ro rfl (op_gtrN (Ht rfl) (Has.cN 0)) (R_nil (T_cond (Ht rfl) (fun hb => ?_) (fun hb => ?_)))))))))))))))))
 ·have h0 : 0 < m := by simp only [decide_eq_true_eq] at hb; omega
  refine T_region (rm rfl (rm rfl (ro rfl (op_capI U_27 (Ht rfl)) (ro rfl (op_sliceI U_27 Z_49 (Ht rfl) (Ht rfl) (Nat.le_refl _)) (rm rfl (rn rfl (new_growZ (i := Tryz.t49) und_27 und_3 info_49 rfl rfl rfl (by decide) (Ht rfl) (Ht rfl) (by omega) (by show _ * 88 ≤ _; omega) (by omega)) fun q22 => (rm rfl (ro rfl (op_lenI U_27 (Ht rfl)) (ro rfl (op_sliceI U_27 Z_49 (Ht rfl) (Ht rfl) (Nat.zero_le _)) (ra rfl (R_nil (ts (rm rfl (ra rfl (R_nil ?_)))))))))))))))
  exact T_retO _ trivial [0, 1] ⟨⟨_, rfl, fun _ _ _ h => h⟩, ⟨_, rfl, fun _ _ _ h => h⟩, trivial⟩ (by decide) (rvs1 rfl (rv_tmp rfl))
 ·obtain rfl : m = 0 := by simp only [decide_eq_false_iff_not] at hb; omega
  refine T_row 49 5 (T_skip (ts (rm rfl (ra rfl (R_nil ?_)))))
  exact T_retO _ trivial [0, 1] ⟨⟨_, rfl, fun _ _ _ h => h⟩, ⟨_, rfl, fun _ _ _ h => h⟩, trivial⟩ (by decide) (rvs1 rfl (rv_tmp rfl))
abbrev cat (ls : List (List Qi)) (i : Nat) : List Qi := (ls.take i).flatten
theorem cat_next {ls : List (List Qi)} {i : Nat} (h : i < ls.length) : cat ls (i + 1) = cat ls i ++ ls.getD i [] := by
  simp only [cat]
  rw [List.take_succ_eq_append_getElem h, List.flatten_append]
  simp [List.getD, h]
theorem cat_fin (ls : List (List Qi)) : cat ls ls.length = ls.flatten := by rw [cat, List.take_length]
theorem cat_le {ls : List (List Qi)} {i : Nat} (h : i ≤ ls.length) : (cat ls i).length ≤ ls.flatten.length := by
  have e : ls.flatten = (ls.take i).flatten ++ (ls.drop i).flatten := by rw [← List.flatten_append, List.take_append_drop]
  show (ls.take i).flatten.length ≤ _
  rw [e, List.length_append]; omega
set_option maxRecDepth 20000 in
theorem c_Concat {ls : List (List Qi)} (hl : ls.length ≤ 1000) (hf : ls.flatten.length ≤ 1000) : Fun Tryz.prog 144 [SlT 1 (ls.map NumsT)] (NumsT ls.flatten) := by
 refine Fun.intro Tryz.func144 rfl Tryz.ntmps144 rfl (fun cx => (ts (ro rfl (op_assign Has.c) (R_nil (ts (ro rfl (op_assign (Has.cN 0)) (R_nil (T_seq (ts (rm rfl (ro rfl (op_len U_28 (Ht rfl) len_map) (ro rfl (op_move (Has.cN 0)) (R_nil (T_block ?_))))))))))))))
 refine T_loop (fun (i : Nat) => i ≤ ls.length) (fun (i : Nat) => ls.length - i) (fun (i : Nat) => [(0, SlT 1 (ls.map NumsT)), (3, NT .i64 (cat ls i).length), (9, SlT 1 (ls.map NumsT)), (10, NT .i64 ls.length), (11, NT .i64 i)]) (fun (i : Nat) => []) 0 (Nat.zero_le _)
  (Sub.cons rfl (Sub.cons rfl (Sub.cons rfl (Sub.cons rfl (Sub.cons rfl Sub.nil))))) HSub.nil (fun i hi => ?_)
 refine ts (ro rfl (op_lssN (Ht rfl) (Ht rfl)) (R_nil (T_seq (T_cond (Ht rfl) (fun hd => ?_) (fun hd => ?_)))))
 ·have hin : i < ls.length := by simp only [decide_eq_true_eq] at hd; omega
  have hcn := cat_next hin
  have hcl := cat_le (ls := ls) (i := i + 1) hin
  rw [hcn, List.length_append] at hcl
  refine T_skip (T_seq (T_block (ts (ro rfl (op_idx U_28 Z_27 (Ht rfl) (Ht rfl) rfl (map_get (getD_some (d := []) (by omega)))) (ro rfl (op_ld A_27 Z_27 (Ht rfl)) (ra rfl (R_nil (ts (rm rfl (rm rfl (ro rfl (op_len U_27 (Ht rfl) len_map) (ro rfl (op_addN (Ht rfl) (Ht rfl) (by show _ < 9223372036854775808; omega)) (ra rfl (R_nil (ts (rm rfl (ro rfl (op_lssN (Ht rfl) (Has.cN 0)) (R_nil (T_condF (Ht rfl) (by simp) ?_)))))))))))))))))))
  refine T_skip (T_blk (T_region (ro rfl (op_addN (Ht rfl) (Has.cN 1) (by show _ < 9223372036854775808; first | omega | (simp only [lim]; omega))) (rm rfl (R_nil (T_again (i + 1) hin (by omega) (Sub.cons rfl (Sub.to rfl (nt_of (by rw [hcn, List.length_append])) (Sub.cons rfl (Sub.cons rfl (Sub.cons rfl Sub.nil))))) HSub.nil))))))
 ·have hin : i = ls.length := by simp only [decide_eq_false_iff_not] at hd; omega
  rw [hin, cat_fin]
  refine T_exit rfl (ts (rm rfl (R_call0 Tryz.call221 (c_GrowO (m := ls.flatten.length) hf) ⟨Has.c, (Ht rfl), trivial⟩ rfl (fun v24 _ => (ra rfl (R_nil (T_seq (ts (rm rfl (ro rfl (op_len U_28 (Ht rfl) len_map) (ro rfl (op_move (Has.cN 0)) (R_nil (T_block ?_)))))))))))))
  refine T_loop2 (fun (j : Nat) (v : Value) => j ≤ ls.length) (fun (j : Nat) (v : Value) => ls.length - j) (fun (j : Nat) (v : Value) => [(0, SlT 1 (ls.map NumsT)), (6, Is v), (25, SlT 1 (ls.map NumsT)), (26, NT .i64 ls.length), (27, NT .i64 j)]) (fun (j : Nat) (v : Value) => [rowO 49 5 v ((cat ls j).map NumT)]) 0 _ (Nat.zero_le _)
   (Sub.cons rfl (Sub.cons rfl (Sub.cons rfl (Sub.cons rfl (Sub.cons rfl Sub.nil))))) (HSub.cons (rowO_of rfl) HSub.nil) (fun j v hj => ?_)
  refine ts (ro rfl (op_lssN (Ht rfl) (Ht rfl)) (R_nil (T_seq (T_cond (Ht rfl) (fun he => ?_) (fun he => ?_)))))
  ·have hjn : j < ls.length := by simp only [decide_eq_true_eq] at he; omega
   have hcn := cat_next hjn
   have hcl := cat_le (ls := ls) (i := j + 1) hjn
   rw [hcn, List.length_append] at hcl
   refine T_skip (T_seq (T_block (ts (ro rfl (op_idx U_28 Z_27 (Ht rfl) (Ht rfl) rfl (map_get (getD_some (d := []) (by omega)))) (ro rfl (op_ld A_27 Z_27 (Ht rfl)) (ra rfl (R_nil (T_region (rm rfl (rm rfl (R_appendA (inf := Tryz.t49) und_27 info_49 rfl rfl rfl (Ht rfl) (Ht rfl) (i := 0) rfl (fun T hT => by obtain ⟨x, _, rfl⟩ := List.mem_map.1 hT; exact El.ag rfl) (by show _ * 88 ≤ _; simp only [List.length_map]; omega) (by simp only [List.length_map]; omega) rfl (fun v2 => ?_))))))))))))
   refine ra rfl (R_nil (T_blk (T_region (ro rfl (op_addN (Ht rfl) (Has.cN 1) (by show _ < 9223372036854775808; first | omega | (simp only [lim]; omega))) (rm rfl (R_nil (T_again (j + 1, v2) hjn (by dsimp only; omega) (Sub.cons rfl (Sub.cons rfl (Sub.cons rfl (Sub.cons rfl (Sub.cons rfl Sub.nil))))) (HSub.cons (rowO_of (by rw [hcn, List.map_append])) HSub.nil))))))))
  ·have hjn : j = ls.length := by simp only [decide_eq_false_iff_not] at he; omega
   rw [hjn, cat_fin]
   refine T_exit rfl (T_freeze (i := 0) (tt := 6) rfl rfl frz_row (ts (rm rfl (ra rfl (R_nil ?_)))))
   exact T_ret1 rfl (rv_tmp rfl)
set_option maxRecDepth 20000 in
theorem c_Stack1 {z zb : List Qi} {a b : List (List Qi)} {x y i j : Nat} (ha : Shp a x x) (hb : Shp b y y) (hx : x ≤ 100) (hy : y ≤ 100) (hi : i < x + y) (hj : j < x + y) : Fun Tryz.prog 143 [NT .i64 i, NT .i64 j, PT (NT .i64 x), PT (NetT z a), PT (NetT zb b)] (NumT (gm (sidM a b x y) i j)) := by
 have hal := ha.1
 have hbl := hb.1
 rw [sidM_gm hi hj]
 refine Fun.intro Tryz.func143 rfl Tryz.ntmps143 rfl (fun cx => (ts (rn rfl (new_alloc (Ts := [Is (.bool false), Is (.slice none 0 0), Is (.bool false), Is (.slice none 0 0), Is (.slice none 0 0)]) O_49 rfl (fun V => Cells.cons' ⟨rfl, trivial⟩ (Cells.cons' ⟨rfl, trivial⟩ (Cells.cons' ⟨rfl, trivial⟩ (Cells.cons' ⟨rfl, trivial⟩ (Cells.cons' ⟨rfl, trivial⟩ (Cells.nil))))))) fun B7 => (R_nil (T_seq (T_block (ts (rm rfl (ro rfl (op_ld A_3 Z_3 (Ht rfl)) (ro rfl (op_lssN (Ht rfl) (Ht rfl)) (rm rfl (R_step rfl rfl (S_when rfl rfl (Ht rfl) (fun h => op_move (Ht rfl))) ?_))))))))))))
 refine R_step rfl rfl (S_when rfl rfl (Ht rfl) (fun h => op_ld A_3 Z_3 (Ht rfl))) (R_step rfl rfl (S_when rfl rfl (Ht rfl) (fun h => op_lssN (Has.w rfl h) (Has.w rfl h))) (ro rfl (op_and (Ht rfl) (fun h => (Has.w rfl h))) (ra rfl (R_nil (T_cond (Ht rfl) (fun h1 => ?_) (fun h1 => ?_))))))
 ·have h2 : i < x ∧ j < x := by simpa using h1
  have har := ha.row h2.1
  refine ts (ro rfl (op_fld1 fa_30_1 (Ht rfl) rfl) (ro rfl (op_ld A_28 Z_28 (Ht rfl)) (rm rfl (ro rfl (op_idx U_28 Z_27 (Ht rfl) (Ht rfl) rfl (map_get (getD_some (d := []) (by omega)))) (ro rfl (op_ld A_27 Z_27 (Ht rfl)) (rm rfl (ro rfl (op_idx U_27 Z_49 (Ht rfl) (Ht rfl) rfl (map_get (getD_some (d := Qi.zero) (by omega)))) (ro rfl (op_ld A_49 Z_49 (Ht rfl)) (R_stA Z_49 (Ht rfl) (Ht rfl) rfl (i := 0) rfl (Nat.le_of_ble_eq_true rfl) rfl rfl (R_nil (T_ret1 rfl (rv_to (rv_cell A_49 Z_49 rfl (i := 0) rfl rfl) ?_))))))))))))
  exact (num_of (by rw [if_pos h2.1, if_pos h2.2]))
 ·have h2 : ¬ (i < x ∧ j < x) := by simpa using h1
  refine ts (rm rfl (ro rfl (op_ld A_3 Z_3 (Ht rfl)) (ro rfl (op_geqN (Ht rfl) (Ht rfl)) (rm rfl (R_step rfl rfl (S_when rfl rfl (Ht rfl) (fun h => op_move (Ht rfl))) (R_step rfl rfl (S_when rfl rfl (Ht rfl) (fun h => op_ld A_3 Z_3 (Ht rfl))) (R_step rfl rfl (S_when rfl rfl (Ht rfl) (fun h => op_geqN (Has.w rfl h) (Has.w rfl h))) (ro rfl (op_and (Ht rfl) (fun h => (Has.w rfl h))) (ra rfl (R_nil (T_cond (Ht rfl) (fun h3 => ?_) (fun h3 => ?_))))))))))))
  ·have h4 : x ≤ i ∧ x ≤ j := by simpa using h3
   have hbr := hb.row (i := i - x) (by omega)
   refine T_seq (C.D_start (m := 10) (dp 4 rfl (op_fld1 fa_30_1 (Ht rfl) rfl) (dq 34 0 rfl (op_ld A_28 Z_28 (Ht rfl)) (dp 0 rfl (op_move (Ht rfl)) (dp 2 rfl (op_ld A_3 Z_3 (Ht rfl)) (dqq 36 2 37 3 rfl (op_subN (Ht rfl) (Ht rfl) (by omega) (by show _ < 9223372036854775808; first | omega | (simp only [lim]; omega))) (dqq 35 1 38 4 rfl (op_idx U_28 Z_27 (Ht rfl) (Ht rfl) rfl (map_get (getD_some (d := []) (by omega)))) (dq 39 5 rfl (op_ld A_27 Z_27 (Ht rfl)) (dp 1 rfl (op_move (Ht rfl)) (dp 2 rfl (op_ld A_3 Z_3 (Ht rfl)) ?_))))))))))
   refine dqq 41 7 42 8 rfl (op_subN (Ht rfl) (Ht rfl) (by omega) (by show _ < 9223372036854775808; first | omega | (simp only [lim]; omega))) (C.D_done mixed rfl (by kernel_rfl) (C.F_val (C.F_val (C.F_val (C.F_val (C.F_val (C.F_val (C.F_val (C.F_val (C.F_val (C.F_val (C.F_nil (ro rfl (op_idx U_27 Z_49 (Ht rfl) (Ht rfl) rfl (map_get (getD_some (d := Qi.zero) (by omega)))) (ro rfl (op_ld A_49 Z_49 (Ht rfl)) (R_stA Z_49 (Ht rfl) (Ht rfl) rfl (i := 0) rfl (Nat.le_of_ble_eq_true rfl) rfl rfl (R_nil (T_ret1 rfl (rv_to (rv_cell A_49 Z_49 rfl (i := 0) rfl rfl) ?_))))))))))))))))))
   exact (num_of (by rw [if_neg (by omega), if_pos h4.2]))
  ·have h4 : ¬ (x ≤ i ∧ x ≤ j) := by simpa using h3
   have h5 : Qi.ofInt (0 : Nat) = (if i < x then if j < x then gm a i j else Qi.zero else if x ≤ j then gm b (i - x) (j - x) else Qi.zero) := by
    by_cases e : i < x
    ·rw [if_pos e, if_neg (by omega)]; rfl
    ·rw [if_neg e, if_neg (by omega)]; rfl
   refine T_skip (T_blk (ts (ro rfl (op_call Tryz.call99 (c_whole (n := 0) (by decide) (by decide)) ⟨(Has.cN 0), trivial⟩) (R_stA Z_49 (Ht rfl) (Ht rfl) rfl (i := 0) rfl (Nat.le_of_ble_eq_true rfl) rfl rfl (R_nil (T_ret1 rfl (rv_to (rv_cell A_49 Z_49 rfl (i := 0) rfl rfl) ?_)))))))
   exact (num_of h5)
set_option maxHeartbeats 1000000 in
set_option maxRecDepth 20000 in
theorem c_Stack {z zb : List Qi} {a b : List (List Qi)} (ha : Shp a z.length z.length) (hb : Shp b zb.length zb.length) (hx : z.length ≤ 100) (hy : zb.length ≤ 100) : Fun Tryz.prog 47 [NetT z a, NetT zb b] (TupT [NetT (stkZ z zb) (stkS z zb a b), IntT .i64 (stkE z.length zb.length)]) := by
 refine Fun.intro Tryz.func47 rfl Tryz.ntmps47 rfl (fun cx => (ts (rn rfl (new_box (Ht rfl)) fun B2 => (rn rfl (new_box (Ht rfl)) fun B3 => (rn rfl (new_alloc (Ts := [Is (.slice none 0 0), Is (.slice none 0 0)]) O_30 rfl (fun V => Cells.cons' ⟨rfl, trivial⟩ (Cells.cons' ⟨rfl, trivial⟩ (Cells.nil)))) fun B4 => (ro rfl (op_assign (Has.cN 0)) (R_nil (T_seq (Y.D_start (m := 12) [] (Y.D_hide (Ei := [(2, _)]) rfl rfl (Y.Srcs.cons (Y.Src.pre rfl rfl) Y.Srcs.nil) rfl rfl (S_plain rfl (op_fldB fa_30_0 (Ht rfl) rfl)) (Y.D_hide (Ei := [(9, _)]) rfl rfl (Y.Srcs.cons (Y.Src.op 0 rfl rfl) Y.Srcs.nil) rfl rfl (S_plain rfl (op_ldB A_27 Z_27 (Ht rfl) (i := 0) rfl rfl)) ?_)))))))))))
 refine Y.D_hide (Ei := [(10, _)]) rfl rfl (Y.Srcs.cons (Y.Src.op 1 rfl rfl) Y.Srcs.nil) rfl rfl (S_plain rfl (op_len U_27 (Ht rfl) len_map)) (Y.D_hide (Ei := [(2, _)]) rfl rfl (Y.Srcs.cons (Y.Src.pre rfl rfl) Y.Srcs.nil) rfl rfl (S_plain rfl (op_fldB fa_30_0 (Ht rfl) rfl)) (Y.D_hide (Ei := [(12, _)]) rfl rfl (Y.Srcs.cons (Y.Src.op 3 rfl rfl) Y.Srcs.nil) rfl rfl (S_plain rfl (op_ldB A_27 Z_27 (Ht rfl) (i := 0) rfl rfl)) (Y.D_hide (Ei := [(13, _)]) rfl rfl (Y.Srcs.cons (Y.Src.op 4 rfl rfl) Y.Srcs.nil) rfl rfl (S_plain rfl (op_len U_27 (Ht rfl) len_map)) ?_)))
 refine Y.D_hide (Ei := [(3, _)]) rfl rfl (Y.Srcs.cons (Y.Src.pre rfl rfl) Y.Srcs.nil) rfl rfl (S_plain rfl (op_fldB fa_30_0 (Ht rfl) rfl)) (Y.D_hide (Ei := [(15, _)]) rfl rfl (Y.Srcs.cons (Y.Src.op 6 rfl rfl) Y.Srcs.nil) rfl rfl (S_plain rfl (op_ldB A_27 Z_27 (Ht rfl) (i := 1) rfl rfl)) (Y.D_hide (Ei := [(16, _)]) rfl rfl (Y.Srcs.cons (Y.Src.op 7 rfl rfl) Y.Srcs.nil) rfl rfl (S_plain rfl (op_len U_27 (Ht rfl) len_map)) (Y.D_hide (Ei := [(14, _), (17, _)]) rfl rfl (Y.Srcs.cons (Y.Src.op 5 rfl rfl) (Y.Srcs.cons (Y.Src.op 8 rfl rfl) Y.Srcs.nil)) rfl rfl (S_plain rfl (op_addN (Ht rfl) (Ht rfl) (by show _ < 9223372036854775808; first | omega | (simp only [lim]; omega)))) ?_)))
 refine Y.D_newp (Ei := []) (fun bb => box bb 3 [NT .i64 z.length]) 11 rfl rfl rfl Y.Srcs.nil rfl rfl (by kernel_rfl) (new_alloc (Ts := [Is (.int .i64 0)]) O_3 rfl (fun V => Cells.cons' ⟨rfl, trivial⟩ (Cells.nil))) (Y.D_putN (Ei := [(11, _)]) 10 rfl rfl rfl rfl rfl rfl (Y.Srcs.cons (Y.Src.op 2 rfl rfl) Y.Srcs.nil) (fun bb => P_stB Z_3 (Ht rfl) (Ht rfl) (i := 0) rfl (Nat.le_of_ble_eq_true rfl) rfl rfl) (Y.D_done mixed rfl (by kernel_rfl) rfl (by simp [Y.okP]) rfl rfl (Y.F_val (Y.F_val (Y.F_val (Y.F_val (Y.F_val (Y.F_val (Y.F_val (Y.F_val (Y.F_val (Y.F_val (Y.F_newp (fun B6 => Y.F_putN (Y.F_nil ?_)))))))))))))))
 refine ra rfl (R_nil (T_seq (ts (rm rfl (ro rfl (op_gtrN (Ht rfl) (Has.cN 8)) (R_nil (T_cond (Ht rfl) (fun hb1 => ?_) (fun hb1 => ?_))))))))
 ·have h2 : 8 < z.length + zb.length := by simpa using hb1
  have he := stk_bad h2
  refine ts (ro rfl (OpTy.imp (bld_30_ ) net_nil) (R_stA Z_30 (Ht rfl) (Ht rfl) rfl (i := 2) rfl (Nat.le_of_ble_eq_true rfl) rfl rfl (ro rfl (op_assign (Has.cN 4)) (R_nil (T_ret2 rfl (rv_to (rv_cell A_30 Z_30 rfl (i := 2) rfl rfl) ?_) (rv_to (rv_tmp rfl) ?_))))))
  ·exact (fun v V h => by rw [stkZ, stkS, okL, okL, he]; exact h)
  ·exact (int_of he.symm)
 ·have h2 : ¬ 8 < z.length + zb.length := by simpa using hb1
  have he := stk_ok h2
  refine T_skip (T_seq (T_freeze (i := 0) (tt := 2) rfl rfl frz_ptr (T_freeze (i := 1) (tt := 3) rfl rfl frz_ptr (T_freeze (i := 3) (tt := 6) rfl rfl frz_ptr1 (T_region (rm rfl (ro rfl (op_clos (γ := Fin (z.length + zb.length) × Fin (z.length + zb.length)) (Ts := fun x => [NT .i64 x.1.1, NT .i64 x.2.1]) (U := fun x => NumT (gm (sidM a b z.length zb.length) x.1.1 x.2.1)) Tryz.call143 (fun x => c_Stack1 ha hb hx hy x.1.2 x.2.2) ⟨(Ht rfl), (Ht rfl), (Ht rfl), trivial⟩) (ro rfl (op_call Tryz.call85 (Fun.imp (c_fill (n := z.length + zb.length) (f := fun i j => gm (sidM a b z.length zb.length) i j) (by omega)) (slT_of (congrArg _ (mat_tab (sidM_shp a b z.length zb.length)).symm))) ⟨(Ht rfl), (Ht rfl), trivial⟩) ?_))))))))
  refine ra rfl (R_nil (ts (ro rfl (op_fld1 fa_30_0 (Ht rfl) rfl) (ro rfl (op_ld A_27 Z_27 (Ht rfl)) (ro rfl (op_fld1 fa_30_0 (Ht rfl) rfl) (ro rfl (op_ld A_27 Z_27 (Ht rfl)) (ro rfl (op_bslice (xs := [.tmp 26, .tmp 28]) U_28 Z_27 Tryz.zeroValue27 (Elems.cons (Ht rfl) (Elems.cons (Ht rfl) Elems.nil)) rfl rfl rfl) (ro rfl (op_call Tryz.call144 (Fun.imp (c_Concat (ls := [z, zb]) (by simp) (by simp; omega)) (slT_of (Us := (z ++ zb).map NumT) (by simp))) ⟨(Ht rfl), trivial⟩) ?_))))))))
  refine rm rfl (ro rfl (bld_30_0_1 (Ht rfl) (Ht rfl)) (R_stA Z_30 (Ht rfl) (Ht rfl) rfl (i := 2) rfl (Nat.le_of_ble_eq_true rfl) rfl rfl (ro rfl (op_assign (Has.cN 0)) (R_nil (T_ret2 rfl (rv_to (rv_cell A_30 Z_30 rfl (i := 2) rfl rfl) ?_) (rv_to (rv_tmp rfl) ?_))))))
  ·exact (fun v V h => by rw [stkZ, stkS, okL, okL, he]; exact h)
  ·exact (int_of he.symm)
set_option maxRecDepth 20000 in
theorem c_rStack {z zb : List Qi} {a b : List (List Qi)} (ha : Shp a z.length z.length) (hb : Shp b zb.length zb.length) (hx1 : 1 ≤ z.length) (hy1 : 1 ≤ zb.length) (hx : z.length ≤ 100) (hy : zb.length ≤ 100) : Fun Tryz.prog 48 [RNetT z a, RNetT zb b] (TupT [RNetT (stkZ z zb) (stkS z zb a b), IntT .i64 (stkE z.length zb.length)]) := by
 refine Fun.intro Tryz.func48 rfl Tryz.ntmps48 rfl (fun cx => (ts (rn rfl (new_box (Ht rfl)) fun B2 => (rn rfl (new_box (Ht rfl)) fun B3 => (rn rfl (new_alloc (Ts := [Is (.slice none 0 0), Is (.slice none 0 0)]) O_34 rfl (fun V => Cells.cons' ⟨rfl, trivial⟩ (Cells.cons' ⟨rfl, trivial⟩ (Cells.nil)))) fun B4 => (ro rfl (op_assign (Has.cN 0)) (R_nil (T_seq (ts (ro rfl (op_fldB fa_34_0 (Ht rfl) rfl) (ro rfl (op_ldB A_31 Z_31 (Ht rfl) (i := 0) rfl rfl) (ro rfl (op_len U_31 (Ht rfl) len_map) (ro rfl (op_fldB fa_34_0 (Ht rfl) rfl) (ro rfl (op_ldB A_31 Z_31 (Ht rfl) (i := 1) rfl rfl) ?_))))))))))))))
 refine ro rfl (op_len U_31 (Ht rfl) len_map) (ro rfl (op_addN (Ht rfl) (Ht rfl) (by show _ < 9223372036854775808; first | omega | (simp only [lim]; omega))) (ro rfl (op_gtrN (Ht rfl) (Has.cN 8)) (R_nil (T_cond (Ht rfl) (fun hb1 => ?_) (fun hb1 => ?_)))))
 ·have h2 : 8 < z.length + zb.length := by simpa using hb1
  have he := stk_bad h2
  refine ts (ro rfl (OpTy.imp (bld_34_ ) rnet_nil) (R_stA Z_34 (Ht rfl) (Ht rfl) rfl (i := 2) rfl (Nat.le_of_ble_eq_true rfl) rfl rfl (ro rfl (op_assign (Has.cN 4)) (R_nil (T_ret2 rfl (rv_to (rv_cell A_34 Z_34 rfl (i := 2) rfl rfl) ?_) (rv_to (rv_tmp rfl) ?_))))))
  ·exact (fun v V h => by rw [stkZ, stkS, okL, okL, he]; exact h)
  ·exact (int_of he.symm)
 ·have h2 : ¬ 8 < z.length + zb.length := by simpa using hb1
  have he := stk_ok h2
  refine T_skip (ts (ro rfl (op_ldBA A_34 Z_34 (Ht rfl) (i := 0) rfl rfl rfl) (ro rfl (op_ldBA A_34 Z_34 (Ht rfl) (i := 1) rfl rfl rfl) (ro rfl (op_call Tryz.call145 (c_side ha hb rfl rfl hx1 hy1 hx hy) ⟨(Ht rfl), (Ht rfl), trivial⟩) (R_stA Z_34 (Ht rfl) (Ht rfl) rfl (i := 2) rfl (Nat.le_of_ble_eq_true rfl) rfl rfl (ro rfl (op_assign (Has.cN 0)) (R_nil (T_ret2 rfl (rv_to (rv_cell A_34 Z_34 rfl (i := 2) rfl rfl) ?_) (rv_to (rv_tmp rfl) ?_)))))))))
  ·exact (fun v V h => by rw [stkZ, stkS, okL, okL, he]; exact h)
  ·exact (int_of he.symm)
set_option maxRecDepth 20000 in
theorem c_fresh {z : List Qi} {s : List (List Qi)} {q : Int} {o : List Int} (hl : z.length ≤ 1000) (ho : o.length ≤ 1000) : Fun Tryz.prog 146 [NetT z s, IntT .i64 q, SlT 1 (o.map (IntT .i64))] (IntT .i64 (freshE z.length q o)) := by
 refine Fun.intro Tryz.func146 rfl Tryz.ntmps146 rfl (fun cx => (ts (rn rfl (new_box (Ht rfl)) fun B3 => (ro rfl (op_assign (Has.cN 0)) (R_nil (T_seq (T_block (ts (ro rfl (op_ldBA A_30 Z_30 (Ht rfl) (i := 0) rfl rfl rfl) (rm rfl (ro rfl (op_call Tryz.call165 c_has ⟨(Ht rfl), (Ht rfl), trivial⟩) (ro rfl (op_not (Ht rfl)) (ra rfl (R_nil (T_cond (Ht rfl) (fun hb1 => ?_) (fun hb1 => ?_))))))))))))))))
 ·have h2 : ¬ (1 ≤ q ∧ q ≤ (z.length : Int)) := by simpa only [Bool.not_eq_true', decide_eq_false_iff_not] using hb1
  refine ts (ro rfl (op_assign (Has.cN 1)) (R_nil (T_ret1 rfl (rv_to (rv_tmp rfl) ?_))))
  exact (int_of (if_pos h2).symm)
 ·have h2 : 1 ≤ q ∧ q ≤ (z.length : Int) := by simpa using hb1
  refine ts (rm rfl (rm rfl (ro rfl (op_call Tryz.call222 (c_ContainsInt (l := o) (v := q) (by omega)) ⟨(Ht rfl), (Ht rfl), trivial⟩) (ra rfl (R_nil (T_cond (Ht rfl) (fun hb2 => ?_) (fun hb2 => ?_)))))))
  ·refine ts (ro rfl (op_assign (Has.cN 8)) (R_nil (T_ret1 rfl (rv_to (rv_tmp rfl) ?_))))
   exact (int_of (by rw [freshE, if_neg (fun k => k h2), if_pos hb2]; rfl))
  ·refine T_skip (T_blk (ts (ro rfl (op_assign (Has.cN 0)) (R_nil (T_ret1 rfl (rv_to (rv_tmp rfl) ?_))))))
   exact (int_of (by rw [freshE, if_neg (fun k => k h2), if_neg (by rw [hb2]; decide)]; rfl))
set_option maxHeartbeats 1000000 in
set_option maxRecDepth 20000 in
theorem c_Renum {z : List Qi} {s : List (List Qi)} {l : List Int} (hs : Shp s z.length z.length) (hl : z.length ≤ 1000) (hll : l.length ≤ 1000) : Fun Tryz.prog 49 [NetT z s, SlT 1 (l.map (IntT .i64))] (TupT [NetT (rnmZ z l) (rnmS z s l), IntT .i64 (rnmE z.length l)]) := by
 refine Fun.intro Tryz.func49 rfl Tryz.ntmps49 rfl (fun cx => (ts (rn rfl (new_box (Ht rfl)) fun B2 => (rn rfl (new_alloc (Ts := [Is (.slice none 0 0), Is (.slice none 0 0)]) O_30 rfl (fun V => Cells.cons' ⟨rfl, trivial⟩ (Cells.cons' ⟨rfl, trivial⟩ (Cells.nil)))) fun B4 => (ro rfl (op_assign (Has.cN 0)) (R_nil (T_seq (ts (rm rfl (ro rfl (op_len U_91 (Ht rfl) len_map) (ro rfl (op_fldB fa_30_0 (Ht rfl) rfl) (ro rfl (op_ldB A_27 Z_27 (Ht rfl) (i := 0) rfl rfl) (ro rfl (op_len U_27 (Ht rfl) len_map) (ro rfl (op_neqN (Ht rfl) (Ht rfl)) ?_))))))))))))))
 refine R_nil (T_cond (Ht rfl) (fun hb1 => ?_) (fun hb1 => ?_))
 ·have h2 : l.length ≠ z.length := by simpa using hb1
  have he := rnm_size h2
  refine ts (ro rfl (OpTy.imp (bld_30_ ) net_nil) (R_stA Z_30 (Ht rfl) (Ht rfl) rfl (i := 1) rfl (Nat.le_of_ble_eq_true rfl) rfl rfl (ro rfl (op_assign (Has.cN 4)) (R_nil (T_ret2 rfl (rv_to (rv_cell A_30 Z_30 rfl (i := 1) rfl rfl) ?_) (rv_to (rv_tmp rfl) ?_))))))
  ·exact (fun v V h => by rw [rnmZ, rnmS, okL, okL, he]; exact h)
  ·exact (int_of he.symm)
 ·have h2 : l.length = z.length := by simpa using hb1
  have hok := rnm_ok h2
  refine T_skip (T_seq (ts (rm rfl (ro rfl (op_len U_91 (Ht rfl) len_map) (ro rfl (op_move (Has.cN 0)) (R_nil (T_block ?_)))))))
  refine T_loop (fun (i : Nat) => i ≤ l.length ∧ ∀ j, j < i → (fun i => freshE z.length (l.getD i 0) (l.take i)) j = 0) (fun (i : Nat) => l.length - i) (fun (i : Nat) => [(1, SlT 1 (l.map (IntT .i64))), (2, PtrB B2 0), (4, PtrB B4 0), (16, SlT 1 (l.map (IntT .i64))), (17, NT .i64 l.length), (18, NT .i64 i)]) (fun (i : Nat) => [box B2 30 [NumsT z, NumM s], box B4 30 [Is (.slice none 0 0), Is (.slice none 0 0)]]) 0 ⟨Nat.zero_le _, fun j h => by omega⟩
   (Sub.cons rfl (Sub.cons rfl (Sub.cons rfl (Sub.cons rfl (Sub.cons rfl (Sub.cons rfl Sub.nil)))))) (HSub.cons (box_of rfl) (HSub.cons (box_of rfl) HSub.nil)) (fun i ⟨hi, h0⟩ => ?_)
  refine ts (ro rfl (op_lssN (Ht rfl) (Ht rfl)) (R_nil (T_seq (T_cond (Ht rfl) (fun hd => ?_) (fun hd => ?_)))))
  ·have hin : i < l.length := by simp only [decide_eq_true_eq] at hd; omega
   refine T_skip (T_seq (T_block (ts (rm rfl (ro rfl (op_idx U_91 Z_3 (Ht rfl) (Ht rfl) rfl (map_get (getD_some (d := 0) (by omega)))) (ro rfl (op_ld A_3 Z_3 (Ht rfl)) (ra rfl (ra rfl (R_nil (T_seq (C.D_start (m := 5) (dp 2 rfl (op_ldBA A_30 Z_30 (Ht rfl) (i := 0) rfl rfl rfl) (dp 7 rfl (op_move (Ht rfl)) (dp 1 rfl (op_move (Ht rfl)) (dp 6 rfl (op_move (Ht rfl)) (dqq 25 2 26 3 rfl (op_slice0 U_91 Z_3 (Ht rfl) (Ht rfl) (fun m e => by cases e) (by omega) (by rw [List.length_map]; omega) (Us := (l.take i).map (IntT .i64)) (by rw [Int.toNat_natCast, List.map_take])) ?_))))))))))))))))
   refine C.D_done mixed rfl (by kernel_rfl) (C.F_val (C.F_val (C.F_val (C.F_val (C.F_val (C.F_nil (ro rfl (op_call Tryz.call146 (c_fresh (q := l.getD i 0) (o := l.take i) hl (by rw [List.length_take]; omega)) ⟨(Ht rfl), (Ht rfl), (Ht rfl), trivial⟩) ?_)))))))
   refine ra rfl (R_nil (ts (rm rfl (ro rfl (op_neq (Ht rfl) Has.c) (R_nil (T_cond (Ht rfl) (fun he => ?_) (fun he => ?_)))))))
   ·have h3 : (fun i => freshE z.length (l.getD i 0) (l.take i)) i ≠ 0 := by simpa using he
    have he2 : rnmE z.length l = freshE z.length (l.getD i 0) (l.take i) := hok.trans (firstE_at h0 h3 hin)
    refine ts (ro rfl (OpTy.imp (bld_30_ ) net_nil) (rm rfl (R_stA Z_30 (Ht rfl) (Ht rfl) rfl (i := 1) rfl (Nat.le_of_ble_eq_true rfl) rfl rfl (ra rfl (R_nil (T_ret2 rfl (rv_to (rv_cell A_30 Z_30 rfl (i := 1) rfl rfl) ?_) (rv_to (rv_tmp rfl) ?_)))))))
    ·exact (fun v V h => by rw [rnmZ, rnmS, okL, okL, he2, if_neg h3, if_neg h3]; exact h)
    ·exact (int_of he2.symm)
   ·have h3 : (fun i => freshE z.length (l.getD i 0) (l.take i)) i = 0 := by simpa using he
    refine T_skip (T_blk (T_region (ro rfl (op_addN (Ht rfl) (Has.cN 1) (by show _ < 9223372036854775808; first | omega | (simp only [lim]; omega))) (rm rfl (R_nil (T_keep [0, 1] rfl (by decide) ?_))))))
    refine T_again (i + 1) ⟨hin, fun j h => by
      by_cases e : j = i
      ·rw [e]; exact h3
      ·exact h0 j (by omega)⟩ (by omega) (Sub.cons rfl (Sub.cons rfl (Sub.cons rfl (Sub.cons rfl (Sub.cons rfl (Sub.cons rfl Sub.nil)))))) (HSub.cons (box_of rfl) (HSub.cons (box_of rfl) HSub.nil))
  ·have hin : i = l.length := by simp only [decide_eq_false_iff_not] at hd; omega
   have h3 : prtE z.length l = 0 := firstE_none (by rw [hin] at h0; exact h0)
   have he : rnmE z.length l = 0 := hok.trans h3
   refine T_exit rfl (ts (ro rfl (op_ldBA A_30 Z_30 (Ht rfl) (i := 0) rfl rfl rfl) (ro rfl (op_move (Has.to (Ht rfl) (slT_of (pos_ints h3)))) (R_call0 Tryz.call147 (c_partG (Q := posL l) (m := l.length) hs (pos_lt h3) (posL_len l) hll hl) ⟨(Ht rfl), (Ht rfl), trivial⟩ rfl (fun B36 _ => (R_stA Z_30 (Ht rfl) (Ht rfl) rfl (i := 1) rfl (Nat.le_of_ble_eq_true rfl) rfl rfl (ro rfl (op_assign (Has.cN 0)) (R_nil (T_frzcellG 1 2 1 rfl rfl rfl (by decide) (frzM (q := fun _ => True) (M := subM s (posL l)) (by rw [(subM_shp s (posL l)).1, posL_len])) ?_)))))))))
   refine T_ret2 rfl (rv_to (rv_cell A_30 Z_30 rfl (i := 1) rfl rfl) ?_) (rv_to (rv_tmp rfl) ?_)
   ·exact (fun v V h => by rw [rnmZ, rnmS, okL, okL, he]; exact h)
   ·exact (int_of he.symm)
theorem within_yes {l : List Int} {n i : Nat} {q : Int} (hi : i < n) (hn : n ≤ l.length) (h : l.getD i 0 = q) : ((l.take n).any fun x => decide (q = x)) = true := by
  rw [List.any_eq_true]
  refine ⟨q, ?_, by simp⟩
  have e : l.getD i 0 = l[i] := by simp [List.getD, show i < l.length by omega]
  rw [← h, e]
  exact List.mem_take_iff_getElem.2 ⟨i, by omega, rfl⟩
theorem within_no {l : List Int} {n : Nat} {q : Int} (h : ∀ j, j < n → l.getD j 0 ≠ q) : ((l.take n).any fun x => decide (q = x)) = false := by
  rw [List.any_eq_false]
  intro x hx
  obtain ⟨j, hj, rfl⟩ := List.mem_take_iff_getElem.1 hx
  have := h j (by omega)
  simp [List.getD, show j < l.length by omega] at this
  simpa using Ne.symm this
set_option maxRecDepth 20000 in
theorem c_within {l : List Int} {n : Nat} {q : Int} (hn : n ≤ l.length) (hl : l.length ≤ 1000) : Fun Tryz.prog 224 [SlT 1 (l.map (IntT .i64)), NT .i64 n, IntT .i64 q] (BoolT ((l.take n).any fun x => decide (q = x))) := by
 refine Fun.intro Tryz.func224 rfl Tryz.ntmps224 rfl (fun cx => (ts (ro rfl (op_assign Has.c) (R_nil (T_seq (ts (ro rfl (op_assign (Has.cN 0)) (R_nil (T_block ?_)))))))))
 refine T_loop (fun (i : Nat) => i ≤ n ∧ ∀ j, j < i → l.getD j 0 ≠ q) (fun (i : Nat) => n - i) (fun (i : Nat) => [(0, SlT 1 (l.map (IntT .i64))), (1, NT .i64 n), (2, IntT .i64 q), (7, NT .i64 i)]) (fun (i : Nat) => []) 0 ⟨Nat.zero_le _, fun j h => by omega⟩
  (Sub.cons rfl (Sub.cons rfl (Sub.cons rfl (Sub.cons rfl Sub.nil)))) HSub.nil (fun i ⟨hi, h0⟩ => ?_)
 refine T_seq (ts (rm rfl (rm rfl (ro rfl (op_lssN (Ht rfl) (Ht rfl)) (R_nil (T_cond (Ht rfl) (fun hd => ?_) (fun hd => ?_)))))))
 ·have hin : i < n := by simp only [decide_eq_true_eq] at hd; omega
  refine T_skip (T_seq (T_block (ts (rm rfl (rm rfl (ro rfl (op_idx U_91 Z_3 (Ht rfl) (Ht rfl) rfl (map_get (getD_some (d := 0) (by omega)))) (ro rfl (op_ld A_3 Z_3 (Ht rfl)) (rm rfl (ro rfl (op_eql (Ht rfl) (Ht rfl)) (R_nil (T_cond (Ht rfl) (fun he => ?_) (fun he => ?_))))))))))))
  ·have h3 : l.getD i 0 = q := by simpa using he
   refine ts (ro rfl (op_assign Has.c) (R_nil (T_ret1 rfl (rv_to (rv_tmp rfl) ?_))))
   exact (bool_of (within_yes hin hn h3).symm)
  ·have h3 : l.getD i 0 ≠ q := by simpa using he
   refine T_skip (T_blk (T_region (rm rfl (ro rfl (op_addN (Ht rfl) (Has.cN 1) (by show _ < 9223372036854775808; first | omega | (simp only [lim]; omega))) (ra rfl (R_nil ?_))))))
   refine T_again (i + 1) ⟨hin, fun j h => by
    by_cases e : j = i
    ·rw [e]; exact h3
    ·exact h0 j (by omega)⟩ (by omega) (Sub.cons rfl (Sub.cons rfl (Sub.cons rfl (Sub.cons rfl Sub.nil)))) HSub.nil
 ·have hin : i = n := by simp only [decide_eq_false_iff_not] at hd; omega
  rw [hin] at h0
  refine T_exit rfl (ts (ro rfl (op_assign Has.c) (R_nil (T_ret1 rfl (rv_to (rv_tmp rfl) ?_)))))
  exact (bool_of (within_no h0).symm)
set_option maxRecDepth 20000 in
theorem c_rPorts {n : Nat} {l : List Int} (hl : l.length ≤ 1000) : Fun Tryz.prog 148 [NT .i64 n, SlT 1 (l.map (IntT .i64))] (IntT .i64 (prtE n l)) := by
 refine Fun.intro Tryz.func148 rfl Tryz.ntmps148 rfl (fun cx => (ts (ro rfl (op_assign (Has.cN 0)) (R_nil (T_seq (ts (ro rfl (op_assign (Has.cN 0)) (R_nil (T_block ?_)))))))))
 refine T_loop (fun (i : Nat) => i ≤ l.length ∧ ∀ j, j < i → (fun i => freshE n (l.getD i 0) (l.take i)) j = 0) (fun (i : Nat) => l.length - i) (fun (i : Nat) => [(0, NT .i64 n), (1, SlT 1 (l.map (IntT .i64))), (5, NT .i64 i)]) (fun (i : Nat) => []) 0 ⟨Nat.zero_le _, fun j h => by omega⟩
  (Sub.cons rfl (Sub.cons rfl (Sub.cons rfl Sub.nil))) HSub.nil (fun i ⟨hi, h0⟩ => ?_)
 refine T_seq (ts (rm rfl (rm rfl (ro rfl (op_len U_91 (Ht rfl) len_map) (ro rfl (op_lssN (Ht rfl) (Ht rfl)) (R_nil (T_cond (Ht rfl) (fun hd => ?_) (fun hd => ?_))))))))
 ·have hin : i < l.length := by simp only [decide_eq_true_eq] at hd; omega
  refine T_skip (T_seq (T_block (T_seq (ts (rm rfl (rm rfl (ro rfl (op_idx U_91 Z_3 (Ht rfl) (Ht rfl) rfl (map_get (getD_some (d := 0) (by omega)))) (ro rfl (op_ld A_3 Z_3 (Ht rfl)) (ro rfl (op_lss (Ht rfl) Has.c) (rm rfl (R_step rfl rfl (S_when rfl rfl (Ht rfl) (fun h => op_move (Ht rfl))) (R_step rfl rfl (S_when rfl rfl (Ht rfl) (fun h => op_move (Ht rfl))) (R_step rfl rfl (S_when rfl rfl (Ht rfl) (fun h => op_idx U_91 Z_3 (Has.w rfl h) (Has.w rfl h) rfl (map_get (getD_some (d := 0) (by omega))))) (R_step rfl rfl (S_when rfl rfl (Ht rfl) (fun h => op_ld A_3 Z_3 (Has.w rfl h))) ?_))))))))))))))
  refine R_step rfl rfl (S_when rfl rfl (Ht rfl) (fun h => op_move (Ht rfl))) (R_step rfl rfl (S_when rfl rfl (Ht rfl) (fun h => op_gtr (Has.w rfl h) (Has.w rfl h))) (ro rfl (op_or (Ht rfl) (fun h => (Has.w rfl h))) (R_nil (T_cond (Ht rfl) (fun he => ?_) (fun he => ?_)))))
  ·have h3 : ¬ (1 ≤ l.getD i 0 ∧ l.getD i 0 ≤ (n : Int)) := by simp only [Bool.or_eq_true, decide_eq_true_eq] at he; omega
   have h4 : (fun i => freshE n (l.getD i 0) (l.take i)) i = 1 := if_pos h3
   refine ts (ro rfl (op_assign (Has.cN 1)) (R_nil (T_ret1 rfl (rv_to (rv_tmp rfl) ?_))))
   exact (int_of (by rw [prtE, firstE_at h0 (fun k => absurd (h4.symm.trans k) (by decide)) hin]; exact h4.symm))
  ·have h3 : 1 ≤ l.getD i 0 ∧ l.getD i 0 ≤ (n : Int) := by simp only [Bool.or_eq_false_iff, decide_eq_false_iff_not] at he; omega
   refine T_skip (ts (rm rfl (rm rfl (rm rfl (rm rfl (ro rfl (op_idx U_91 Z_3 (Ht rfl) (Ht rfl) rfl (map_get (getD_some (d := 0) (by omega)))) (ro rfl (op_ld A_3 Z_3 (Ht rfl)) (ro rfl (op_call Tryz.call224 (c_within (n := i) (q := l.getD i 0) (by omega) hl) ⟨(Ht rfl), (Ht rfl), (Ht rfl), trivial⟩) (R_nil (T_cond (Ht rfl) (fun hf => ?_) (fun hf => ?_)))))))))))
   ·have h4 : (fun i => freshE n (l.getD i 0) (l.take i)) i = 8 := by show freshE _ _ _ = 8; rw [freshE, if_neg (fun k => k h3), if_pos hf]
    refine ts (ro rfl (op_assign (Has.cN 8)) (R_nil (T_ret1 rfl (rv_to (rv_tmp rfl) ?_))))
    exact (int_of (by rw [prtE, firstE_at h0 (fun k => absurd (h4.symm.trans k) (by decide)) hin]; exact h4.symm))
   ·have h4 : (fun i => freshE n (l.getD i 0) (l.take i)) i = 0 := by show freshE _ _ _ = 0; rw [freshE, if_neg (fun k => k h3), if_neg (by rw [hf]; decide)]
    refine T_skip (T_blk (T_region (rm rfl (ro rfl (op_addN (Ht rfl) (Has.cN 1) (by show _ < 9223372036854775808; first | omega | (simp only [lim]; omega))) (ra rfl (R_nil ?_))))))
    refine T_again (i + 1) ⟨hin, fun j h => by
     by_cases e : j = i
     ·rw [e]; exact h4
     ·exact h0 j (by omega)⟩ (by omega) (Sub.cons rfl (Sub.cons rfl (Sub.cons rfl Sub.nil))) HSub.nil
 ·have hin : i = l.length := by simp only [decide_eq_false_iff_not] at hd; omega
  rw [hin] at h0
  refine T_exit rfl (ts (ro rfl (op_assign (Has.cN 0)) (R_nil (T_ret1 rfl (rv_to (rv_tmp rfl) ?_)))))
  exact (int_of (firstE_none h0).symm)
end Go.Proofs.YtbnpmobaglfcbaaGreat
namespace Go.Proofs.YtbnpmobaglfcbaaGreat
open Go Go.RowKit
set_option maxHeartbeats 2000000 in
set_option maxRecDepth 20000 in
theorem c_rPick {z : List Qi} {s : List (List Qi)} {Q : List Nat} (hs : Shp s z.length z.length) (hQ : ∀ x, x ∈ Q → x < z.length) (hm : Q.length ≤ 1000) : Fun Tryz.prog 149 [RNetT z s, IntsT Q] (RNetT (subZ z Q) (subM s Q)) := by
 have hsl := hs.1
 refine Fun.intro Tryz.func149 rfl Tryz.ntmps149 rfl (fun cx => (ts (rn rfl (new_box (Ht rfl)) fun B2 => (rn rfl (new_alloc (Ts := [Is (.slice none 0 0), Is (.slice none 0 0)]) O_34 rfl (fun V => Cells.cons' ⟨rfl, trivial⟩ (Cells.cons' ⟨rfl, trivial⟩ (Cells.nil)))) fun B4 => (R_nil (T_seq (C.D_start (m := 10) (dp 1 rfl (op_move (Ht rfl)) (dq 8 0 rfl (op_len U_91 (Ht rfl) len_map) (C.D_new (Ei := [(9, _)]) rfl rfl rfl (C.Srcs.cons (C.Src.op 1 rfl rfl) C.Srcs.nil) (new_makeS (T := ZQ) (i := Tryz.t81) und_31 info_81 rfl rfl (Ht rfl) rfl zq_p (El.ag rfl) (by show 88 * _ ≤ _; omega) (by omega)) ?_))))))))))
 refine dp 1 rfl (op_move (Ht rfl)) (dq 11 3 rfl (op_len U_91 (Ht rfl) len_map) (dp 1 rfl (op_move (Ht rfl)) (dq 13 5 rfl (op_len U_91 (Ht rfl) len_map) (C.D_new (Ei := [(12, _), (14, _)]) rfl rfl rfl (C.Srcs.cons (C.Src.op 4 rfl rfl) (C.Srcs.cons (C.Src.op 6 rfl rfl) C.Srcs.nil)) (new_call0 Tryz.call101 (c_ZerosO (n := Q.length) (m := Q.length) (by omega) (by omega)) ⟨(Ht rfl), (Ht rfl), trivial⟩) (C.D_dep (fun T U => AggT [T, U]) 2 7 rfl rfl rfl rfl rfl rfl (fun T U hT hU => by obtain ⟨x, rfl⟩ := hT; obtain ⟨y, rfl⟩ := hU; (try dsimp only); exact S_plain rfl (bld_34_0_1 (Ht rfl) (Ht rfl))) ?_)))))
 refine C.D_new (Ei := []) rfl rfl rfl C.Srcs.nil (new_alloc (Ts := [Is (.slice none 0 0), Is (.slice none 0 0)]) O_34 rfl (fun V => Cells.cons' ⟨rfl, trivial⟩ (Cells.cons' ⟨rfl, trivial⟩ (Cells.nil)))) (C.D_done mixed rfl (by kernel_rfl) (C.F_val (C.F_val (C.F_new (fun B10 => C.F_val (C.F_val (C.F_val (C.F_val (C.F_new (fun B15 => C.F_dep rfl rfl (C.F_new (fun B5 => C.F_nil (R_stA Z_34 (Ht rfl) (Ht rfl) rfl (i := 4) rfl (Nat.le_of_ble_eq_true rfl) rfl rfl (R_nil (T_seq (ts (ro rfl (op_assign (Has.cN 0)) (R_nil (T_block ?_)))))))))))))))))))
 refine T_loop (fun (i : Nat) => i ≤ Q.length) (fun (i : Nat) => Q.length - i) (fun (i : Nat) => [(1, IntsT Q), (2, PtrB B2 0), (4, PtrB B4 0), (5, PtrB B5 0), (6, NT .i64 i)]) (fun (i : Nat) => [box B2 34 [QsT z, QM s], box B4 34 [Is (.slice none 0 0), Is (.slice none 0 0)], rowO 81 5 (.slice (some ⟨B10, 0, none⟩) Q.length Q.length) (mixT (fun i => QT (gv z (qat Q i))) ZQ Q.length i), matP exactH B15 31 81 5 (FRow QT (mixT (fun i => tab Q.length fun j => gm s (qat Q i) (qat Q j)) (tab Q.length fun _ => Qi.zero) Q.length i)), box B5 34 [Is (.slice (some ⟨B10, 0, none⟩) Q.length Q.length), Is (.slice (some ⟨B15, 0, none⟩) Q.length Q.length)]]) 0 (Nat.zero_le _)
  (Sub.cons rfl (Sub.cons rfl (Sub.cons rfl (Sub.cons rfl (Sub.cons rfl Sub.nil))))) (HSub.cons (box_of rfl) (HSub.cons (box_of rfl) (HSub.cons (rowO_of (by rw [← mix_zero]; exact rep_tab _ _)) (HSub.cons (matO_of (by rw [zeroM, mix_zero])) (HSub.cons (box_of rfl) HSub.nil))))) (fun i hi => ?_)
 refine T_seq (ts (rm rfl (rm rfl (ro rfl (op_len U_91 (Ht rfl) len_map) (ro rfl (op_lssN (Ht rfl) (Ht rfl)) (R_nil (T_cond (Ht rfl) (fun hd => ?_) (fun hd => ?_))))))))
 ·have hin : i < Q.length := by simp only [decide_eq_true_eq] at hd; omega
  have hki := qat_lt hQ hin
  have hsr := hs.row hki
  refine T_focusE 3 (i) rfl (frow_mix hin) (fun v0 hv0 => (T_skip (T_seq (T_block (T_seq (C.D_start (m := 11) (dp 5 rfl (op_fldB fa_34_0 (Ht rfl) rfl) (dq 23 0 rfl (op_ldBp A_31 Z_31 (Ht rfl) (i := 4) rfl rfl) (dp 6 rfl (op_move (Ht rfl)) (dp 2 rfl (op_fldB fa_34_0 (Ht rfl) rfl) (dq 26 3 rfl (op_ldB A_31 Z_31 (Ht rfl) (i := 0) rfl rfl) (dp 1 rfl (op_move (Ht rfl)) (dp 6 rfl (op_move (Ht rfl)) (dqq 28 5 29 6 rfl (op_idx U_91 Z_3 (Ht rfl) (Ht rfl) rfl (map_get (getD_some (d := 0) (by omega)))) (dq 30 7 rfl (op_ld A_3 Z_3 (Ht rfl)) ?_)))))))))))))))
  refine dqq 27 4 31 8 rfl (op_idx U_31 Z_81 (Ht rfl) (Ht rfl) rfl (map_get (getD_some (d := Qi.zero) (by omega)))) (dq 32 9 rfl (op_ld A_81 Z_81 (Ht rfl)) (C.D_done mixed rfl (by kernel_rfl) (C.F_val (C.F_val (C.F_val (C.F_val (C.F_val (C.F_val (C.F_val (C.F_val (C.F_val (C.F_val (C.F_val (C.F_nil (ro rfl (op_idxO U_31 Z_81 (Ht rfl) (Ht rfl) rfl (i := 2) rfl (by rw [mix_len]; omega) rfl) ?_)))))))))))))))
  refine R_stO Z_81 (Ht rfl) (Ht rfl) (El.ag rfl) (i := 2) rfl rfl (by rw [mix_len]; omega) rfl ?_
  refine R_nil (ts (ro rfl (op_assign (Has.cN 0)) (R_nil (T_block ?_))))
  refine T_loop (fun (j : Nat) => j ≤ Q.length) (fun (j : Nat) => Q.length - j) (fun (j : Nat) => [(1, IntsT Q), (2, PtrB B2 0), (4, PtrB B4 0), (5, PtrB B5 0), (6, NT .i64 i), (7, NT .i64 j)]) (fun (j : Nat) => [box B2 34 [QsT z, QM s], box B4 34 [Is (.slice none 0 0), Is (.slice none 0 0)], rowO 81 5 (.slice (some ⟨B10, 0, none⟩) Q.length Q.length) (mixT (fun i => QT (gv z (qat Q i))) ZQ Q.length (i + 1)), matQ exactH B15 31 81 5 (FRow QT (mixT (fun i => tab Q.length fun j => gm s (qat Q i) (qat Q j)) (tab Q.length fun _ => Qi.zero) Q.length i)) i v0, box B5 34 [Is (.slice (some ⟨B10, 0, none⟩) Q.length Q.length), Is (.slice (some ⟨B15, 0, none⟩) Q.length Q.length)], rowO 81 5 v0 ((mixT (fun j => gm s (qat Q i) (qat Q j)) Qi.zero Q.length j).map QT)]) 0 (Nat.zero_le _)
   (Sub.cons rfl (Sub.cons rfl (Sub.cons rfl (Sub.cons rfl (Sub.cons rfl (Sub.cons rfl Sub.nil)))))) (HSub.cons (box_of rfl) (HSub.cons (box_of rfl) (HSub.cons (rowO_of (mix_set (f := (fun i => QT (gv z (qat Q i)))))) (HSub.cons (fun _ _ _ h => h) (HSub.cons (box_of rfl) (HSub.cons (rowO_of (by rw [← mix_zero])) HSub.nil)))))) (fun j hj => ?_)
  refine T_seq (ts (rm rfl (rm rfl (ro rfl (op_len U_91 (Ht rfl) len_map) (ro rfl (op_lssN (Ht rfl) (Ht rfl)) (R_nil (T_cond (Ht rfl) (fun he => ?_) (fun he => ?_))))))))
  ·have hjn : j < Q.length := by simp only [decide_eq_true_eq] at he; omega
   have hkj := qat_lt hQ hjn
   have hrl := mix_len (fun j => gm s (qat Q i) (qat Q j)) Qi.zero Q.length j
   refine T_skip (T_seq (T_block (C.D_start (m := 20) (dp 5 rfl (op_fldB fa_34_1 (Ht rfl) rfl) (dq 41 0 rfl (op_ldB A_32 Z_32 (Ht rfl) (i := 4) rfl rfl) (dp 6 rfl (op_move (Ht rfl)) (dqq 42 1 43 2 rfl (op_idxB U_32 Z_31 (Ht rfl) (Ht rfl) rfl (by omega) (by rw [Nat.mul_one, Nat.zero_add])) ?_)))))))
   refine dq 44 3 rfl (op_ldH A_31 Z_31 (Ht rfl) (j := 3) rfl) (dp 7 rfl (op_move (Ht rfl)) (dp 2 rfl (op_fldB fa_34_1 (Ht rfl) rfl) (dq 47 6 rfl (op_ldB A_32 Z_32 (Ht rfl) (i := 0) rfl rfl) (dp 1 rfl (op_move (Ht rfl)) (dp 6 rfl (op_move (Ht rfl)) (dqq 49 8 50 9 rfl (op_idx U_91 Z_3 (Ht rfl) (Ht rfl) rfl (map_get (getD_some (d := 0) (by omega)))) (dq 51 10 rfl (op_ld A_3 Z_3 (Ht rfl)) (dqq 48 7 52 11 rfl (op_idx U_32 Z_31 (Ht rfl) (Ht rfl) rfl (map_get (getD_some (d := []) (show qat Q i < s.length by omega)))) ?_))))))))
   refine dq 53 12 rfl (op_ld A_31 Z_31 (Ht rfl)) (dp 1 rfl (op_move (Ht rfl)) (dp 7 rfl (op_move (Ht rfl)) (dqq 55 14 56 15 rfl (op_idx U_91 Z_3 (Ht rfl) (Ht rfl) rfl (map_get (getD_some (d := 0) (by omega)))) (dq 57 16 rfl (op_ld A_3 Z_3 (Ht rfl)) (dqq 54 13 58 17 rfl (op_idx U_31 Z_81 (Ht rfl) (Ht rfl) rfl (map_get (getD_some (d := Qi.zero) (show qat Q j < (s.getD (qat Q i) []).length by omega)))) (dq 59 18 rfl (op_ld A_81 Z_81 (Ht rfl)) (C.D_done mixed rfl (by kernel_rfl) (C.F_val (C.F_val (C.F_val (C.F_val (C.F_val (C.F_val (C.F_val (C.F_val (C.F_val (C.F_val (C.F_val (C.F_val (C.F_val (C.F_val (C.F_val (C.F_val (C.F_val (C.F_val (C.F_val (C.F_val (C.F_nil ?_))))))))))))))))))))))))))))
   refine ro rfl (op_idxO U_31 Z_81 (Ht rfl) (Ht rfl) rfl (i := 5) rfl (by rw [List.length_map, hrl]; exact hjn) rfl) ?_
   refine R_stO Z_81 (Ht rfl) (Ht rfl) (El.ag rfl) (i := 5) rfl rfl (by rw [List.length_map, hrl]; exact hjn) rfl ?_
   refine R_nil (T_blk (T_region (rm rfl (ro rfl (op_addN (Ht rfl) (Has.cN 1) (by show _ < 9223372036854775808; first | omega | (simp only [lim]; omega))) (ra rfl (R_nil (T_again (j + 1) hjn (by omega) (Sub.cons rfl (Sub.cons rfl (Sub.cons rfl (Sub.cons rfl (Sub.cons rfl (Sub.cons rfl Sub.nil)))))) (HSub.cons (box_of rfl) (HSub.cons (box_of rfl) (HSub.cons (fun _ _ _ h => h) (HSub.cons (fun _ _ _ h => h) (HSub.cons (box_of rfl) (HSub.cons (rowO_of (by rw [set_mapF]; exact congrArg _ (mix_set (f := (fun j => gm s (qat Q i) (qat Q j)))))) HSub.nil)))))))))))))
  ·have hjn : j = Q.length := by simp only [decide_eq_false_iff_not] at he; omega
   rw [hjn, mix_fin (fun j => gm s (qat Q i) (qat Q j))]
   refine T_exit rfl (T_blk (T_unfocus 3 5 rfl rfl (by decide) (by simp only [FRow, List.length_map, mix_len]; omega) ?_))
   refine T_region (rm rfl (ro rfl (op_addN (Ht rfl) (Has.cN 1) (by show _ < 9223372036854775808; first | omega | (simp only [lim]; omega))) (ra rfl (R_nil (T_keep [0, 1, 2, 3, 4] rfl (by decide) (T_again (i + 1) hin (by omega) (Sub.cons rfl (Sub.cons rfl (Sub.cons rfl (Sub.cons rfl (Sub.cons rfl Sub.nil))))) (HSub.cons (box_of rfl) (HSub.cons (box_of rfl) (HSub.cons (fun _ _ _ h => h) (HSub.cons (matO_of (by rw [set_FRow]; exact congrArg _ (mix_set (f := (fun i => tab Q.length fun j => gm s (qat Q i) (qat Q j)))))) (HSub.cons (box_of rfl) HSub.nil)))))))))))
 ·have hin : i = Q.length := by simp only [decide_eq_false_iff_not] at hd; omega
  rw [hin, mix_fin, mix_fin]
  refine T_exit rfl (T_seq (T_frzcell 4 2 0 rfl rfl rfl (by decide) (T_frzcellG 4 3 1 rfl rfl rfl (by decide) (frzM (q := exactH) (M := subM s Q) (tab_len _ _).symm) (T_region (ro rfl (op_ldBA A_34 Z_34 (Ht rfl) (i := 4) rfl rfl rfl) (R_stA Z_34 (Ht rfl) (Ht rfl) rfl (i := 1) rfl (Nat.le_of_ble_eq_true rfl) rfl rfl (R_nil (T_ret1 rfl (rv_to (rv_cell A_34 Z_34 rfl (i := 1) rfl rfl) ?_)))))))))
  exact (rn_of (by rw [subZ, tab_map]))
set_option maxHeartbeats 1000000 in
set_option maxRecDepth 20000 in
theorem c_rRenum {z : List Qi} {s : List (List Qi)} {l : List Int} (hs : Shp s z.length z.length) (hl : z.length ≤ 1000) (hll : l.length ≤ 1000) : Fun Tryz.prog 50 [RNetT z s, SlT 1 (l.map (IntT .i64))] (TupT [RNetT (rnmZ z l) (rnmS z s l), IntT .i64 (rnmE z.length l)]) := by
 refine Fun.intro Tryz.func50 rfl Tryz.ntmps50 rfl (fun cx => (ts (rn rfl (new_box (Ht rfl)) fun B2 => (rn rfl (new_alloc (Ts := [Is (.slice none 0 0), Is (.slice none 0 0)]) O_34 rfl (fun V => Cells.cons' ⟨rfl, trivial⟩ (Cells.cons' ⟨rfl, trivial⟩ (Cells.nil)))) fun B4 => (ro rfl (op_assign (Has.cN 0)) (R_nil (T_seq (ts (rm rfl (ro rfl (op_len U_91 (Ht rfl) len_map) (ro rfl (op_fldB fa_34_0 (Ht rfl) rfl) (ro rfl (op_ldB A_31 Z_31 (Ht rfl) (i := 0) rfl rfl) (ro rfl (op_len U_31 (Ht rfl) len_map) (ro rfl (op_neqN (Ht rfl) (Ht rfl)) ?_))))))))))))))
 refine R_nil (T_cond (Ht rfl) (fun hb1 => ?_) (fun hb1 => ?_))
 ·have h2 : l.length ≠ z.length := by simpa using hb1
  have he := rnm_size h2
  refine ts (ro rfl (OpTy.imp (bld_34_ ) rnet_nil) (R_stA Z_34 (Ht rfl) (Ht rfl) rfl (i := 1) rfl (Nat.le_of_ble_eq_true rfl) rfl rfl (ro rfl (op_assign (Has.cN 4)) (R_nil (T_ret2 rfl (rv_to (rv_cell A_34 Z_34 rfl (i := 1) rfl rfl) ?_) (rv_to (rv_tmp rfl) ?_))))))
  ·exact (fun v V h => by rw [rnmZ, rnmS, okL, okL, he]; exact h)
  ·exact (int_of he.symm)
 ·have h2 : l.length = z.length := by simpa using hb1
  have hok := rnm_ok h2
  refine T_skip (T_seq (ts (ro rfl (op_fldB fa_34_0 (Ht rfl) rfl) (ro rfl (op_ldB A_31 Z_31 (Ht rfl) (i := 0) rfl rfl) (ro rfl (op_len U_31 (Ht rfl) len_map) (rm rfl (ro rfl (op_call Tryz.call148 (c_rPorts (n := z.length) hll) ⟨(Ht rfl), (Ht rfl), trivial⟩) (ra rfl (R_nil (ts (rm rfl (ro rfl (op_neq (Ht rfl) Has.c) (R_nil (T_cond (Ht rfl) (fun he => ?_) (fun he => ?_)))))))))))))))
  ·have h3 : prtE z.length l ≠ 0 := by simpa using he
   refine ts (ro rfl (OpTy.imp (bld_34_ ) rnet_nil) (rm rfl (R_stA Z_34 (Ht rfl) (Ht rfl) rfl (i := 1) rfl (Nat.le_of_ble_eq_true rfl) rfl rfl (ra rfl (R_nil (T_ret2 rfl (rv_to (rv_cell A_34 Z_34 rfl (i := 1) rfl rfl) ?_) (rv_to (rv_tmp rfl) ?_)))))))
   ·exact (fun v V h => by rw [rnmZ, rnmS, okL, okL, hok, if_neg h3, if_neg h3]; exact h)
   ·exact (int_of hok.symm)
  ·have h3 : prtE z.length l = 0 := by simpa using he
   have he2 : rnmE z.length l = 0 := hok.trans h3
   refine T_skip (ts (rm rfl (ro rfl (op_len U_91 (Ht rfl) len_map) (rn rfl (new_makeO (T := NT .i64 0) (i := Tryz.t3) und_91 info_3 rfl rfl (Ht rfl) rfl (fun V => rfl) El.one (by show 8 * _ ≤ _; omega) (by omega)) fun B27 => (ra rfl (R_nil (T_seq (ts (ro rfl (op_assign (Has.cN 0)) (R_nil (T_block ?_)))))))))))
   refine T_loop (fun (i : Nat) => i ≤ l.length) (fun (i : Nat) => l.length - i) (fun (i : Nat) => [(1, SlT 1 (l.map (IntT .i64))), (2, PtrB B2 0), (4, PtrB B4 0), (7, Is B27), (8, NT .i64 i)]) (fun (i : Nat) => [box B2 34 [QsT z, QM s], box B4 34 [Is (.slice none 0 0), Is (.slice none 0 0)], rowO 3 1 B27 (mixT (fun i => NT .i64 (qat (posL l) i)) (NT .i64 0) l.length i)]) 0 (Nat.zero_le _)
    (Sub.cons rfl (Sub.cons rfl (Sub.cons rfl (Sub.cons rfl (Sub.cons rfl Sub.nil))))) (HSub.cons (box_of rfl) (HSub.cons (box_of rfl) (HSub.cons (rowO_of (by rw [← mix_zero]; exact rep_tab _ _)) HSub.nil))) (fun i hi => ?_)
   refine T_seq (ts (rm rfl (rm rfl (ro rfl (op_lenO U_91 (Ht rfl) (i := 2) rfl (by rw [mix_len])) ?_))))
   refine ro rfl (op_lssN (Ht rfl) (Ht rfl)) (R_nil (T_cond (Ht rfl) (fun hd => ?_) (fun hd => ?_)))
   ·have hin : i < l.length := by simp only [decide_eq_true_eq] at hd; omega
    obtain ⟨hq1, hq2⟩ := pos_get h3 hin
    have hq3 := prt_in h3 (l.getD i 0) (by rw [show l.getD i 0 = l[i] by simp [List.getD, hin]]; exact List.getElem_mem hin)
    refine T_skip (T_seq (T_block (T_region (rm rfl (rm rfl (rm rfl (rm rfl (ro rfl (op_idx U_91 Z_3 (Ht rfl) (Ht rfl) rfl (map_get (getD_some (d := 0) (by omega)))) (ro rfl (op_ld A_3 Z_3 (Ht rfl)) (ro rfl (op_sub (Ht rfl) Has.c (r := ((qat (posL l) i : Nat) : Int)) ((w64 (z := l.getD i 0 - 1) (by omega)).trans (by omega))) ?_))))))))))
    refine ro rfl (op_idxO U_91 Z_3 (Ht rfl) (Ht rfl) rfl (i := 2) rfl (by rw [mix_len]; omega) rfl) ?_
    refine R_stO Z_3 (Ht rfl) (Ht rfl) El.one (i := 2) rfl rfl (by rw [mix_len]; omega) rfl ?_
    refine R_nil (T_blk (T_region (rm rfl (ro rfl (op_addN (Ht rfl) (Has.cN 1) (by show _ < 9223372036854775808; first | omega | (simp only [lim]; omega))) (ra rfl (R_nil (T_again (i + 1) hin (by omega) (Sub.cons rfl (Sub.cons rfl (Sub.cons rfl (Sub.cons rfl (Sub.cons rfl Sub.nil))))) (HSub.cons (box_of rfl) (HSub.cons (box_of rfl) (HSub.cons (rowO_of (mix_set (f := (fun i => NT .i64 (qat (posL l) i))))) HSub.nil))))))))))
   ·have hin : i = l.length := by simp only [decide_eq_false_iff_not] at hd; omega
    rw [hin, mix_fin, show (tab l.length fun i => NT .i64 (qat (posL l) i)) = (posL l).map (NT .i64) from by rw [← posL_len]; exact tab_list (posL l) (NT .i64)]
    refine T_exit rfl (T_freeze (i := 2) (tt := 7) rfl rfl frz_row (ts (ro rfl (op_ldBA A_34 Z_34 (Ht rfl) (i := 0) rfl rfl rfl) (rm rfl (ro rfl (op_call Tryz.call149 (c_rPick (Q := posL l) hs (pos_lt h3) (by rw [posL_len]; omega)) ⟨(Ht rfl), (Ht rfl), trivial⟩) ?_)))))
    refine R_stA Z_34 (Ht rfl) (Ht rfl) rfl (i := 1) rfl (Nat.le_of_ble_eq_true rfl) rfl rfl (ro rfl (op_assign (Has.cN 0)) (R_nil (T_ret2 rfl (rv_to (rv_cell A_34 Z_34 rfl (i := 1) rfl rfl) ?_) (rv_to (rv_tmp rfl) ?_))))
    ·exact (fun v V h => by rw [rnmZ, rnmS, okL, okL, he2]; exact h)
    ·exact (int_of he2.symm)
set_option maxHeartbeats 4000000 in
set_option maxRecDepth 20000 in
theorem c_NetworkPorts {a b : Nat} {zl sl zm sm : List Rt} {l : List Int} (ha : a < 256) (hb : b < 256) : Fun Tryz.prog 7 [PartT a zl sl, PartT b zm sm, SlT 1 (l.map (IntT .i64))] (BoolT true) := by
 refine Fun.intro Tryz.func7 rfl Tryz.ntmps7 rfl (fun cx => (ts (rn rfl (new_box (Ht rfl)) fun B3 => (rn rfl (new_box (Ht rfl)) fun B4 => (ro rfl (op_assign Has.c) (R_nil (T_seq (ts (rm rfl (ro rfl (op_len U_91 (Ht rfl) len_map) (ro rfl (op_gtrN (Ht rfl) (Has.cN 9)) (R_nil (T_cond (Ht rfl) (fun hb0 => ?_) (fun hb0 => ?_))))))))))))))
 ·refine ts (ro rfl (op_call Tryz.call27 c_awake4 trivial) (ra rfl (R_nil ?_)))
  exact T_ret1 rfl (rv_tmp rfl)
 ·have hw : l.length ≤ 9 := by simp only [decide_eq_false_iff_not] at hb0; omega
  obtain ⟨h1, h8, hsh, hp⟩ := netErr_ok (pl_err a zl sl)
  obtain ⟨h1b, h8b, hshb, hpb⟩ := netErr_ok (pl_err b zm sm)
  have hn : plN a ≤ 4 := by unfold plN; omega
  have hn2 : plN b ≤ 4 := by unfold plN; omega
  have hzl : ((plZ a zl).map Rt.q).length ≤ 4 := by rw [List.length_map, plZ, tab_len]; exact hn
  have hzl2 : ((plZ b zm).map Rt.q).length ≤ 4 := by rw [List.length_map, plZ, tab_len]; exact hn2
  obtain ⟨z1, hz1⟩ : ∃ z1, z1 = ((plZ a zl).map Rt.q) := ⟨_, rfl⟩
  obtain ⟨z2, hz2⟩ : ∃ z2, z2 = ((plZ b zm).map Rt.q) := ⟨_, rfl⟩
  obtain ⟨s1, hs1⟩ : ∃ s1, s1 = (rq (plS a sl)) := ⟨_, rfl⟩
  obtain ⟨s2, hs2⟩ : ∃ s2, s2 = (rq (plS b sm)) := ⟨_, rfl⟩
  have f1 : FitL z1 2 := by rw [hz1]; exact FitL.rt
  have f2 : FitL z2 2 := by rw [hz2]; exact FitL.rt
  have f3 : FitM s1 2 := by rw [hs1]; exact FitM.rt
  have f4 : FitM s2 2 := by rw [hs2]; exact FitM.rt
  have hB1 := c_Build (a := a) (zl := zl) (sl := sl) ha
  have hB2 := c_Build (a := b) (zl := zm) (sl := sm) hb
  rw [← hz1] at h1 h8 hsh hzl
  rw [← hs1] at hsh
  rw [← hz2] at h1b h8b hshb hzl2
  rw [← hs2] at hshb
  rw [← hz1, ← hs1] at hB1
  rw [← hz2, ← hs2] at hB2
  have hk := stk_ok (x := z1.length) (y := z2.length) (by omega)
  obtain ⟨hS, hSl⟩ := stk_shp z1 z2 s1 s2
  have hZ : stkZ z1 z2 = z1 ++ z2 := by rw [stkZ, hk]; rfl
  have hZl : (stkZ z1 z2).length = z1.length + z2.length := by rw [hZ, List.length_append]
  have g1 := stk_fitZ f1 f2
  have g2 := stk_fitS (z := z1) (zb := z2) f3 f4 (by decide)
  obtain ⟨z3, hz3⟩ : ∃ z3, z3 = stkZ z1 z2 := ⟨_, rfl⟩
  obtain ⟨s3, hs3⟩ : ∃ s3, s3 = stkS z1 z2 s1 s2 := ⟨_, rfl⟩
  rw [← hz3] at hS hZl g1
  rw [← hs3] at hS g2
  obtain ⟨hT, hTl⟩ := stk_shp z3 z1 s3 s1
  have g3 := stk_fitZ g1 f1
  have g4 := stk_fitS (z := z3) (zb := z1) g2 f3 (by decide)
  obtain ⟨hU, hUl⟩ := rnm_shp z3 s3 l
  obtain ⟨hV, hVl⟩ := rnm_shp z1 s1 l
  have g5 : FitL (rnmZ z3 l) 2 := okL_fit (subZ_fit g1 (by decide))
  have g6 : FitM (rnmS z3 s3 l) 2 := okL_fitM (subM_fit g2 (by decide))
  have g7 : FitL (rnmZ z1 l) 2 := okL_fit (subZ_fit f1 (by decide))
  have g8 : FitM (rnmS z1 s1 l) 2 := okL_fitM (subM_fit f3 (by decide))
  have hcs : Fun Tryz.prog 47 [NetT z1 s1, NetT z2 s2] (TupT [NetT z3 s3, IntT .i64 0]) := by
   have h := c_Stack (z := z1) (zb := z2) hsh hshb (by omega) (by omega)
   rw [← hz3, ← hs3, hk] at h; exact h
  have hcr : Fun Tryz.prog 48 [RNetT z1 s1, RNetT z2 s2] (TupT [RNetT z3 s3, IntT .i64 0]) := by
   have h := c_rStack (z := z1) (zb := z2) hsh hshb h1 h1b (by omega) (by omega)
   rw [← hz3, ← hs3, hk] at h; exact h
  refine T_skip (ts (ro rfl (op_ldBA Tryz.isAgg24 Tryz.sizeOf24 (Ht rfl) (i := 0) rfl rfl rfl) (ro rfl (op_call Tryz.call15 hB1 ⟨(Ht rfl), trivial⟩) (rm rfl (ro rfl (op_extract (Ht rfl) rfl) (ro rfl (op_extract (Ht rfl) rfl) (ro rfl (op_extract (Ht rfl) rfl) (rn rfl (new_alloc (Ts := [Is (.slice none 0 0), Is (.slice none 0 0)]) O_30 rfl (fun V => Cells.cons' ⟨rfl, trivial⟩ (Cells.cons' ⟨rfl, trivial⟩ (Cells.nil)))) fun B7 => (rn rfl (new_alloc (Ts := [Is (.slice none 0 0), Is (.slice none 0 0)]) O_34 rfl (fun V => Cells.cons' ⟨rfl, trivial⟩ (Cells.cons' ⟨rfl, trivial⟩ (Cells.nil)))) fun B8 => ?_)))))))))
  refine R_stA Z_30 (Ht rfl) (Ht rfl) rfl (i := 2) rfl (Nat.le_of_ble_eq_true rfl) rfl rfl (R_stA Z_34 (Ht rfl) (Ht rfl) rfl (i := 3) rfl (Nat.le_of_ble_eq_true rfl) rfl rfl (ra rfl (R_nil (ts (ro rfl (op_ldBA Tryz.isAgg24 Tryz.sizeOf24 (Ht rfl) (i := 1) rfl rfl rfl) (ro rfl (op_call Tryz.call15 hB2 ⟨(Ht rfl), trivial⟩) (rm rfl (ro rfl (op_extract (Ht rfl) rfl) (ro rfl (op_extract (Ht rfl) rfl) (ro rfl (op_extract (Ht rfl) rfl) (rn rfl (new_alloc (Ts := [Is (.slice none 0 0), Is (.slice none 0 0)]) O_30 rfl (fun V => Cells.cons' ⟨rfl, trivial⟩ (Cells.cons' ⟨rfl, trivial⟩ (Cells.nil)))) fun B10 => ?_)))))))))))
  refine rn rfl (new_alloc (Ts := [Is (.slice none 0 0), Is (.slice none 0 0)]) O_34 rfl (fun V => Cells.cons' ⟨rfl, trivial⟩ (Cells.cons' ⟨rfl, trivial⟩ (Cells.nil)))) fun B11 => R_stA Z_30 (Ht rfl) (Ht rfl) rfl (i := 4) rfl (Nat.le_of_ble_eq_true rfl) rfl rfl (R_stA Z_34 (Ht rfl) (Ht rfl) rfl (i := 5) rfl (Nat.le_of_ble_eq_true rfl) rfl rfl (ra rfl (R_nil (T_seq (ts (rm rfl (ro rfl (op_not (Ht rfl)) (rm rfl (R_step rfl rfl (S_when rfl rfl (Ht rfl) (fun h => op_move (Ht rfl))) (R_step rfl rfl (S_when rfl rfl (Ht rfl) (fun h => op_not (Has.w rfl h))) (ro rfl (op_or (Ht rfl) (fun h => (Has.w rfl h))) ?_)))))))))))
  refine R_nil (T_condF (Ht rfl) (by rfl) ?_)
  refine T_skip (ts (ro rfl (op_ldBA A_30 Z_30 (Ht rfl) (i := 2) rfl rfl rfl) (ro rfl (op_ldBA A_30 Z_30 (Ht rfl) (i := 4) rfl rfl rfl) (ro rfl (op_call Tryz.call47 hcs ⟨(Ht rfl), (Ht rfl), trivial⟩) (rm rfl (ro rfl (op_extract (Ht rfl) rfl) (ro rfl (op_extract (Ht rfl) rfl) (rn rfl (new_alloc (Ts := [Is (.slice none 0 0), Is (.slice none 0 0)]) O_30 rfl (fun V => Cells.cons' ⟨rfl, trivial⟩ (Cells.cons' ⟨rfl, trivial⟩ (Cells.nil)))) fun B13 => (R_stA Z_30 (Ht rfl) (Ht rfl) rfl (i := 6) rfl (Nat.le_of_ble_eq_true rfl) rfl rfl (ra rfl ?_))))))))))
  refine R_nil (ts (ro rfl (op_ldBA A_34 Z_34 (Ht rfl) (i := 3) rfl rfl rfl) (ro rfl (op_ldBA A_34 Z_34 (Ht rfl) (i := 5) rfl rfl rfl) (ro rfl (op_call Tryz.call48 hcr ⟨(Ht rfl), (Ht rfl), trivial⟩) (rm rfl (ro rfl (op_extract (Ht rfl) rfl) (ro rfl (op_extract (Ht rfl) rfl) (rn rfl (new_alloc (Ts := [Is (.slice none 0 0), Is (.slice none 0 0)]) O_34 rfl (fun V => Cells.cons' ⟨rfl, trivial⟩ (Cells.cons' ⟨rfl, trivial⟩ (Cells.nil)))) fun B15 => (R_stA Z_34 (Ht rfl) (Ht rfl) rfl (i := 7) rfl (Nat.le_of_ble_eq_true rfl) rfl rfl (ra rfl ?_))))))))))
  refine R_nil (T_seq (ts (ro rfl (op_ldBA A_30 Z_30 (Ht rfl) (i := 6) rfl rfl rfl) (rm rfl (ro rfl (op_ldBA A_34 Z_34 (Ht rfl) (i := 7) rfl rfl rfl) (rm rfl (ro rfl (op_call Tryz.call24 (c_ans4 g1 g2 (by decide) (by decide) hS (by omega)) ⟨(Ht rfl), (Ht rfl), (Ht rfl), (Ht rfl), trivial⟩) (ro rfl (op_not (Ht rfl)) (R_nil (T_condF (Ht rfl) (by rfl) ?_))))))))))
  refine T_skip (T_seq (T_keep [0, 1, 2, 3, 4, 5, 6, 7] rfl (by decide) (T_region (ro rfl (op_ldBA A_30 Z_30 (Ht rfl) (i := 6) rfl rfl rfl) (ro rfl (op_ldBA A_30 Z_30 (Ht rfl) (i := 2) rfl rfl rfl) (ro rfl (op_call Tryz.call47 (c_Stack (z := z3) (zb := z1) hS hsh (by omega) (by omega)) ⟨(Ht rfl), (Ht rfl), trivial⟩) (rm rfl (ro rfl (op_extract (Ht rfl) rfl) (ro rfl (op_extract (Ht rfl) rfl) (rn rfl (new_alloc (Ts := [Is (.slice none 0 0), Is (.slice none 0 0)]) O_30 rfl (fun V => Cells.cons' ⟨rfl, trivial⟩ (Cells.cons' ⟨rfl, trivial⟩ (Cells.nil)))) fun B17 => ?_))))))))))
  refine R_stA Z_30 (Ht rfl) (Ht rfl) rfl (i := 8) rfl (Nat.le_of_ble_eq_true rfl) rfl rfl (ra rfl (R_nil (ts (ro rfl (op_ldBA A_34 Z_34 (Ht rfl) (i := 7) rfl rfl rfl) (ro rfl (op_ldBA A_34 Z_34 (Ht rfl) (i := 3) rfl rfl rfl) (ro rfl (op_call Tryz.call48 (c_rStack (z := z3) (zb := z1) hS hsh (by omega) h1 (by omega) (by omega)) ⟨(Ht rfl), (Ht rfl), trivial⟩) (rm rfl (ro rfl (op_extract (Ht rfl) rfl) (ro rfl (op_extract (Ht rfl) rfl) (rn rfl (new_alloc (Ts := [Is (.slice none 0 0), Is (.slice none 0 0)]) O_34 rfl (fun V => Cells.cons' ⟨rfl, trivial⟩ (Cells.cons' ⟨rfl, trivial⟩ (Cells.nil)))) fun B19 => ?_))))))))))
  refine R_stA Z_34 (Ht rfl) (Ht rfl) rfl (i := 9) rfl (Nat.le_of_ble_eq_true rfl) rfl rfl (ra rfl (R_nil (T_seq (ts (ro rfl (op_ldBA A_30 Z_30 (Ht rfl) (i := 8) rfl rfl rfl) (rm rfl (ro rfl (op_ldBA A_34 Z_34 (Ht rfl) (i := 9) rfl rfl rfl) (rm rfl (ro rfl (op_call Tryz.call24 (c_ans4 g3 g4 (by decide) (by decide) hT (by omega)) ⟨(Ht rfl), (Ht rfl), (Ht rfl), (Ht rfl), trivial⟩) (ro rfl (op_not (Ht rfl)) (R_nil (T_condF (Ht rfl) (by rfl) ?_))))))))))))
  refine T_skip (T_seq (T_keep [0, 1, 2, 3, 4, 5, 6, 7, 8, 9] rfl (by decide) (T_region (ro rfl (op_ldBA A_30 Z_30 (Ht rfl) (i := 6) rfl rfl rfl) (rm rfl (ro rfl (op_call Tryz.call49 (c_Renum (z := z3) (l := l) hS (by omega) (by omega)) ⟨(Ht rfl), (Ht rfl), trivial⟩) (rm rfl (ro rfl (op_extract (Ht rfl) rfl) (ro rfl (op_extract (Ht rfl) rfl) (rn rfl (new_alloc (Ts := [Is (.slice none 0 0), Is (.slice none 0 0)]) O_30 rfl (fun V => Cells.cons' ⟨rfl, trivial⟩ (Cells.cons' ⟨rfl, trivial⟩ (Cells.nil)))) fun B21 => (R_stA Z_30 (Ht rfl) (Ht rfl) rfl (i := 10) rfl (Nat.le_of_ble_eq_true rfl) rfl rfl ?_)))))))))))
  refine ra rfl (R_nil (ts (ro rfl (op_ldBA A_34 Z_34 (Ht rfl) (i := 7) rfl rfl rfl) (rm rfl (ro rfl (op_call Tryz.call50 (c_rRenum (z := z3) (l := l) hS (by omega) (by omega)) ⟨(Ht rfl), (Ht rfl), trivial⟩) (rm rfl (ro rfl (op_extract (Ht rfl) rfl) (ro rfl (op_extract (Ht rfl) rfl) (rn rfl (new_alloc (Ts := [Is (.slice none 0 0), Is (.slice none 0 0)]) O_34 rfl (fun V => Cells.cons' ⟨rfl, trivial⟩ (Cells.cons' ⟨rfl, trivial⟩ (Cells.nil)))) fun B23 => (R_stA Z_34 (Ht rfl) (Ht rfl) rfl (i := 11) rfl (Nat.le_of_ble_eq_true rfl) rfl rfl (ra rfl (R_nil ?_))))))))))))
  refine ts (ro rfl (op_ldBA A_30 Z_30 (Ht rfl) (i := 2) rfl rfl rfl) (rm rfl (ro rfl (op_call Tryz.call49 (c_Renum (z := z1) (l := l) hsh (by omega) (by omega)) ⟨(Ht rfl), (Ht rfl), trivial⟩) (rm rfl (ro rfl (op_extract (Ht rfl) rfl) (ro rfl (op_extract (Ht rfl) rfl) (rn rfl (new_alloc (Ts := [Is (.slice none 0 0), Is (.slice none 0 0)]) O_30 rfl (fun V => Cells.cons' ⟨rfl, trivial⟩ (Cells.cons' ⟨rfl, trivial⟩ (Cells.nil)))) fun B25 => (R_stA Z_30 (Ht rfl) (Ht rfl) rfl (i := 12) rfl (Nat.le_of_ble_eq_true rfl) rfl rfl (ra rfl (R_nil (ts (ro rfl (op_ldBA A_34 Z_34 (Ht rfl) (i := 3) rfl rfl rfl) ?_))))))))))))
  refine rm rfl (ro rfl (op_call Tryz.call50 (c_rRenum (z := z1) (l := l) hsh (by omega) (by omega)) ⟨(Ht rfl), (Ht rfl), trivial⟩) (rm rfl (ro rfl (op_extract (Ht rfl) rfl) (ro rfl (op_extract (Ht rfl) rfl) (rn rfl (new_alloc (Ts := [Is (.slice none 0 0), Is (.slice none 0 0)]) O_34 rfl (fun V => Cells.cons' ⟨rfl, trivial⟩ (Cells.cons' ⟨rfl, trivial⟩ (Cells.nil)))) fun B27 => (R_stA Z_34 (Ht rfl) (Ht rfl) rfl (i := 13) rfl (Nat.le_of_ble_eq_true rfl) rfl rfl (ra rfl (R_nil (T_seq (T_keep [0, 1, 2, 3, 4, 5, 6, 7, 8, 9, 10, 11, 12, 13] rfl (by decide) (T_region (ro rfl (op_ldBA A_30 Z_30 (Ht rfl) (i := 10) rfl rfl rfl) ?_))))))))))))
  refine rm rfl (ro rfl (op_ldBA A_34 Z_34 (Ht rfl) (i := 11) rfl rfl rfl) (rm rfl (ro rfl (op_call Tryz.call24 (c_ans4 g5 g6 (by decide) (by decide) hU (by omega)) ⟨(Ht rfl), (Ht rfl), (Ht rfl), (Ht rfl), trivial⟩) (rm rfl (R_step rfl rfl (S_when rfl rfl (Ht rfl) (fun h => op_ldBA A_30 Z_30 (Ht rfl) (i := 12) rfl rfl rfl)) (R_step rfl rfl (S_when rfl rfl (Ht rfl) (fun h => op_move (Ht rfl))) (R_step rfl rfl (S_when rfl rfl (Ht rfl) (fun h => op_ldBA A_34 Z_34 (Ht rfl) (i := 13) rfl rfl rfl)) (R_step rfl rfl (S_when rfl rfl (Ht rfl) (fun h => op_move (Ht rfl))) ?_))))))))
  refine R_step rfl rfl (S_when rfl rfl (Ht rfl) (fun h => op_call Tryz.call24 (c_ans4 g7 g8 (by decide) (by decide) hV (by omega)) ⟨(Has.w rfl h), (Has.w rfl h), (Has.w rfl h), (Has.w rfl h), trivial⟩)) (ro rfl (op_and (Ht rfl) (fun h => (Has.w rfl h))) (rm rfl (R_step rfl rfl (S_when rfl rfl (Ht rfl) (fun h => op_call Tryz.call27 c_awake4 trivial)) (ro rfl (op_and (Ht rfl) (fun h => (Has.w rfl h))) (ra rfl (R_nil (T_ret1 rfl (rv_to (rv_tmp rfl) ?_))))))))
  exact (bool_of (by simp))
end Go.Proofs.YtbnpmobaglfcbaaGreat
namespace Go.Proofs.YtbnpmobaglfcbaaGreat
open Go Go.ChangeShapes Go.WideShapes Go.ChangeAt Go.RowKit Go.Deep
section
variable {H : Type} {enc : TypeId × Value → H} {W : World} {base : Nat} {sp : Nat → Bool} {held : Bool}
set_option maxRecDepth 100000 in
theorem s125 : S3 Tryz.prog 24 5 22 22 := ⟨⟨_, _, _, Tryz.underlying24, rfl, rfl, rfl, rfl, rfl, rfl⟩, by kernel_rfl, by kernel_rfl, by kernel_rfl, by kernel_rfl⟩
set_option maxRecDepth 100000 in
theorem trod_partT {b0 : Nat} {v : Value} {d : DataW H} {p : List MemPlace} (ho : Value.okWide Tryz.prog W .any b0 24 v) (h : DataW.Trod enc Tryz.prog W base sp held 24 v d p) : ∃ (a : Nat) (zl sl : List Rt), (AggT [NT .u8 a, RatsT zl, RatsT sl]).p v (hv W) ∧ a < 256 := by
  obtain ⟨cs, rfl, _⟩ := okWide_struct Tryz.underlying24 ho
  obtain ⟨n, hn⟩ := h
  obtain ⟨x0, x1, x2, m, y0, y1, y2, hcs, h0, h1, h2⟩ := s125.open hn
  obtain ⟨i, e0, _, w⟩ := DataW.trod_int Tryz.underlying5 h0
  obtain ⟨v1, z, e1, k1⟩ := open_rats h1
  obtain ⟨v2, s, e2, k2⟩ := open_rats h2
  simp only [List.cons.injEq, and_true] at e0 e1 e2
  subst e0 e1 e2
  have hw := wf_u8 w
  have e : ((i.toNat : Nat) : Int) = i := by omega
  have hi : ∀ V, (NT .u8 i.toNat).p (.int .u8 i) V := fun V => by rw [show NT .u8 i.toNat = IntT .u8 i from congrArg (IntT .u8) e]; rfl
  have hcs2 : cs.toList = [.int .u8 i, x1, x2] := hcs
  exact ⟨i.toNat, z, s, ⟨cs.toList, rfl, by rw [hcs2]; exact Cells.cons' ⟨hi _, trivial⟩ (Cells.cons' ⟨k1, (sl_cells k1).2⟩ (Cells.cons' ⟨k2, (sl_cells k2).2⟩ Cells.nil))⟩, by omega⟩
end
end Go.Proofs.YtbnpmobaglfcbaaGreat
namespace Go.Proofs.YtbnpmobaglfcbaaGreat
open Go Go.ChangeShapes Go.WideShapes Go.ChangeAt Go.RowKit Go.Deep
section
variable {H : Type} {enc : TypeId × Value → H} {W : World} {base : Nat} {sp : Nat → Bool} {held : Bool}
set_option maxRecDepth 100000 in
theorem open_ints {n : Nat} {cs : List Value} {y : DataW H × List MemPlace} (h : DataW.trod enc Tryz.prog W base sp held n 91 cs = some y) : ∃ (v : Value) (l : List Int), cs = [v] ∧ (SlT 1 (l.map (IntT .i64))).p v (hv W) :=
  open_sl (F := IntT .i64) Tryz.underlying91 (by kernel_rfl) (by decide) (fun n cs y h => by obtain ⟨i, e, _, _⟩ := DataW.trod_int Tryz.underlying3 h; exact ⟨i, .int .i64 i, by rw [e]; rfl, rfl⟩) h
set_option maxRecDepth 100000 in
theorem trod_intsT {b0 : Nat} {v : Value} {d : DataW H} {p : List MemPlace} (ho : Value.okWide Tryz.prog W .any b0 91 v) (h : DataW.Trod enc Tryz.prog W base sp held 91 v d p) : ∃ l : List Int, (SlT 1 (l.map (IntT .i64))).p v (hv W) := by
  obtain ⟨a, n, k, rfl⟩ := okWide_slice Tryz.underlying91 ho
  obtain ⟨m, hm⟩ := h
  obtain ⟨v, l, e, hl⟩ := open_ints hm
  have : [Value.slice a n k] = [v] := e
  simp only [List.cons.injEq, and_true] at this
  subst this
  exact ⟨l, hl⟩
end
end Go.Proofs.YtbnpmobaglfcbaaGreat
