/- What functions of the program compute, proved by walks over their code, and the plain mathematics of it; a part of the proof in the last text. -/
import Derived.Test.YtppibhcfaahgpaaGreatP04
set_option linter.unusedVariables false
set_option linter.unusedSimpArgs false
namespace Go.Proofs.YtppibhcfaahgpaaGreat
open Go Go.RowKit
set_option maxRecDepth 20000 in
theorem c_ProdO {a b : List (List Qi)} {n k m L M : Nat} (ha : Shp a n k) (hb : Shp b k m) (hfa : FitM a L) (hfb : FitM b M) (hL1 : 1 ≤ L) (hM1 : 1 ≤ M) (hL : L ≤ 100000000) (hM : M ≤ 100000000) (hn1 : 1 ≤ n) (hk1 : 1 ≤ k) (hn : n ≤ 8) (hk : k ≤ 8) (hm : m ≤ 8) : FunO Tryz.prog 153 [NumM a, NumM b] [] (Nat) (fun B => TupT [Is (.slice (some ⟨B, 0, none⟩) n n), IntT .i64 0]) (fun B => [matO B 30 49 5 (FRow NumT (mulM a b n k m))]) (fun _ => True) := by
  have hal := ha.1
  have hbl := hb.1
  refine FunO.intro Tryz.func153 rfl Tryz.ntmps153 rfl (fun cx Z => ?_)
  refine T_seq ?_
  refine T_region ?_
  refine R_op rfl rfl rfl (op_assign Has.c) ?_
  refine R_op rfl rfl rfl (op_assign (Has.cN 0)) ?_
  refine R_nil ?_
  refine T_seq ?_
  refine T_region ?_
  refine R_op rfl rfl rfl (op_move (Has.t rfl)) ?_
  refine R_op rfl rfl rfl (op_call Tryz.call200 (c_columns ha hn1 (by omega) (by omega)) ⟨(Has.t rfl), trivial⟩) ?_
  refine R_op rfl rfl rfl (op_move (Has.t rfl)) ?_
  refine R_op rfl rfl rfl (op_extract (Has.t rfl) rfl) ?_
  refine R_op rfl rfl rfl (op_extract (Has.t rfl) rfl) ?_
  refine R_op rfl rfl rfl (op_assign (Has.t rfl)) ?_
  refine R_op rfl rfl rfl (op_assign (Has.t rfl)) ?_
  refine R_nil ?_
  refine T_seq ?_
  refine T_region ?_
  refine R_op rfl rfl rfl (op_move (Has.t rfl)) ?_
  refine R_op rfl rfl rfl (op_call Tryz.call200 (c_columns hb hk1 (by omega) (by omega)) ⟨(Has.t rfl), trivial⟩) ?_
  refine R_op rfl rfl rfl (op_move (Has.t rfl)) ?_
  refine R_op rfl rfl rfl (op_extract (Has.t rfl) rfl) ?_
  refine R_op rfl rfl rfl (op_extract (Has.t rfl) rfl) ?_
  refine R_op rfl rfl rfl (op_assign (Has.t rfl)) ?_
  refine R_op rfl rfl rfl (op_assign (Has.t rfl)) ?_
  refine R_nil ?_
  refine T_seq ?_
  refine T_seq ?_
  refine T_region ?_
  refine R_op rfl rfl rfl (op_move (Has.t rfl)) ?_
  refine R_op rfl rfl rfl (op_not (Has.t rfl)) ?_
  refine R_op rfl rfl rfl (op_move (Has.t rfl)) ?_
  refine R_step rfl rfl (S_when rfl rfl (Has.t rfl) (fun h => op_move (Has.t rfl))) ?_
  refine R_step rfl rfl (S_when rfl rfl (Has.t rfl) (fun h => op_not (Has.w rfl h))) ?_
  refine R_op rfl rfl rfl (op_or (Has.t rfl) (fun h => (Has.w rfl h))) ?_
  refine R_op rfl rfl rfl (op_move (Has.t rfl)) ?_
  refine R_step rfl rfl (S_when rfl rfl (Has.t rfl) (fun h => op_move (Has.t rfl))) ?_
  refine R_step rfl rfl (S_when rfl rfl (Has.t rfl) (fun h => op_move (Has.t rfl))) ?_
  refine R_step rfl rfl (S_when rfl rfl (Has.t rfl) (fun h => op_len Tryz.runUnderlying31 (Has.w rfl h) len_map)) ?_
  refine R_step rfl rfl (S_when rfl rfl (Has.t rfl) (fun h => op_neqN (Has.w rfl h) (Has.w rfl h))) ?_
  refine R_op rfl rfl rfl (op_or (Has.t rfl) (fun h => (Has.w rfl h))) ?_
  refine R_nil ?_
  refine T_cond (Has.t rfl) (fun h0 => ?_) (fun h0 => ?_)
  · exact absurd h0 (by simp [hbl])
  · refine T_skip ?_
    refine T_seq ?_
    refine T_region ?_
    refine R_op rfl rfl rfl (op_move (Has.t rfl)) ?_
    refine R_op rfl rfl rfl (op_len Tryz.runUnderlying31 (Has.t rfl) len_map) ?_
    refine R_new rfl rfl rfl (new_make (T := Is (.slice none 0 0)) (i := Tryz.t30) Tryz.underlying31 info_30 rfl rfl (Has.t rfl) rfl (fun _ => rfl) trivial (by show 24 * _ ≤ _; omega) (by omega)) (fun B39 => ?_)
    refine R_op rfl rfl rfl (op_assign (Has.t rfl)) ?_
    refine R_nil ?_
    refine T_seq ?_
    refine T_seq ?_
    refine T_region ?_
    refine R_op rfl rfl rfl (op_move (Has.t rfl)) ?_
    refine R_op rfl rfl rfl (op_lenI Tryz.runUnderlying31 (Has.t rfl)) ?_
    refine R_op rfl rfl rfl (op_move (Has.cN 0)) ?_
    refine R_nil ?_
    refine T_block ?_
    refine T_conv 1 rfl (mat_nil (e := 49) (s := 5)) ?_
    refine T_loop (fun (i : Nat) => i ≤ n) (fun (i : Nat) => n - i) (fun (i : Nat) => [(0, NumM a), (1, NumM b), (6, NT .i64 k), (8, NT .i64 m), (10, Is (.slice (some ⟨B39, 0, none⟩) n n)), (41, NT .i64 n), (42, NT .i64 i)]) (fun (i : Nat) => [Z, matO B39 30 49 5 (FRow NumT (mixT (fun i => tab m fun c => dotN a b k i c) [] n i))]) 0 (Nat.zero_le _)
      (Sub.cons rfl (Sub.cons rfl (Sub.cons rfl (Sub.cons rfl (Sub.to rfl (fun v V h => by rw [← hal]; exact h) (Sub.to rfl (nt_of hal) (Sub.cons rfl Sub.nil))))))) (HSub.cons (fun _ _ _ h => h) (HSub.cons (matO_of (by rw [← mix_zero, tab_const, hal]; exact rep_FRow NumT n)) HSub.nil)) (fun i hi => ?_)
    refine T_seq ?_
    refine T_region ?_
    refine R_op rfl rfl rfl (op_lssN (Has.t rfl) (Has.t rfl)) ?_
    refine R_nil ?_
    refine T_seq ?_
    refine T_cond (Has.t rfl) (fun hd => ?_) (fun hd => ?_)
    · simp only [decide_eq_true_eq] at hd
      have har := ha.row hd
      have hb0 := hb.row (i := 0) (by omega)
      refine T_focus 1 (i) rfl (frow_mix hd) (fun v => ?_)
      refine T_skip ?_
      refine T_seq ?_
      refine T_block ?_
      refine T_seq ?_
      refine T_region ?_
      refine R_op rfl rfl rfl (op_move (Has.t rfl)) ?_
      refine R_op rfl rfl rfl (op_assign (Has.t rfl)) ?_
      refine R_nil ?_
      refine T_seq ?_
      refine T_region ?_
      refine R_op rfl rfl rfl (op_move (Has.t rfl)) ?_
      refine R_op rfl rfl rfl (op_move (Has.cN 0)) ?_
      refine R_nil ?_
      refine T_block ?_
      refine T_loop2 (fun (c : Nat) (v : Value) => c ≤ m) (fun (c : Nat) (v : Value) => m - c) (fun (c : Nat) (v : Value) => [(0, NumM a), (1, NumM b), (6, NT .i64 k), (8, NT .i64 m), (10, Is (.slice (some ⟨B39, 0, none⟩) n n)), (11, NT .i64 i), (41, NT .i64 n), (42, NT .i64 i), (45, NT .i64 m), (46, NT .i64 c)]) (fun (c : Nat) (v : Value) => [Z, matH B39 30 49 5 (FRow NumT (mixT (fun i => tab m fun c => dotN a b k i c) [] n i)) i v, rowO 49 5 v ((tab c fun c => dotN a b k i c).map NumT)]) 0 v (Nat.zero_le _)
        (Sub.cons rfl (Sub.cons rfl (Sub.cons rfl (Sub.cons rfl (Sub.cons rfl (Sub.cons rfl (Sub.cons rfl (Sub.cons rfl (Sub.cons rfl (Sub.cons rfl Sub.nil)))))))))) (HSub.refl _) (fun c v hc => ?_)
      refine T_seq ?_
      refine T_region ?_
      refine R_op rfl rfl rfl (op_lssN (Has.t rfl) (Has.t rfl)) ?_
      refine R_nil ?_
      refine T_seq ?_
      refine T_cond (Has.t rfl) (fun he => ?_) (fun he => ?_)
      · simp only [decide_eq_true_eq] at he
        haveI f1 : FitC (gm a i 0) L := hfa.get hL1 i 0
        haveI f2 : FitC (gm b 0 c) M := hfb.get hM1 0 c
        refine T_skip ?_
        refine T_seq ?_
        refine T_block ?_
        refine T_seq ?_
        refine T_region ?_
        refine R_op rfl rfl rfl (op_move (Has.t rfl)) ?_
        refine R_op rfl rfl rfl (op_assign (Has.t rfl)) ?_
        refine R_nil ?_
        refine T_seq ?_
        refine D_start (m := 15) ?_
        refine D_step (Ei := [(0, _)]) rfl rfl (Srcs.cons (Src.pre rfl rfl) Srcs.nil) (S_plain rfl (op_move (Has.t rfl))) ?_
        refine D_step (Ei := [(11, _)]) rfl rfl (Srcs.cons (Src.pre rfl rfl) Srcs.nil) (S_plain rfl (op_move (Has.t rfl))) ?_
        refine D_step (Ei := [(49, _), (50, _)]) rfl rfl (Srcs.cons (Src.op 0 rfl rfl) (Srcs.cons (Src.op 1 rfl rfl) Srcs.nil)) (S_plain rfl (op_idx Tryz.runUnderlying31 Tryz.sizeOf30 (Has.t rfl) (Has.t rfl) rfl (map_get (getD_some (d := []) (by omega))))) ?_
        refine D_step (Ei := [(51, _)]) rfl rfl (Srcs.cons (Src.op 2 rfl rfl) Srcs.nil) (S_plain rfl (op_ld Tryz.isAgg30 Tryz.sizeOf30 (Has.t rfl))) ?_
        refine D_step (Ei := [(52, _)]) rfl rfl (Srcs.cons (Src.op 3 rfl rfl) Srcs.nil) (S_plain rfl (op_idx Tryz.runUnderlying30 Tryz.sizeOf49 (Has.t rfl) (Has.cN 0) rfl (map_get (getD_some (d := Qi.zero) (by rw [har]; omega))))) ?_
        refine D_step (Ei := [(53, _)]) rfl rfl (Srcs.cons (Src.op 4 rfl rfl) Srcs.nil) (S_plain rfl (op_ld Tryz.isAgg49 Tryz.sizeOf49 (Has.t rfl))) ?_
        refine D_step (Ei := [(54, _)]) rfl rfl (Srcs.cons (Src.op 5 rfl rfl) Srcs.nil) (S_plain rfl (op_iface mkif_49 (Has.t rfl))) ?_
        refine D_step (Ei := [(1, _)]) rfl rfl (Srcs.cons (Src.pre rfl rfl) Srcs.nil) (S_plain rfl (op_move (Has.t rfl))) ?_
        refine D_step (Ei := [(56, _)]) rfl rfl (Srcs.cons (Src.op 7 rfl rfl) Srcs.nil) (S_plain rfl (op_idx Tryz.runUnderlying31 Tryz.sizeOf30 (Has.t rfl) (Has.cN 0) rfl (map_get (getD_some (d := []) (by omega))))) ?_
        refine D_step (Ei := [(57, _)]) rfl rfl (Srcs.cons (Src.op 8 rfl rfl) Srcs.nil) (S_plain rfl (op_ld Tryz.isAgg30 Tryz.sizeOf30 (Has.t rfl))) ?_
        refine D_step (Ei := [(12, _)]) rfl rfl (Srcs.cons (Src.pre rfl rfl) Srcs.nil) (S_plain rfl (op_move (Has.t rfl))) ?_
        refine D_step (Ei := [(58, _), (59, _)]) rfl rfl (Srcs.cons (Src.op 9 rfl rfl) (Srcs.cons (Src.op 10 rfl rfl) Srcs.nil)) (S_plain rfl (op_idx Tryz.runUnderlying30 Tryz.sizeOf49 (Has.t rfl) (Has.t rfl) rfl (map_get (getD_some (d := Qi.zero) (by rw [hb0]; omega))))) ?_
        refine D_step (Ei := [(60, _)]) rfl rfl (Srcs.cons (Src.op 11 rfl rfl) Srcs.nil) (S_plain rfl (op_ld Tryz.isAgg49 Tryz.sizeOf49 (Has.t rfl))) ?_
        refine D_step (Ei := [(55, _), (61, _)]) rfl rfl (Srcs.cons (Src.op 6 rfl rfl) (Srcs.cons (Src.op 12 rfl rfl) Srcs.nil)) (S_plain rfl (op_invoke meth_49_Mul Tryz.call56 (c_Mul (by omega)) (Has.t rfl) ⟨(Has.t rfl), trivial⟩)) ?_
        refine D_new (Ei := []) rfl rfl rfl Srcs.nil (new_alloc (Ts := [Is (.bool false), Is (.slice none 0 0), Is (.bool false), Is (.slice none 0 0), Is (.slice none 0 0)]) Tryz.zeroValue49 rfl (fun V => Cells.cons' ⟨rfl, trivial⟩ (Cells.cons' ⟨rfl, trivial⟩ (Cells.cons' ⟨rfl, trivial⟩ (Cells.cons' ⟨rfl, trivial⟩ (Cells.cons' ⟨rfl, trivial⟩ (Cells.nil))))))) ?_
        refine D_done mixed rfl (by kernel_rfl) (F_val (F_val (F_val (F_val (F_val (F_val (F_val (F_val (F_val (F_val (F_val (F_val (F_val (F_val (F_new (fun B13 => F_nil ?_))))))))))))))))
        refine R_stA Tryz.sizeOf49 (Has.t rfl) (Has.t rfl) rfl (i := 3) rfl (Nat.le_of_ble_eq_true rfl) rfl rfl ?_
        refine R_nil ?_
        refine T_seq ?_
        refine T_seq ?_
        refine T_region ?_
        refine R_op rfl rfl rfl (op_assign (Has.cN 1)) ?_
        refine R_nil ?_
        refine T_block ?_
        refine T_loop (fun (j : Nat) => 1 ≤ j ∧ j ≤ k) (fun (j : Nat) => k - j) (fun (j : Nat) => [(0, NumM a), (1, NumM b), (6, NT .i64 k), (8, NT .i64 m), (10, Is (.slice (some ⟨B39, 0, none⟩) n n)), (11, NT .i64 i), (12, NT .i64 c), (13, PtrB B13 0), (14, NT .i64 j), (41, NT .i64 n), (42, NT .i64 i), (45, NT .i64 m), (46, NT .i64 c)]) (fun (j : Nat) => [Z, matH B39 30 49 5 (FRow NumT (mixT (fun i => tab m fun c => dotN a b k i c) [] n i)) i v, rowO 49 5 v ((tab c fun c => dotN a b k i c).map NumT), box B13 49 [BoolT (decide ((sumN j fun j => gm a i j * gm b j c).a < 0)), NatT (sumN j fun j => gm a i j * gm b j c).a.natAbs, BoolT (decide ((sumN j fun j => gm a i j * gm b j c).b < 0)), NatT (sumN j fun j => gm a i j * gm b j c).b.natAbs, NatT (du (sumN j fun j => gm a i j * gm b j c))]]) 1 ⟨Nat.le_refl _, hk1⟩
          (Sub.cons rfl (Sub.cons rfl (Sub.cons rfl (Sub.cons rfl (Sub.cons rfl (Sub.cons rfl (Sub.cons rfl (Sub.cons rfl (Sub.cons rfl (Sub.cons rfl (Sub.cons rfl (Sub.cons rfl (Sub.cons rfl Sub.nil))))))))))))) (HSub.cons (fun _ _ _ h => h) (HSub.cons (fun _ _ _ h => h) (HSub.cons (fun _ _ _ h => h) (HSub.cons (box_of (by rw [sumN_one]; rfl)) HSub.nil)))) (fun j ⟨hj1, hj⟩ => ?_)
        refine T_seq ?_
        refine T_seq ?_
        refine T_region ?_
        refine R_op rfl rfl rfl (op_move (Has.t rfl)) ?_
        refine R_op rfl rfl rfl (op_move (Has.t rfl)) ?_
        refine R_op rfl rfl rfl (op_lssN (Has.t rfl) (Has.t rfl)) ?_
        refine R_nil ?_
        refine T_cond (Has.t rfl) (fun hf => ?_) (fun hf => ?_)
        · simp only [decide_eq_true_eq] at hf
          haveI f3 : FitC (gm a i j) L := hfa.get hL1 i j
          haveI f4 : FitC (gm b j c) M := hfb.get hM1 j c
          haveI f5 : FitC (sumN j fun j => gm a i j * gm b j c) (8 * (L + M) + 17) := dot_fit hfa hfb hL1 hM1 (by omega) i c
          have hbj := hb.row (i := j) (by omega)
          refine T_skip ?_
          refine T_seq ?_
          refine T_block ?_
          refine D_start (m := 18) ?_
          refine D_step (Ei := [(13, _)]) rfl rfl (Srcs.cons (Src.pre rfl rfl) Srcs.nil) (S_plain rfl (op_ldBA Tryz.isAgg49 Tryz.sizeOf49 (Has.t rfl) (i := 3) rfl rfl rfl)) ?_
          refine D_step (Ei := [(68, _)]) rfl rfl (Srcs.cons (Src.op 0 rfl rfl) Srcs.nil) (S_plain rfl (op_iface mkif_49 (Has.t rfl))) ?_
          refine D_step (Ei := [(0, _)]) rfl rfl (Srcs.cons (Src.pre rfl rfl) Srcs.nil) (S_plain rfl (op_move (Has.t rfl))) ?_
          refine D_step (Ei := [(11, _)]) rfl rfl (Srcs.cons (Src.pre rfl rfl) Srcs.nil) (S_plain rfl (op_move (Has.t rfl))) ?_
          refine D_step (Ei := [(70, _), (71, _)]) rfl rfl (Srcs.cons (Src.op 2 rfl rfl) (Srcs.cons (Src.op 3 rfl rfl) Srcs.nil)) (S_plain rfl (op_idx Tryz.runUnderlying31 Tryz.sizeOf30 (Has.t rfl) (Has.t rfl) rfl (map_get (getD_some (d := []) (by omega))))) ?_
          refine D_step (Ei := [(72, _)]) rfl rfl (Srcs.cons (Src.op 4 rfl rfl) Srcs.nil) (S_plain rfl (op_ld Tryz.isAgg30 Tryz.sizeOf30 (Has.t rfl))) ?_
          refine D_step (Ei := [(14, _)]) rfl rfl (Srcs.cons (Src.pre rfl rfl) Srcs.nil) (S_plain rfl (op_move (Has.t rfl))) ?_
          refine D_step (Ei := [(73, _), (74, _)]) rfl rfl (Srcs.cons (Src.op 5 rfl rfl) (Srcs.cons (Src.op 6 rfl rfl) Srcs.nil)) (S_plain rfl (op_idx Tryz.runUnderlying30 Tryz.sizeOf49 (Has.t rfl) (Has.t rfl) rfl (map_get (getD_some (d := Qi.zero) (by rw [har]; omega))))) ?_
          refine D_step (Ei := [(75, _)]) rfl rfl (Srcs.cons (Src.op 7 rfl rfl) Srcs.nil) (S_plain rfl (op_ld Tryz.isAgg49 Tryz.sizeOf49 (Has.t rfl))) ?_
          refine D_step (Ei := [(76, _)]) rfl rfl (Srcs.cons (Src.op 8 rfl rfl) Srcs.nil) (S_plain rfl (op_iface mkif_49 (Has.t rfl))) ?_
          refine D_step (Ei := [(1, _)]) rfl rfl (Srcs.cons (Src.pre rfl rfl) Srcs.nil) (S_plain rfl (op_move (Has.t rfl))) ?_
          refine D_step (Ei := [(14, _)]) rfl rfl (Srcs.cons (Src.pre rfl rfl) Srcs.nil) (S_plain rfl (op_move (Has.t rfl))) ?_
          refine D_step (Ei := [(78, _), (79, _)]) rfl rfl (Srcs.cons (Src.op 10 rfl rfl) (Srcs.cons (Src.op 11 rfl rfl) Srcs.nil)) (S_plain rfl (op_idx Tryz.runUnderlying31 Tryz.sizeOf30 (Has.t rfl) (Has.t rfl) rfl (map_get (getD_some (d := []) (by omega))))) ?_
          refine D_step (Ei := [(80, _)]) rfl rfl (Srcs.cons (Src.op 12 rfl rfl) Srcs.nil) (S_plain rfl (op_ld Tryz.isAgg30 Tryz.sizeOf30 (Has.t rfl))) ?_
          refine D_step (Ei := [(12, _)]) rfl rfl (Srcs.cons (Src.pre rfl rfl) Srcs.nil) (S_plain rfl (op_move (Has.t rfl))) ?_
          refine D_step (Ei := [(81, _), (82, _)]) rfl rfl (Srcs.cons (Src.op 13 rfl rfl) (Srcs.cons (Src.op 14 rfl rfl) Srcs.nil)) (S_plain rfl (op_idx Tryz.runUnderlying30 Tryz.sizeOf49 (Has.t rfl) (Has.t rfl) rfl (map_get (getD_some (d := Qi.zero) (by rw [hbj]; omega))))) ?_
          refine D_step (Ei := [(83, _)]) rfl rfl (Srcs.cons (Src.op 15 rfl rfl) Srcs.nil) (S_plain rfl (op_ld Tryz.isAgg49 Tryz.sizeOf49 (Has.t rfl))) ?_
          refine D_step (Ei := [(77, _), (84, _)]) rfl rfl (Srcs.cons (Src.op 9 rfl rfl) (Srcs.cons (Src.op 16 rfl rfl) Srcs.nil)) (S_plain rfl (op_invoke meth_49_Mul Tryz.call56 (c_Mul (by omega)) (Has.t rfl) ⟨(Has.t rfl), trivial⟩)) ?_
          refine D_done mixed rfl (by kernel_rfl) (F_val (F_val (F_val (F_val (F_val (F_val (F_val (F_val (F_val (F_val (F_val (F_val (F_val (F_val (F_val (F_val (F_val (F_val (F_nil ?_)))))))))))))))))))
          refine R_op rfl rfl rfl (op_invoke meth_49_Add Tryz.call59 (c_Add (by omega)) (Has.t rfl) ⟨(Has.t rfl), trivial⟩) ?_
          refine R_stA Tryz.sizeOf49 (Has.t rfl) (Has.t rfl) rfl (i := 3) rfl (Nat.le_of_ble_eq_true rfl) rfl rfl ?_
          refine R_nil ?_
          refine T_blk ?_
          refine T_region ?_
          refine R_op rfl rfl rfl (op_move (Has.t rfl)) ?_
          refine R_op rfl rfl rfl (op_addN (Has.t rfl) (Has.cN 1) (by show _ < 9223372036854775808; first | omega | (simp only [lim]; omega))) ?_
          refine R_op rfl rfl rfl (op_assign (Has.t rfl)) ?_
          refine R_nil ?_
          refine T_again (j + 1) ⟨by omega, hf⟩ (by omega) (Sub.cons rfl (Sub.cons rfl (Sub.cons rfl (Sub.cons rfl (Sub.cons rfl (Sub.cons rfl (Sub.cons rfl (Sub.cons rfl (Sub.cons rfl (Sub.cons rfl (Sub.cons rfl (Sub.cons rfl (Sub.cons rfl Sub.nil))))))))))))) (HSub.cons (fun _ _ _ h => h) (HSub.cons (fun _ _ _ h => h) (HSub.cons (fun _ _ _ h => h) (HSub.cons (box_of rfl) HSub.nil))))
        · simp only [decide_eq_false_iff_not] at hf
          obtain rfl : k = j := Nat.le_antisymm (by omega) hj
          refine T_exit rfl ?_
          refine Y.D_startA (m := 9) [] 8 2 rfl rfl ?_
          refine Y.D_hide (Ei := [(10, _)]) rfl rfl (Y.Srcs.cons (Y.Src.pre rfl rfl) Y.Srcs.nil) rfl rfl (S_plain rfl (op_move (Has.t rfl))) ?_
          refine Y.D_hide (Ei := [(11, _)]) rfl rfl (Y.Srcs.cons (Y.Src.pre rfl rfl) Y.Srcs.nil) rfl rfl (S_plain rfl (op_move (Has.t rfl))) ?_
          refine Y.D_hide (Ei := [(10, _)]) rfl rfl (Y.Srcs.cons (Y.Src.pre rfl rfl) Y.Srcs.nil) rfl rfl (S_plain rfl (op_move (Has.t rfl))) ?_
          refine Y.D_hide (Ei := [(11, _)]) rfl rfl (Y.Srcs.cons (Y.Src.pre rfl rfl) Y.Srcs.nil) rfl rfl (S_plain rfl (op_move (Has.t rfl))) ?_
          refine Y.D_hide (Ei := [(89, _), (90, _)]) rfl rfl (Y.Srcs.cons (Y.Src.op 2 rfl rfl) (Y.Srcs.cons (Y.Src.op 3 rfl rfl) Y.Srcs.nil)) rfl rfl (S_plain rfl (op_idxB Tryz.runUnderlying31 Tryz.sizeOf30 (Has.t rfl) (Has.t rfl) rfl (by omega) (by rw [Nat.mul_one, Nat.zero_add]))) ?_
          refine Y.D_hide (Ei := [(91, _)]) rfl rfl (Y.Srcs.cons (Y.Src.op 4 rfl rfl) Y.Srcs.nil) rfl rfl (S_plain rfl (op_ldH Tryz.isAgg30 Tryz.sizeOf30 (Has.t rfl) (j := 1) rfl)) ?_
          refine Y.D_hide (Ei := [(13, _)]) rfl rfl (Y.Srcs.cons (Y.Src.pre rfl rfl) Y.Srcs.nil) rfl rfl (S_plain rfl (op_ldBA Tryz.isAgg49 Tryz.sizeOf49 (Has.t rfl) (i := 3) rfl rfl rfl)) ?_
          refine Y.D_hide (Ei := [(93, _)]) rfl rfl (Y.Srcs.cons (Y.Src.op 6 rfl rfl) Y.Srcs.nil) rfl rfl (S_plain rfl (op_bslice (xs := [.tmp 93]) Tryz.runUnderlying30 Tryz.sizeOf49 Tryz.zeroValue49 (Elems.cons (Has.t rfl) Elems.nil) rfl rfl rfl)) ?_
          refine Y.D_app (Ei := [(92, _), (94, _)]) rfl rfl rfl rfl (Y.Srcs.cons (Y.Src.op 5 rfl rfl) (Y.Srcs.cons (Y.Src.op 7 rfl rfl) Y.Srcs.nil)) rfl (A_append (inf := Tryz.t49) und_30 info_49 rfl rfl rfl (Has.t rfl) (Has.t rfl) (by simp) (fun T hT => by simp at hT; subst hT; exact El.ag rfl) (by show _ * 88 ≤ _; simp only [List.length_map, tab_len, List.length_cons, List.length_nil]; omega) (by simp only [List.length_map, tab_len, List.length_cons, List.length_nil]; omega)) ?_
          refine Y.D_done mixed rfl (by kernel_rfl) rfl (by simp [Y.okP]) rfl rfl (Y.F_val (Y.F_val (Y.F_val (Y.F_val (Y.F_val (Y.F_val (Y.F_val (Y.F_val (Y.F_app (fun v2 => Y.F_nil ?_))))))))))
          refine R_op rfl rfl rfl (op_idxB Tryz.runUnderlying31 Tryz.sizeOf30 (Has.t rfl) (Has.t rfl) rfl (by omega) (by rw [Nat.mul_one, Nat.zero_add])) ?_
          refine R_stH Tryz.sizeOf30 (Has.t rfl) (Has.t rfl) (by simp only [FRow, List.length_map, mix_len]; omega) (j := 1) (l := 4) rfl rfl rfl ?_
          refine R_nil ?_
          refine T_blk ?_
          refine T_region ?_
          refine R_op rfl rfl rfl (op_addN (Has.t rfl) (Has.cN 1) (by show _ < 9223372036854775808; first | omega | (simp only [lim]; omega))) ?_
          refine R_op rfl rfl rfl (op_move (Has.t rfl)) ?_
          refine R_nil ?_
          refine T_keep [0, 1, 4] rfl (by decide) ?_
          refine T_again (c + 1, v2) he (by dsimp only; omega) (Sub.cons rfl (Sub.cons rfl (Sub.cons rfl (Sub.cons rfl (Sub.cons rfl (Sub.cons rfl (Sub.cons rfl (Sub.cons rfl (Sub.cons rfl (Sub.cons rfl Sub.nil)))))))))) (HSub.cons (fun _ _ _ h => h) (HSub.cons (fun _ _ _ h => h) (HSub.cons (rowO_of ((app_mapF NumT _ (dotN a b k i c)).trans (congrArg _ (tab_succ c (fun c => dotN a b k i c)).symm))) HSub.nil)))
      · simp only [decide_eq_false_iff_not] at he
        obtain rfl : m = c := Nat.le_antisymm (by omega) hc
        refine T_exit rfl ?_
        refine T_blk ?_
        refine T_unfocus 1 2 rfl rfl (by decide) (by simp only [FRow, List.length_map, mix_len]; omega) ?_
        refine T_region ?_
        refine R_op rfl rfl rfl (op_addN (Has.t rfl) (Has.cN 1) (by show _ < 9223372036854775808; first | omega | (simp only [lim]; omega))) ?_
        refine R_op rfl rfl rfl (op_move (Has.t rfl)) ?_
        refine R_nil ?_
        refine T_keep [0, 1] rfl (by decide) ?_
        refine T_again (i + 1) hd (by omega) (Sub.cons rfl (Sub.cons rfl (Sub.cons rfl (Sub.cons rfl (Sub.cons rfl (Sub.cons rfl (Sub.cons rfl Sub.nil))))))) (HSub.cons (fun _ _ _ h => h) (HSub.cons (matO_of (by rw [set_FRow, ← mix_set (f := (fun i => tab m fun c => dotN a b k i c))])) HSub.nil))
    · simp only [decide_eq_false_iff_not] at hd
      obtain rfl : n = i := Nat.le_antisymm (by omega) hi
      refine T_exit rfl ?_
      refine T_seq ?_
      refine T_region ?_
      refine R_op rfl rfl rfl (op_move (Has.t rfl)) ?_
      refine R_op rfl rfl rfl (op_assign (Has.t rfl)) ?_
      refine R_op rfl rfl rfl (op_assign (Has.cN 0)) ?_
      refine R_nil ?_
      exact T_retO B39 trivial [0, 1] ⟨⟨_, rfl, fun _ _ _ h => h⟩, ⟨_, rfl, (matO_of (by rw [mix_fin]; rfl))⟩, trivial⟩ (by decide) (rvs2 rfl (rv_tmp rfl) (rv_tmp rfl))
theorem c_Prod {a b : List (List Qi)} {n k m L M : Nat} (ha : Shp a n k) (hb : Shp b k m) (hfa : FitM a L) (hfb : FitM b M) (hL1 : 1 ≤ L) (hM1 : 1 ≤ M) (hL : L ≤ 100000000) (hM : M ≤ 100000000) (hn1 : 1 ≤ n) (hk1 : 1 ≤ k) (hn : n ≤ 8) (hk : k ≤ 8) (hm : m ≤ 8) : Fun Tryz.prog 153 [NumM a, NumM b] (TupT [NumM (mulM a b n k m), IntT .i64 0]) := (c_ProdO ha hb hfa hfb hL1 hM1 hL hM hn1 hk1 hn hk hm).fun fun B _ v S V h1 h2 => tup1 h1 fun u hu => frz_matF (s := 5) (M := mulM a b n k m) (tab_len _ _).symm u S V hu h2
set_option maxRecDepth 20000 in
theorem c_AdjO {a : List (List Qi)} {n m : Nat} (ha : Shp a n m) (hn1 : 1 ≤ n) (hn : n ≤ 8) (hm : m ≤ 8) : FunO Tryz.prog 154 [NumM a] [] (Nat) (fun B => TupT [Is (.slice (some ⟨B, 0, none⟩) m m), IntT .i64 0]) (fun B => [matO B 30 49 5 (FRow NumT (adjM a n m))]) (fun _ => True) := by
  have hal := ha.1
  refine FunO.intro Tryz.func154 rfl Tryz.ntmps154 rfl (fun cx Z => ?_)
  refine T_seq ?_
  refine T_region ?_
  refine R_op rfl rfl rfl (op_assign Has.c) ?_
  refine R_op rfl rfl rfl (op_assign (Has.cN 0)) ?_
  refine R_nil ?_
  refine T_seq ?_
  refine T_region ?_
  refine R_op rfl rfl rfl (op_move (Has.t rfl)) ?_
  refine R_op rfl rfl rfl (op_call Tryz.call200 (c_columns ha hn1 (by omega) (by omega)) ⟨(Has.t rfl), trivial⟩) ?_
  refine R_op rfl rfl rfl (op_move (Has.t rfl)) ?_
  refine R_op rfl rfl rfl (op_extract (Has.t rfl) rfl) ?_
  refine R_op rfl rfl rfl (op_extract (Has.t rfl) rfl) ?_
  refine R_op rfl rfl rfl (op_assign (Has.t rfl)) ?_
  refine R_op rfl rfl rfl (op_assign (Has.t rfl)) ?_
  refine R_nil ?_
  refine T_seq ?_
  refine T_seq ?_
  refine T_region ?_
  refine R_op rfl rfl rfl (op_move (Has.t rfl)) ?_
  refine R_op rfl rfl rfl (op_not (Has.t rfl)) ?_
  refine R_nil ?_
  refine T_cond (Has.t rfl) (fun h0 => ?_) (fun h0 => ?_)
  · exact absurd h0 (by simp)
  · refine T_skip ?_
    refine T_seq ?_
    refine T_region ?_
    refine R_op rfl rfl rfl (op_move (Has.t rfl)) ?_
    refine R_new rfl rfl rfl (new_make (T := Is (.slice none 0 0)) (i := Tryz.t30) Tryz.underlying31 info_30 rfl rfl (Has.t rfl) rfl (fun _ => rfl) trivial (by show 24 * _ ≤ _; omega) (by omega)) (fun B17 => ?_)
    refine R_op rfl rfl rfl (op_assign (Has.t rfl)) ?_
    refine R_nil ?_
    refine T_seq ?_
    refine T_seq ?_
    refine T_region ?_
    refine R_op rfl rfl rfl (op_move (Has.t rfl)) ?_
    refine R_op rfl rfl rfl (op_lenI Tryz.runUnderlying31 (Has.t rfl)) ?_
    refine R_op rfl rfl rfl (op_move (Has.cN 0)) ?_
    refine R_nil ?_
    refine T_block ?_
    refine T_conv 1 rfl (mat_nil (e := 49) (s := 5)) ?_
    refine T_loop (fun (k : Nat) => k ≤ m) (fun (k : Nat) => m - k) (fun (k : Nat) => [(0, NumM a), (6, Is (.slice (some ⟨B17, 0, none⟩) m m)), (19, NT .i64 m), (20, NT .i64 k)]) (fun (k : Nat) => [Z, matO B17 30 49 5 (FRow NumT (mixT (fun k => tab n fun i => (gm a i k).conj) [] m k))]) 0 (Nat.zero_le _)
      (Sub.cons rfl (Sub.cons rfl (Sub.cons rfl (Sub.cons rfl Sub.nil)))) (HSub.cons (fun _ _ _ h => h) (HSub.cons (matO_of (by rw [← mix_zero, tab_const]; exact rep_FRow NumT m)) HSub.nil)) (fun k hk => ?_)
    refine T_seq ?_
    refine T_region ?_
    refine R_op rfl rfl rfl (op_lssN (Has.t rfl) (Has.t rfl)) ?_
    refine R_nil ?_
    refine T_seq ?_
    refine T_cond (Has.t rfl) (fun hd => ?_) (fun hd => ?_)
    · simp only [decide_eq_true_eq] at hd
      refine T_focus 1 (k) rfl (frow_mix hd) (fun v => ?_)
      refine T_skip ?_
      refine T_seq ?_
      refine T_block ?_
      refine T_seq ?_
      refine T_region ?_
      refine R_op rfl rfl rfl (op_move (Has.t rfl)) ?_
      refine R_op rfl rfl rfl (op_assign (Has.t rfl)) ?_
      refine R_nil ?_
      refine T_seq ?_
      refine T_region ?_
      refine R_op rfl rfl rfl (op_move (Has.t rfl)) ?_
      refine R_op rfl rfl rfl (op_len Tryz.runUnderlying31 (Has.t rfl) len_map) ?_
      refine R_op rfl rfl rfl (op_move (Has.cN 0)) ?_
      refine R_nil ?_
      refine T_block ?_
      refine T_loop2 (fun (i : Nat) (v : Value) => i ≤ n) (fun (i : Nat) (v : Value) => n - i) (fun (i : Nat) (v : Value) => [(0, NumM a), (6, Is (.slice (some ⟨B17, 0, none⟩) m m)), (7, NT .i64 k), (19, NT .i64 m), (20, NT .i64 k), (24, NT .i64 n), (25, NT .i64 i)]) (fun (i : Nat) (v : Value) => [Z, matH B17 30 49 5 (FRow NumT (mixT (fun k => tab n fun i => (gm a i k).conj) [] m k)) k v, rowO 49 5 v ((tab i fun i => (gm a i k).conj).map NumT)]) 0 v (Nat.zero_le _)
        (Sub.cons rfl (Sub.cons rfl (Sub.cons rfl (Sub.cons rfl (Sub.cons rfl (Sub.to rfl (nt_of hal) (Sub.cons rfl Sub.nil))))))) (HSub.refl _) (fun i v hi => ?_)
      refine T_seq ?_
      refine T_region ?_
      refine R_op rfl rfl rfl (op_lssN (Has.t rfl) (Has.t rfl)) ?_
      refine R_nil ?_
      refine T_seq ?_
      refine T_cond (Has.t rfl) (fun he => ?_) (fun he => ?_)
      · simp only [decide_eq_true_eq] at he
        have har := ha.row he
        refine T_skip ?_
        refine T_seq ?_
        refine T_block ?_
        refine T_seq ?_
        refine T_region ?_
        refine R_op rfl rfl rfl (op_move (Has.t rfl)) ?_
        refine R_op rfl rfl rfl (op_assign (Has.t rfl)) ?_
        refine R_nil ?_
        refine Y.D_startA (m := 17) [] 16 2 rfl rfl ?_
        refine Y.D_hide (Ei := [(6, _)]) rfl rfl (Y.Srcs.cons (Y.Src.pre rfl rfl) Y.Srcs.nil) rfl rfl (S_plain rfl (op_move (Has.t rfl))) ?_
        refine Y.D_hide (Ei := [(7, _)]) rfl rfl (Y.Srcs.cons (Y.Src.pre rfl rfl) Y.Srcs.nil) rfl rfl (S_plain rfl (op_move (Has.t rfl))) ?_
        refine Y.D_hide (Ei := [(6, _)]) rfl rfl (Y.Srcs.cons (Y.Src.pre rfl rfl) Y.Srcs.nil) rfl rfl (S_plain rfl (op_move (Has.t rfl))) ?_
        refine Y.D_hide (Ei := [(7, _)]) rfl rfl (Y.Srcs.cons (Y.Src.pre rfl rfl) Y.Srcs.nil) rfl rfl (S_plain rfl (op_move (Has.t rfl))) ?_
        refine Y.D_hide (Ei := [(30, _), (31, _)]) rfl rfl (Y.Srcs.cons (Y.Src.op 2 rfl rfl) (Y.Srcs.cons (Y.Src.op 3 rfl rfl) Y.Srcs.nil)) rfl rfl (S_plain rfl (op_idxB Tryz.runUnderlying31 Tryz.sizeOf30 (Has.t rfl) (Has.t rfl) rfl (by omega) (by rw [Nat.mul_one, Nat.zero_add]))) ?_
        refine Y.D_hide (Ei := [(32, _)]) rfl rfl (Y.Srcs.cons (Y.Src.op 4 rfl rfl) Y.Srcs.nil) rfl rfl (S_plain rfl (op_ldH Tryz.isAgg30 Tryz.sizeOf30 (Has.t rfl) (j := 1) rfl)) ?_
        refine Y.D_hide (Ei := [(0, _)]) rfl rfl (Y.Srcs.cons (Y.Src.pre rfl rfl) Y.Srcs.nil) rfl rfl (S_plain rfl (op_move (Has.t rfl))) ?_
        refine Y.D_hide (Ei := [(8, _)]) rfl rfl (Y.Srcs.cons (Y.Src.pre rfl rfl) Y.Srcs.nil) rfl rfl (S_plain rfl (op_move (Has.t rfl))) ?_
        refine Y.D_hide (Ei := [(34, _), (35, _)]) rfl rfl (Y.Srcs.cons (Y.Src.op 6 rfl rfl) (Y.Srcs.cons (Y.Src.op 7 rfl rfl) Y.Srcs.nil)) rfl rfl (S_plain rfl (op_idx Tryz.runUnderlying31 Tryz.sizeOf30 (Has.t rfl) (Has.t rfl) rfl (map_get (getD_some (d := []) (by omega))))) ?_
        refine Y.D_hide (Ei := [(36, _)]) rfl rfl (Y.Srcs.cons (Y.Src.op 8 rfl rfl) Y.Srcs.nil) rfl rfl (S_plain rfl (op_ld Tryz.isAgg30 Tryz.sizeOf30 (Has.t rfl))) ?_
        refine Y.D_hide (Ei := [(7, _)]) rfl rfl (Y.Srcs.cons (Y.Src.pre rfl rfl) Y.Srcs.nil) rfl rfl (S_plain rfl (op_move (Has.t rfl))) ?_
        refine Y.D_hide (Ei := [(37, _), (38, _)]) rfl rfl (Y.Srcs.cons (Y.Src.op 9 rfl rfl) (Y.Srcs.cons (Y.Src.op 10 rfl rfl) Y.Srcs.nil)) rfl rfl (S_plain rfl (op_idx Tryz.runUnderlying30 Tryz.sizeOf49 (Has.t rfl) (Has.t rfl) rfl (map_get (getD_some (d := Qi.zero) (by rw [har]; omega))))) ?_
        refine Y.D_hide (Ei := [(39, _)]) rfl rfl (Y.Srcs.cons (Y.Src.op 11 rfl rfl) Y.Srcs.nil) rfl rfl (S_plain rfl (op_ld Tryz.isAgg49 Tryz.sizeOf49 (Has.t rfl))) ?_
        refine Y.D_hide (Ei := [(40, _)]) rfl rfl (Y.Srcs.cons (Y.Src.op 12 rfl rfl) Y.Srcs.nil) rfl rfl (S_plain rfl (op_iface mkif_49 (Has.t rfl))) ?_
        refine Y.D_hide (Ei := [(41, _)]) rfl rfl (Y.Srcs.cons (Y.Src.op 13 rfl rfl) Y.Srcs.nil) rfl rfl (S_plain rfl (op_invoke meth_49_Conj Tryz.call263 c_Conj (Has.t rfl) trivial)) ?_
        refine Y.D_hide (Ei := [(42, _)]) rfl rfl (Y.Srcs.cons (Y.Src.op 14 rfl rfl) Y.Srcs.nil) rfl rfl (S_plain rfl (op_bslice (xs := [.tmp 42]) Tryz.runUnderlying30 Tryz.sizeOf49 Tryz.zeroValue49 (Elems.cons (Has.t rfl) Elems.nil) rfl rfl rfl)) ?_
        refine Y.D_app (Ei := [(33, _), (43, _)]) rfl rfl rfl rfl (Y.Srcs.cons (Y.Src.op 5 rfl rfl) (Y.Srcs.cons (Y.Src.op 15 rfl rfl) Y.Srcs.nil)) rfl (A_append (inf := Tryz.t49) und_30 info_49 rfl rfl rfl (Has.t rfl) (Has.t rfl) (by simp) (fun T hT => by simp at hT; subst hT; exact El.ag rfl) (by show _ * 88 ≤ _; simp only [List.length_map, tab_len, List.length_cons, List.length_nil]; omega) (by simp only [List.length_map, tab_len, List.length_cons, List.length_nil]; omega)) ?_
        refine Y.D_done mixed rfl (by kernel_rfl) rfl (by simp [Y.okP]) rfl rfl (Y.F_val (Y.F_val (Y.F_val (Y.F_val (Y.F_val (Y.F_val (Y.F_val (Y.F_val (Y.F_val (Y.F_val (Y.F_val (Y.F_val (Y.F_val (Y.F_val (Y.F_val (Y.F_val (Y.F_app (fun v2 => Y.F_nil ?_))))))))))))))))))
        refine R_op rfl rfl rfl (op_idxB Tryz.runUnderlying31 Tryz.sizeOf30 (Has.t rfl) (Has.t rfl) rfl (by omega) (by rw [Nat.mul_one, Nat.zero_add])) ?_
        refine R_stH Tryz.sizeOf30 (Has.t rfl) (Has.t rfl) (by simp only [FRow, List.length_map, mix_len]; omega) (j := 1) (l := 3) rfl rfl rfl ?_
        refine R_nil ?_
        refine T_blk ?_
        refine T_region ?_
        refine R_op rfl rfl rfl (op_addN (Has.t rfl) (Has.cN 1) (by show _ < 9223372036854775808; first | omega | (simp only [lim]; omega))) ?_
        refine R_op rfl rfl rfl (op_move (Has.t rfl)) ?_
        refine R_nil ?_
        refine T_keep [0, 1, 3] rfl (by decide) ?_
        refine T_again (i + 1, v2) he (by dsimp only; omega) (Sub.cons rfl (Sub.cons rfl (Sub.cons rfl (Sub.cons rfl (Sub.cons rfl (Sub.cons rfl (Sub.cons rfl Sub.nil))))))) (HSub.cons (fun _ _ _ h => h) (HSub.cons (fun _ _ _ h => h) (HSub.cons (rowO_of ((app_mapF NumT _ (gm a i k).conj).trans (congrArg _ (tab_succ i (fun i => (gm a i k).conj)).symm))) HSub.nil)))
      · simp only [decide_eq_false_iff_not] at he
        obtain rfl : n = i := Nat.le_antisymm (by omega) hi
        refine T_exit rfl ?_
        refine T_blk ?_
        refine T_unfocus 1 2 rfl rfl (by decide) (by simp only [FRow, List.length_map, mix_len]; omega) ?_
        refine T_region ?_
        refine R_op rfl rfl rfl (op_addN (Has.t rfl) (Has.cN 1) (by show _ < 9223372036854775808; first | omega | (simp only [lim]; omega))) ?_
        refine R_op rfl rfl rfl (op_move (Has.t rfl)) ?_
        refine R_nil ?_
        refine T_keep [0, 1] rfl (by decide) ?_
        refine T_again (k + 1) hd (by omega) (Sub.cons rfl (Sub.cons rfl (Sub.cons rfl (Sub.cons rfl Sub.nil)))) (HSub.cons (fun _ _ _ h => h) (HSub.cons (matO_of (by rw [set_FRow, ← mix_set (f := (fun k => tab n fun i => (gm a i k).conj))])) HSub.nil))
    · simp only [decide_eq_false_iff_not] at hd
      obtain rfl : m = k := Nat.le_antisymm (by omega) hk
      refine T_exit rfl ?_
      refine T_seq ?_
      refine T_region ?_
      refine R_op rfl rfl rfl (op_move (Has.t rfl)) ?_
      refine R_op rfl rfl rfl (op_assign (Has.t rfl)) ?_
      refine R_op rfl rfl rfl (op_assign (Has.cN 0)) ?_
      refine R_nil ?_
      exact T_retO B17 trivial [0, 1] ⟨⟨_, rfl, fun _ _ _ h => h⟩, ⟨_, rfl, (matO_of (by rw [mix_fin]; rfl))⟩, trivial⟩ (by decide) (rvs2 rfl (rv_tmp rfl) (rv_tmp rfl))
theorem c_Adj {a : List (List Qi)} {n m : Nat} (ha : Shp a n m) (hn1 : 1 ≤ n) (hn : n ≤ 8) (hm : m ≤ 8) : Fun Tryz.prog 154 [NumM a] (TupT [NumM (adjM a n m), IntT .i64 0]) := (c_AdjO ha hn1 hn hm).fun fun B _ v S V h1 h2 => tup1 h1 fun u hu => frz_matF (s := 5) (M := adjM a n m) (tab_len _ _).symm u S V hu h2
set_option maxRecDepth 20000 in
theorem c_scatO {z : List Qi} {s : List (List Qi)} (hsh : Shp s z.length z.length) (hl : z.length ≤ 8) : FunO Tryz.prog 80 [NetT z s] [] (Nat) (fun B => Is (.slice (some ⟨B, 0, none⟩) z.length z.length)) (fun B => [matO B 30 49 5 (FRow NumT (tab z.length fun i => tab z.length fun k => gm s i k))]) (fun _ => True) := by
  refine FunO.intro Tryz.func80 rfl Tryz.ntmps80 rfl (fun cx Z => ?_)
  refine T_seq ?_
  refine T_region ?_
  refine R_new rfl rfl rfl (new_box (Has.t rfl)) (fun B1 => ?_)
  refine R_op rfl rfl rfl (op_assign Has.c) ?_
  refine R_nil ?_
  refine T_seq ?_
  refine T_region ?_
  refine R_op rfl rfl rfl (op_ldBA Tryz.isAgg33 Tryz.sizeOf33 (Has.t rfl) (i := 1) rfl rfl rfl) ?_
  refine R_op rfl rfl rfl (op_call Tryz.call74 c_Ports ⟨(Has.t rfl), trivial⟩) ?_
  refine R_new rfl rfl rfl (new_make (T := Is (.slice none 0 0)) (i := Tryz.t30) Tryz.underlying31 info_30 rfl rfl (Has.t rfl) rfl (fun _ => rfl) trivial (by show 24 * _ ≤ _; omega) (by omega)) (fun B10 => ?_)
  refine R_op rfl rfl rfl (op_assign (Has.t rfl)) ?_
  refine R_nil ?_
  refine T_seq ?_
  refine T_seq ?_
  refine T_region ?_
  refine R_op rfl rfl rfl (op_move (Has.t rfl)) ?_
  refine R_op rfl rfl rfl (op_lenI Tryz.runUnderlying31 (Has.t rfl)) ?_
  refine R_op rfl rfl rfl (op_move (Has.cN 0)) ?_
  refine R_nil ?_
  refine T_block ?_
  refine T_conv 2 rfl (mat_nil (e := 49) (s := 5)) ?_
  refine T_loop (fun (i : Nat) => i ≤ z.length) (fun (i : Nat) => z.length - i) (fun (i : Nat) => [(1, PtrB B1 0), (3, Is (.slice (some ⟨B10, 0, none⟩) z.length z.length)), (12, NT .i64 z.length), (13, NT .i64 i)]) (fun (i : Nat) => [Z, box B1 33 [NumsT z, NumM s], matO B10 30 49 5 (FRow NumT (mixT (fun i => tab z.length fun k => gm s i k) [] z.length i))]) 0 (Nat.zero_le _)
    (Sub.cons rfl (Sub.cons rfl (Sub.cons rfl (Sub.cons rfl Sub.nil)))) (HSub.cons (fun _ _ _ h => h) (HSub.cons (fun _ _ _ h => h) (HSub.cons (matO_of (by rw [← mix_zero, tab_const]; exact rep_FRow NumT z.length)) HSub.nil))) (fun i hi => ?_)
  refine T_seq ?_
  refine T_region ?_
  refine R_op rfl rfl rfl (op_lssN (Has.t rfl) (Has.t rfl)) ?_
  refine R_nil ?_
  refine T_seq ?_
  refine T_cond (Has.t rfl) (fun hd => ?_) (fun hd => ?_)
  · simp only [decide_eq_true_eq] at hd
    refine T_focus 2 (i) rfl (frow_mix hd) (fun v => ?_)
    refine T_skip ?_
    refine T_seq ?_
    refine T_block ?_
    refine T_seq ?_
    refine T_region ?_
    refine R_op rfl rfl rfl (op_move (Has.t rfl)) ?_
    refine R_op rfl rfl rfl (op_assign (Has.t rfl)) ?_
    refine R_nil ?_
    refine T_seq ?_
    refine T_region ?_
    refine R_op rfl rfl rfl (op_move (Has.t rfl)) ?_
    refine R_op rfl rfl rfl (op_lenI Tryz.runUnderlying31 (Has.t rfl)) ?_
    refine R_op rfl rfl rfl (op_move (Has.cN 0)) ?_
    refine R_nil ?_
    refine T_block ?_
    refine T_loop2 (fun (k : Nat) (v : Value) => k ≤ z.length) (fun (k : Nat) (v : Value) => z.length - k) (fun (k : Nat) (v : Value) => [(1, PtrB B1 0), (3, Is (.slice (some ⟨B10, 0, none⟩) z.length z.length)), (4, NT .i64 i), (12, NT .i64 z.length), (13, NT .i64 i), (17, NT .i64 z.length), (18, NT .i64 k)]) (fun (k : Nat) (v : Value) => [Z, box B1 33 [NumsT z, NumM s], matH B10 30 49 5 (FRow NumT (mixT (fun i => tab z.length fun k => gm s i k) [] z.length i)) i v, rowO 49 5 v ((tab k fun k => gm s i k).map NumT)]) 0 v (Nat.zero_le _)
      (Sub.cons rfl (Sub.cons rfl (Sub.cons rfl (Sub.cons rfl (Sub.cons rfl (Sub.cons rfl (Sub.cons rfl Sub.nil))))))) (HSub.refl _) (fun k v hk => ?_)
    refine T_seq ?_
    refine T_region ?_
    refine R_op rfl rfl rfl (op_lssN (Has.t rfl) (Has.t rfl)) ?_
    refine R_nil ?_
    refine T_seq ?_
    refine T_cond (Has.t rfl) (fun he => ?_) (fun he => ?_)
    · simp only [decide_eq_true_eq] at he
      refine T_skip ?_
      refine T_seq ?_
      refine T_block ?_
      refine T_seq ?_
      refine T_region ?_
      refine R_op rfl rfl rfl (op_move (Has.t rfl)) ?_
      refine R_op rfl rfl rfl (op_assign (Has.t rfl)) ?_
      refine R_nil ?_
      refine T_seq ?_
      refine T_region ?_
      refine R_op rfl rfl rfl (op_ldBA Tryz.isAgg33 Tryz.sizeOf33 (Has.t rfl) (i := 1) rfl rfl rfl) ?_
      refine R_op rfl rfl rfl (op_move (Has.t rfl)) ?_
      refine R_op rfl rfl rfl (op_addN (Has.t rfl) (Has.cN 1) (by show _ < 9223372036854775808; first | omega | (simp only [lim]; omega))) ?_
      refine R_op rfl rfl rfl (op_move (Has.t rfl)) ?_
      refine R_op rfl rfl rfl (op_addN (Has.t rfl) (Has.cN 1) (by show _ < 9223372036854775808; first | omega | (simp only [lim]; omega))) ?_
      refine R_op rfl rfl rfl (op_call Tryz.call72 (c_At (i := (i : Int) + 1) (j := (k : Int) + 1) hsh (by omega)) ⟨(Has.t rfl), (Has.t rfl), (Has.t rfl), trivial⟩) ?_
      refine R_op rfl rfl rfl (op_move (Has.t rfl)) ?_
      refine R_op rfl rfl rfl (op_extract (Has.t rfl) rfl) ?_
      refine R_op rfl rfl rfl (op_extract (Has.t rfl) rfl) ?_
      refine R_new rfl rfl rfl (new_alloc (Ts := [Is (.bool false), Is (.slice none 0 0), Is (.bool false), Is (.slice none 0 0), Is (.slice none 0 0)]) Tryz.zeroValue49 rfl (fun V => Cells.cons' ⟨rfl, trivial⟩ (Cells.cons' ⟨rfl, trivial⟩ (Cells.cons' ⟨rfl, trivial⟩ (Cells.cons' ⟨rfl, trivial⟩ (Cells.cons' ⟨rfl, trivial⟩ (Cells.nil))))))) (fun B6 => ?_)
      refine R_stA Tryz.sizeOf49 (Has.t rfl) (Has.t rfl) rfl (i := 4) rfl (Nat.le_of_ble_eq_true rfl) rfl rfl ?_
      refine R_op rfl rfl rfl (op_assign (Has.t rfl)) ?_
      refine R_nil ?_
      refine Y.D_startA (m := 9) [] 8 3 rfl rfl ?_
      refine Y.D_hide (Ei := [(3, _)]) rfl rfl (Y.Srcs.cons (Y.Src.pre rfl rfl) Y.Srcs.nil) rfl rfl (S_plain rfl (op_move (Has.t rfl))) ?_
      refine Y.D_hide (Ei := [(4, _)]) rfl rfl (Y.Srcs.cons (Y.Src.pre rfl rfl) Y.Srcs.nil) rfl rfl (S_plain rfl (op_move (Has.t rfl))) ?_
      refine Y.D_hide (Ei := [(3, _)]) rfl rfl (Y.Srcs.cons (Y.Src.pre rfl rfl) Y.Srcs.nil) rfl rfl (S_plain rfl (op_move (Has.t rfl))) ?_
      refine Y.D_hide (Ei := [(4, _)]) rfl rfl (Y.Srcs.cons (Y.Src.pre rfl rfl) Y.Srcs.nil) rfl rfl (S_plain rfl (op_move (Has.t rfl))) ?_
      refine Y.D_hide (Ei := [(32, _), (33, _)]) rfl rfl (Y.Srcs.cons (Y.Src.op 2 rfl rfl) (Y.Srcs.cons (Y.Src.op 3 rfl rfl) Y.Srcs.nil)) rfl rfl (S_plain rfl (op_idxB Tryz.runUnderlying31 Tryz.sizeOf30 (Has.t rfl) (Has.t rfl) rfl (by omega) (by rw [Nat.mul_one, Nat.zero_add]))) ?_
      refine Y.D_hide (Ei := [(34, _)]) rfl rfl (Y.Srcs.cons (Y.Src.op 4 rfl rfl) Y.Srcs.nil) rfl rfl (S_plain rfl (op_ldH Tryz.isAgg30 Tryz.sizeOf30 (Has.t rfl) (j := 2) rfl)) ?_
      refine Y.D_hide (Ei := [(6, _)]) rfl rfl (Y.Srcs.cons (Y.Src.pre rfl rfl) Y.Srcs.nil) rfl rfl (S_plain rfl (op_ldBA Tryz.isAgg49 Tryz.sizeOf49 (Has.t rfl) (i := 4) rfl rfl rfl)) ?_
      refine Y.D_hide (Ei := [(36, _)]) rfl rfl (Y.Srcs.cons (Y.Src.op 6 rfl rfl) Y.Srcs.nil) rfl rfl (S_plain rfl (op_bslice (xs := [.tmp 36]) Tryz.runUnderlying30 Tryz.sizeOf49 Tryz.zeroValue49 (Elems.cons (Has.t rfl) Elems.nil) rfl rfl rfl)) ?_
      refine Y.D_app (Ei := [(35, _), (37, _)]) rfl rfl rfl rfl (Y.Srcs.cons (Y.Src.op 5 rfl rfl) (Y.Srcs.cons (Y.Src.op 7 rfl rfl) Y.Srcs.nil)) rfl (A_append (inf := Tryz.t49) und_30 info_49 rfl rfl rfl (Has.t rfl) (Has.t rfl) (by simp) (fun T hT => by simp at hT; subst hT; exact El.ag rfl) (by show _ * 88 ≤ _; simp only [List.length_map, tab_len, List.length_cons, List.length_nil]; omega) (by simp only [List.length_map, tab_len, List.length_cons, List.length_nil]; omega)) ?_
      refine Y.D_done mixed rfl (by kernel_rfl) rfl (by simp [Y.okP]) rfl rfl (Y.F_val (Y.F_val (Y.F_val (Y.F_val (Y.F_val (Y.F_val (Y.F_val (Y.F_val (Y.F_app (fun v2 => Y.F_nil ?_))))))))))
      refine R_op rfl rfl rfl (op_idxB Tryz.runUnderlying31 Tryz.sizeOf30 (Has.t rfl) (Has.t rfl) rfl (by omega) (by rw [Nat.mul_one, Nat.zero_add])) ?_
      refine R_stH Tryz.sizeOf30 (Has.t rfl) (Has.t rfl) (by simp only [FRow, List.length_map, mix_len]; omega) (j := 2) (l := 5) rfl rfl rfl ?_
      refine R_nil ?_
      refine T_blk ?_
      refine T_region ?_
      refine R_op rfl rfl rfl (op_addN (Has.t rfl) (Has.cN 1) (by show _ < 9223372036854775808; first | omega | (simp only [lim]; omega))) ?_
      refine R_op rfl rfl rfl (op_move (Has.t rfl)) ?_
      refine R_nil ?_
      refine T_keep [0, 1, 2, 5] rfl (by decide) ?_
      refine T_again (k + 1, v2) he (by dsimp only; omega) (Sub.cons rfl (Sub.cons rfl (Sub.cons rfl (Sub.cons rfl (Sub.cons rfl (Sub.cons rfl (Sub.cons rfl Sub.nil))))))) (HSub.cons (fun _ _ _ h => h) (HSub.cons (fun _ _ _ h => h) (HSub.cons (fun _ _ _ h => h) (HSub.cons (rowO_of (by rw [tab_succ, List.map_append, pkm_at hd he]; rfl)) HSub.nil))))
    · simp only [decide_eq_false_iff_not] at he
      obtain rfl : k = z.length := Nat.le_antisymm hk (by omega)
      refine T_exit rfl ?_
      refine T_blk ?_
      refine T_unfocus 2 3 rfl rfl (by decide) (by simp only [FRow, List.length_map, mix_len]; omega) ?_
      refine T_region ?_
      refine R_op rfl rfl rfl (op_addN (Has.t rfl) (Has.cN 1) (by show _ < 9223372036854775808; first | omega | (simp only [lim]; omega))) ?_
      refine R_op rfl rfl rfl (op_move (Has.t rfl)) ?_
      refine R_nil ?_
      refine T_keep [0, 1, 2] rfl (by decide) ?_
      refine T_again (i + 1) hd (by omega) (Sub.cons rfl (Sub.cons rfl (Sub.cons rfl (Sub.cons rfl Sub.nil)))) (HSub.cons (fun _ _ _ h => h) (HSub.cons (fun _ _ _ h => h) (HSub.cons (matO_of (by rw [set_FRow, ← mix_set (f := (fun i => tab z.length fun k => gm s i k))])) HSub.nil)))
  · simp only [decide_eq_false_iff_not] at hd
    obtain rfl : i = z.length := Nat.le_antisymm hi (by omega)
    refine T_exit rfl ?_
    refine T_seq ?_
    refine T_region ?_
    refine R_op rfl rfl rfl (op_move (Has.t rfl)) ?_
    refine R_op rfl rfl rfl (op_assign (Has.t rfl)) ?_
    refine R_nil ?_
    exact T_retO B10 trivial [0, 2] ⟨⟨_, rfl, fun _ _ _ h => h⟩, ⟨_, rfl, (matO_of (by rw [mix_fin]))⟩, trivial⟩ (by decide) (rvs1 rfl (rv_tmp rfl))
theorem c_scat {z : List Qi} {s : List (List Qi)} (hsh : Shp s z.length z.length) (hl : z.length ≤ 8) : Fun Tryz.prog 80 [NetT z s] (NumM s) := (c_scatO hsh hl).fun fun B _ v S V h1 h2 => by
  have h3 := frz_matF (s := 5) (M := tab z.length fun i => tab z.length fun k => gm s i k) (tab_len _ _).symm v S V h1 h2
  rw [← mat_tab hsh] at h3; exact h3
set_option maxRecDepth 20000 in
theorem c_refs {z : List Qi} {s : List (List Qi)} (hl : z.length ≤ 8) : Fun Tryz.prog 167 [NetT z s] (NumsT z) := by
  refine Fun.intro Tryz.func167 rfl Tryz.ntmps167 rfl (fun cx => ?_)
  refine T_seq ?_
  refine T_region ?_
  refine R_new rfl rfl rfl (new_box (Has.t rfl)) (fun B1 => ?_)
  refine R_op rfl rfl rfl (op_assign Has.c) ?_
  refine R_nil ?_
  refine T_seq ?_
  refine T_region ?_
  refine R_op rfl rfl rfl (op_ldBA Tryz.isAgg33 Tryz.sizeOf33 (Has.t rfl) (i := 0) rfl rfl rfl) ?_
  refine R_op rfl rfl rfl (op_call Tryz.call74 c_Ports ⟨(Has.t rfl), trivial⟩) ?_
  refine R_new rfl rfl rfl (new_makeO (T := NumT Qi.zero) (i := Tryz.t49) und_30 info_49 rfl rfl (Has.t rfl) rfl num_zero_p (El.ag rfl) (by show 88 * _ ≤ _; omega) (by omega)) (fun B7 => ?_)
  refine R_op rfl rfl rfl (op_assign (Has.t rfl)) ?_
  refine R_nil ?_
  refine T_seq ?_
  refine T_seq ?_
  refine T_region ?_
  refine R_op rfl rfl rfl (op_move (Has.t rfl)) ?_
  refine R_op rfl rfl rfl (op_lenO Tryz.runUnderlying30 (Has.t rfl) (i := 1) rfl (show ((List.replicate z.length (NumT Qi.zero)).length : Int) = ((z.length : Nat) : Int) by simp)) ?_
  refine R_op rfl rfl rfl (op_move (Has.cN 0)) ?_
  refine R_nil ?_
  refine T_block ?_
  refine T_loop2 (fun (k : Nat) (out : List Qi) => FillS (fun i => gv z i) z.length out k) (fun (k : Nat) (out : List Qi) => z.length - k) (fun (k : Nat) (out : List Qi) => [(1, PtrB B1 0), (3, Is B7), (9, NT .i64 z.length), (10, NT .i64 k)]) (fun (k : Nat) (out : List Qi) => [box B1 33 [NumsT z, NumM s], rowO 49 5 B7 (out.map NumT)]) 0 (List.replicate z.length Qi.zero) (FillS.start _ _ _)
    (Sub.cons rfl (Sub.cons rfl (Sub.cons rfl (Sub.cons rfl Sub.nil)))) (HSub.cons (fun _ _ _ h => h) (HSub.cons (rowO_of (rep_mapF NumT _ _)) HSub.nil)) (fun k out hS => ?_)
  refine T_seq ?_
  refine T_region ?_
  refine R_op rfl rfl rfl (op_lssN (Has.t rfl) (Has.t rfl)) ?_
  refine R_nil ?_
  refine T_seq ?_
  refine T_cond (Has.t rfl) (fun hk => ?_) (fun hk => ?_)
  · simp only [decide_eq_true_eq] at hk
    have hlen := hS.len
    refine T_skip ?_
    refine T_seq ?_
    refine T_block ?_
    refine T_seq ?_
    refine T_region ?_
    refine R_op rfl rfl rfl (op_move (Has.t rfl)) ?_
    refine R_op rfl rfl rfl (op_assign (Has.t rfl)) ?_
    refine R_nil ?_
    refine T_region ?_
    refine R_op rfl rfl rfl (op_move (Has.t rfl)) ?_
    refine R_op rfl rfl rfl (op_move (Has.t rfl)) ?_
    refine R_op rfl rfl rfl (op_ldBA Tryz.isAgg33 Tryz.sizeOf33 (Has.t rfl) (i := 0) rfl rfl rfl) ?_
    refine R_op rfl rfl rfl (op_move (Has.t rfl)) ?_
    refine R_op rfl rfl rfl (op_addN (Has.t rfl) (Has.cN 1) (by show _ < 9223372036854775808; first | omega | (simp only [lim]; omega))) ?_
    refine R_op rfl rfl rfl (op_call Tryz.call71 (c_Ref (i := (k : Int) + 1) (by omega)) ⟨(Has.t rfl), (Has.t rfl), trivial⟩) ?_
    refine R_op rfl rfl rfl (op_move (Has.t rfl)) ?_
    refine R_op rfl rfl rfl (op_extract (Has.t rfl) rfl) ?_
    refine R_op rfl rfl rfl (op_extract (Has.t rfl) rfl) ?_
    refine R_op rfl rfl rfl (op_idxO Tryz.runUnderlying30 Tryz.sizeOf49 (Has.t rfl) (Has.t rfl) rfl (i := 1) rfl (by first | omega | (simp; omega)) rfl) ?_
    refine R_stO Tryz.sizeOf49 (Has.t rfl) (Has.t rfl) (El.ag rfl) (i := 1) rfl rfl (by first | omega | (simp; omega)) rfl ?_
    refine R_nil ?_
    refine T_blk ?_
    refine T_region ?_
    refine R_op rfl rfl rfl (op_addN (Has.t rfl) (Has.cN 1) (by show _ < 9223372036854775808; first | omega | (simp only [lim]; omega))) ?_
    refine R_op rfl rfl rfl (op_move (Has.t rfl)) ?_
    refine R_nil ?_
    refine T_again (k + 1, _) (hS.next hk (pkv_at hk)) (by dsimp only; omega) (Sub.cons rfl (Sub.cons rfl (Sub.cons rfl (Sub.cons rfl Sub.nil)))) (HSub.cons (fun _ _ _ h => h) (HSub.cons (rowO_of (set_mapF NumT _ _ _)) HSub.nil))
  · simp only [decide_eq_false_iff_not] at hk
    obtain rfl : k = z.length := Nat.le_antisymm hS.kle (by omega)
    have hfin := hS.fin.trans (list_tab (l := z) rfl).symm
    refine T_exit rfl ?_
    refine T_freeze (i := 1) (tt := 3) rfl rfl frz_row ?_
    refine T_seq ?_
    refine T_region ?_
    refine R_op rfl rfl rfl (op_move (Has.t rfl)) ?_
    refine R_op rfl rfl rfl (op_assign (Has.t rfl)) ?_
    refine R_nil ?_
    refine T_ret1 rfl (rv_to (rv_tmp rfl) ?_)
    exact (slT_of (by rw [hfin]))
end Go.Proofs.YtppibhcfaahgpaaGreat
namespace Go.Proofs.YtppibhcfaahgpaaGreat
open Go Go.RowKit
theorem meth_49_Div (v : Value) (w : World) : (method (Tryz.prog.types.size + Made.depth) 49 v "Div").run Tryz.prog w = .ok (174, v) w := by kernel_rfl
theorem meth_49_Sub (v : Value) (w : World) : (method (Tryz.prog.types.size + Made.depth) 49 v "Sub").run Tryz.prog w = .ok (58, v) w := by kernel_rfl
end Go.Proofs.YtppibhcfaahgpaaGreat
namespace Go.Proofs.YtppibhcfaahgpaaGreat
open Go Go.RowKit
set_option maxRecDepth 20000 in
theorem c_carO {p c : List (List Qi)} {n m L : Nat} (hp : Shp p n m) (hc : Shp c m m) (hfp : FitM p L) (hfc : FitM c L) (hL1 : 1 ≤ L) (hL : L ≤ 100000) (hn1 : 1 ≤ n) (hm1 : 1 ≤ m) (hn : n ≤ 8) (hm : m ≤ 8) : FunO Tryz.prog 82 [NumM p, NumM c] [] (Nat) (fun B => Is (.slice (some ⟨B, 0, none⟩) n n)) (fun B => [matO B 30 49 5 (FRow NumT (carM p c))]) (fun _ => True) := by
  have hpl := hp.1
  have hf1 := mulM_fit (n := n) (m := m) hfp hfc hL1 hL1 hm
  have hf2 := adjM_fit (n := n) (m := m) hfp hL1
  have hs1 : Shp (mulM p c n m m) n m := mulM_shp
  have hs2 : Shp (adjM p n m) m n := adjM_shp
  refine FunO.intro Tryz.func82 rfl Tryz.ntmps82 rfl (fun cx Z => ?_)
  refine T_seq ?_
  refine T_region ?_
  refine R_op rfl rfl rfl (op_assign Has.c) ?_
  refine R_nil ?_
  refine T_seq ?_
  refine T_seq ?_
  refine T_region ?_
  refine R_op rfl rfl rfl (op_move (Has.t rfl)) ?_
  refine R_op rfl rfl rfl (op_len Tryz.runUnderlying31 (Has.t rfl) len_map) ?_
  refine R_op rfl rfl rfl (op_eqlN (Has.t rfl) (Has.cN 0)) ?_
  refine R_nil ?_
  refine T_cond (Has.t rfl) (fun h0 => ?_) (fun h0 => ?_)
  · simp only [decide_eq_true_eq] at h0
    omega
  · refine T_skip ?_
    refine T_seq ?_
    refine T_region ?_
    refine R_op rfl rfl rfl (op_move (Has.t rfl)) ?_
    refine R_op rfl rfl rfl (op_move (Has.t rfl)) ?_
    refine R_op rfl rfl rfl (op_call Tryz.call153 (c_Prod hp hc hfp hfc hL1 hL1 (by omega) (by omega) hn1 hm1 hn hm hm) ⟨(Has.t rfl), (Has.t rfl), trivial⟩) ?_
    refine R_op rfl rfl rfl (op_move (Has.t rfl)) ?_
    refine R_op rfl rfl rfl (op_extract (Has.t rfl) rfl) ?_
    refine R_op rfl rfl rfl (op_extract (Has.t rfl) rfl) ?_
    refine R_op rfl rfl rfl (op_assign (Has.t rfl)) ?_
    refine R_op rfl rfl rfl (op_assign (Has.t rfl)) ?_
    refine R_nil ?_
    refine T_seq ?_
    refine T_region ?_
    refine R_op rfl rfl rfl (op_move (Has.t rfl)) ?_
    refine R_op rfl rfl rfl (op_call Tryz.call154 (c_Adj hp hn1 hn hm) ⟨(Has.t rfl), trivial⟩) ?_
    refine R_op rfl rfl rfl (op_move (Has.t rfl)) ?_
    refine R_op rfl rfl rfl (op_extract (Has.t rfl) rfl) ?_
    refine R_op rfl rfl rfl (op_extract (Has.t rfl) rfl) ?_
    refine R_op rfl rfl rfl (op_assign (Has.t rfl)) ?_
    refine R_op rfl rfl rfl (op_assign (Has.t rfl)) ?_
    refine R_nil ?_
    refine T_seq ?_
    refine T_region ?_
    refine R_op rfl rfl rfl (op_move (Has.t rfl)) ?_
    refine R_op rfl rfl rfl (op_move (Has.t rfl)) ?_
    refine R_call0 Tryz.call153 (c_ProdO (a := mulM p c n m m) (b := adjM p n m) hs1 hs2 hf1 hf2 (by omega) hL1 (by omega) (by omega) hn1 hm1 hn hm hn) ⟨(Has.t rfl), (Has.t rfl), trivial⟩ rfl (fun B28 _ => ?_)
    refine R_op rfl rfl rfl (op_move (Has.t rfl)) ?_
    refine R_op rfl rfl rfl (op_extract (Has.t rfl) rfl) ?_
    refine R_op rfl rfl rfl (op_extract (Has.t rfl) rfl) ?_
    refine R_op rfl rfl rfl (op_assign (Has.t rfl)) ?_
    refine R_op rfl rfl rfl (op_assign (Has.t rfl)) ?_
    refine R_nil ?_
    refine T_seq ?_
    refine T_region ?_
    refine R_op rfl rfl rfl (op_move (Has.t rfl)) ?_
    refine R_op rfl rfl rfl (op_assign (Has.t rfl)) ?_
    refine R_nil ?_
    exact T_retO B28 trivial [0, 1] ⟨⟨_, rfl, fun _ _ _ h => h⟩, ⟨_, rfl, (matO_of (by rw [car_eq hp hc]))⟩, trivial⟩ (by decide) (rvs1 rfl (rv_tmp rfl))
theorem c_car {p c : List (List Qi)} {n m L : Nat} (hp : Shp p n m) (hc : Shp c m m) (hfp : FitM p L) (hfc : FitM c L) (hL1 : 1 ≤ L) (hL : L ≤ 100000) (hn1 : 1 ≤ n) (hm1 : 1 ≤ m) (hn : n ≤ 8) (hm : m ≤ 8) : Fun Tryz.prog 82 [NumM p, NumM c] (NumM (carM p c)) := (c_carO hp hc hfp hfc hL1 hL hn1 hm1 hn hm).fun fun B _ v S V h1 h2 => frz_matF (s := 5) (M := carM p c) (by rw [carM_shp.1, hp.1]) v S V h1 h2
set_option maxHeartbeats 1000000 in
set_option maxRecDepth 20000 in
theorem c_Factor {z : List Qi} {s c : List (List Qi)} {g t0 : Qi} {L : Nat} (hz : FitL z L) (hs : FitM s L) (hc : FitM c L) (hg : FitC g L) (ht : FitC t0 L) (hL1 : 1 ≤ L) (hL : L ≤ 4000) (hsh : Shp s z.length z.length) (hch : Shp c z.length z.length) (hl : z.length ≤ 8) : Fun Tryz.prog 17 [NoisyT z s c, NumT g, NumT t0] (TupT [NumT (facR z s c g t0).1, IntT .i64 (facR z s c g t0).2]) := by
  haveI := hg; haveI := ht
  haveI hz0 : FitC Qi.zero 1 := FitC.zero (Nat.le_refl 1)
  have d1 : (dg (((1 : Nat) : Int)).natAbs).length = 1 := by decide
  have d2 : (dg (Int.natAbs 1)).length = 1 := by decide
  have hcl := hch.1
  refine Fun.intro Tryz.func17 rfl Tryz.ntmps17 rfl (fun cx => ?_)
  refine T_seq ?_
  refine T_region ?_
  refine R_new rfl rfl rfl (new_box (Has.t rfl)) (fun B3 => ?_)
  refine R_new rfl rfl rfl (new_box (Has.t rfl)) (fun B4 => ?_)
  refine R_new rfl rfl rfl (new_box (Has.t rfl)) (fun B5 => ?_)
  refine R_new rfl rfl rfl (new_alloc (Ts := [Is (.bool false), Is (.slice none 0 0), Is (.bool false), Is (.slice none 0 0), Is (.slice none 0 0)]) Tryz.zeroValue49 rfl (fun V => Cells.cons' ⟨rfl, trivial⟩ (Cells.cons' ⟨rfl, trivial⟩ (Cells.cons' ⟨rfl, trivial⟩ (Cells.cons' ⟨rfl, trivial⟩ (Cells.cons' ⟨rfl, trivial⟩ (Cells.nil))))))) (fun B6 => ?_)
  refine R_op rfl rfl rfl (op_assign (Has.cN 0)) ?_
  refine R_nil ?_
  refine T_seq ?_
  refine T_region ?_
  refine R_new rfl rfl rfl (new_alloc (Ts := [Is (.bool false), Is (.slice none 0 0), Is (.bool false), Is (.slice none 0 0), Is (.slice none 0 0)]) Tryz.zeroValue49 rfl (fun V => Cells.cons' ⟨rfl, trivial⟩ (Cells.cons' ⟨rfl, trivial⟩ (Cells.cons' ⟨rfl, trivial⟩ (Cells.cons' ⟨rfl, trivial⟩ (Cells.cons' ⟨rfl, trivial⟩ (Cells.nil))))))) (fun B8 => ?_)
  refine R_nil ?_
  refine T_seq ?_
  refine T_seq ?_
  refine D_start (m := 6) ?_
  refine D_step (Ei := [(5, _)]) rfl rfl (Srcs.cons (Src.pre rfl rfl) Srcs.nil) (S_plain rfl (op_ldBA Tryz.isAgg49 Tryz.sizeOf49 (Has.t rfl) (i := 2) rfl rfl rfl)) ?_
  refine D_step (Ei := [(18, _)]) rfl rfl (Srcs.cons (Src.op 0 rfl rfl) Srcs.nil) (S_plain rfl (op_call Tryz.call32 c_Real ⟨(Has.t rfl), trivial⟩)) ?_
  refine D_step (Ei := [(19, _)]) rfl rfl (Srcs.cons (Src.op 1 rfl rfl) Srcs.nil) (S_plain rfl (op_not (Has.t rfl))) ?_
  refine D_step (Ei := [(20, _)]) rfl rfl (Srcs.cons (Src.op 2 rfl rfl) Srcs.nil) (S_plain rfl (op_move (Has.t rfl))) ?_
  refine D_step (Ei := [(5, _), (21, _)]) rfl rfl (Srcs.cons (Src.pre rfl rfl) (Srcs.cons (Src.op 3 rfl rfl) Srcs.nil)) (S_when rfl rfl (Has.t rfl) (fun h => op_ldBA Tryz.isAgg49 Tryz.sizeOf49 (Has.t rfl) (i := 2) rfl rfl rfl)) ?_
  refine D_step (Ei := [(21, _)]) rfl rfl (Srcs.cons (Src.op 3 rfl rfl) Srcs.nil) (S_when rfl rfl (Has.t rfl) (fun h => op_call Tryz.call28 (c_Int (n := 0) (by decide) (by decide)) ⟨(Has.cN 0), trivial⟩)) ?_
  refine D_done mixed rfl (by kernel_rfl) (F_val (F_val (F_val (F_val (F_val (F_val (F_nil ?_)))))))
  refine R_step rfl rfl (S_when rfl rfl (Has.t rfl) (fun h => op_call Tryz.call33 (c_Cmp (x := t0) (y := Qi.zero) (M := 1) (by omega)) ⟨(Has.w rfl h), (Has.w rfl h), trivial⟩)) ?_
  refine R_step rfl rfl (S_when rfl rfl (Has.t rfl) (fun h => op_leq (Has.w rfl h) Has.c)) ?_
  refine R_op rfl rfl rfl (op_or (Has.t rfl) (fun h => (Has.w rfl h))) ?_
  refine R_nil ?_
  refine T_cond (Has.t rfl) (fun hb => ?_) (fun hb => ?_)
  · rw [npos_eq] at hb
    simp only [Bool.not_eq_true'] at hb
    have he : facR z s c g t0 = (Qi.zero, 1) := by rw [facR, if_pos hb]
    refine T_seq ?_
    refine T_region ?_
    refine R_op rfl rfl rfl (op_ldBA Tryz.isAgg49 Tryz.sizeOf49 (Has.t rfl) (i := 4) rfl rfl rfl) ?_
    refine R_stA Tryz.sizeOf49 (Has.t rfl) (Has.t rfl) rfl (i := 3) rfl (Nat.le_of_ble_eq_true rfl) rfl rfl ?_
    refine R_op rfl rfl rfl (op_assign (Has.cN 1)) ?_
    refine R_nil ?_
    refine T_ret2 rfl (rv_to (rv_cell Tryz.isAgg49 Tryz.sizeOf49 rfl (i := 3) rfl rfl) ?_) (rv_to (rv_tmp rfl) ?_)
    · exact (fun v V k => by rw [he]; exact num_zero v V k)
    · exact (fun v V k => by rw [he]; exact k)
  · rw [npos_eq] at hb
    simp only [Bool.not_eq_false'] at hb
    have hb2 : ¬ posQ t0 = false := by rw [hb]; decide
    refine T_skip ?_
    refine T_seq ?_
    refine T_seq ?_
    refine T_region ?_
    refine R_op rfl rfl rfl (op_fldB fa_35_1 (Has.t rfl) rfl) ?_
    refine R_op rfl rfl rfl (op_ldB Tryz.isAgg31 Tryz.sizeOf31 (Has.t rfl) (i := 0) rfl rfl) ?_
    refine R_op rfl rfl rfl (op_len Tryz.runUnderlying31 (Has.t rfl) len_map) ?_
    refine R_op rfl rfl rfl (op_neqN (Has.t rfl) (Has.cN 2)) ?_
    refine R_nil ?_
    refine T_cond (Has.t rfl) (fun hd => ?_) (fun hd => ?_)
    · have hd2 : z.length ≠ 2 := by rw [← hcl]; simpa using hd
      have he : facR z s c g t0 = (Qi.zero, 4) := by rw [facR, if_neg hb2, if_pos hd2]
      refine T_seq ?_
      refine T_region ?_
      refine R_op rfl rfl rfl (op_ldBA Tryz.isAgg49 Tryz.sizeOf49 (Has.t rfl) (i := 4) rfl rfl rfl) ?_
      refine R_stA Tryz.sizeOf49 (Has.t rfl) (Has.t rfl) rfl (i := 3) rfl (Nat.le_of_ble_eq_true rfl) rfl rfl ?_
      refine R_op rfl rfl rfl (op_assign (Has.cN 4)) ?_
      refine R_nil ?_
      refine T_ret2 rfl (rv_to (rv_cell Tryz.isAgg49 Tryz.sizeOf49 rfl (i := 3) rfl rfl) ?_) (rv_to (rv_tmp rfl) ?_)
      · exact (fun v V k => by rw [he]; exact num_zero v V k)
      · exact (fun v V k => by rw [he]; exact k)
    · have hd2 : z.length = 2 := by rw [← hcl]; simpa using hd
      have hd3 : ¬ z.length ≠ 2 := fun h => h hd2
      have hsh2 := hsh
      rw [hd2] at hsh hch
      have hs1 := hsh.1
      have hc1 := hch.1
      have hr0 := hsh.row (i := 0) (by decide)
      have hr1 := hsh.row (i := 1) (by decide)
      have hWf := facW_fit hs hg hL1
      have hW : Shp (facW s g) 1 2 := ⟨rfl, fun r hr => by have := List.mem_singleton.1 hr; subst this; rfl⟩
      have hXs : Shp (carM (facW s g) c) 1 1 := carM_shp
      have hX0 := hXs.row (i := 0) (by decide)
      have hp1 := pk1 (z := z) (by omega)
      haveI f1 : FitC (gm s 1 0) L := hs.get hL1 1 0
      haveI f2 : FitC (gm s 0 0) L := hs.get hL1 0 0
      haveI f3 : FitC (pkv z ((1 : Nat) : Int)) L := by rw [hp1]; exact hz.get hL1 0
      haveI f4 := facX_fit hs hc hg hL1 (by omega)
      have hpd : gm s 1 0 * (gm s 1 0).conj * (t0 * pkv z ((1 : Nat) : Int)) * (oneQ - g * g.conj) = facD z s g t0 := by rw [hp1, Qi.mul_conj_norm, Qi.mul_conj_norm, facD, Qi.mul_assoc']
      refine T_skip ?_
      refine T_seq ?_
      refine T_region ?_
      refine R_op rfl rfl rfl (op_fldB fa_35_0 (Has.t rfl) rfl) ?_
      refine R_op rfl rfl rfl (op_ldBA Tryz.isAgg33 Tryz.sizeOf33 (Has.t rfl) (i := 0) rfl rfl rfl) ?_
      refine R_op rfl rfl rfl (op_call Tryz.call80 (c_scat hsh2 (by omega)) ⟨(Has.t rfl), trivial⟩) ?_
      refine R_op rfl rfl rfl (op_call Tryz.call28 (c_Int (n := 1) (by decide) (by decide)) ⟨(Has.cN 1), trivial⟩) ?_
      refine R_op rfl rfl rfl (op_call Tryz.call81 c_of ⟨(Has.t rfl), trivial⟩) ?_
      refine R_new rfl rfl rfl (new_alloc (Ts := [Is (.bool false), Is (.slice none 0 0), Is (.bool false), Is (.slice none 0 0), Is (.slice none 0 0)]) Tryz.zeroValue49 rfl (fun V => Cells.cons' ⟨rfl, trivial⟩ (Cells.cons' ⟨rfl, trivial⟩ (Cells.cons' ⟨rfl, trivial⟩ (Cells.cons' ⟨rfl, trivial⟩ (Cells.cons' ⟨rfl, trivial⟩ (Cells.nil))))))) (fun B10 => ?_)
      refine R_op rfl rfl rfl (op_assign (Has.t rfl)) ?_
      refine R_stA Tryz.sizeOf49 (Has.t rfl) (Has.t rfl) rfl (i := 5) rfl (Nat.le_of_ble_eq_true rfl) rfl rfl ?_
      refine R_nil ?_
      refine T_seq ?_
      refine T_region ?_
      refine R_op rfl rfl rfl (op_fldB fa_35_0 (Has.t rfl) rfl) ?_
      refine R_op rfl rfl rfl (op_ldBA Tryz.isAgg33 Tryz.sizeOf33 (Has.t rfl) (i := 0) rfl rfl rfl) ?_
      refine R_op rfl rfl rfl (op_call Tryz.call71 (c_Ref (i := ((1 : Nat) : Int)) (by omega)) ⟨(Has.t rfl), (Has.cN 1), trivial⟩) ?_
      refine R_op rfl rfl rfl (op_move (Has.t rfl)) ?_
      refine R_op rfl rfl rfl (op_extract (Has.t rfl) rfl) ?_
      refine R_op rfl rfl rfl (op_extract (Has.t rfl) rfl) ?_
      refine R_new rfl rfl rfl (new_alloc (Ts := [Is (.bool false), Is (.slice none 0 0), Is (.bool false), Is (.slice none 0 0), Is (.slice none 0 0)]) Tryz.zeroValue49 rfl (fun V => Cells.cons' ⟨rfl, trivial⟩ (Cells.cons' ⟨rfl, trivial⟩ (Cells.cons' ⟨rfl, trivial⟩ (Cells.cons' ⟨rfl, trivial⟩ (Cells.cons' ⟨rfl, trivial⟩ (Cells.nil))))))) (fun B11 => ?_)
      refine R_stA Tryz.sizeOf49 (Has.t rfl) (Has.t rfl) rfl (i := 6) rfl (Nat.le_of_ble_eq_true rfl) rfl rfl ?_
      refine R_op rfl rfl rfl (op_assign (Has.t rfl)) ?_
      refine R_nil ?_
      refine T_seq ?_
      refine T_sub (E' := [(3, _), (4, _), (5, _), (6, _), (7, _), (8, _), (9, _), (10, _), (11, _)]) (Sub.cons rfl (Sub.cons rfl (Sub.cons rfl (Sub.cons rfl (Sub.cons rfl (Sub.cons rfl (Sub.cons rfl (Sub.cons rfl (Sub.cons rfl Sub.nil))))))))) ?_
      refine D_start (m := 18) ?_
      refine D_step (Ei := [(9, _)]) rfl rfl (Srcs.cons (Src.pre rfl rfl) Srcs.nil) (S_plain rfl (op_move (Has.t rfl))) ?_
      refine D_step (Ei := [(44, _)]) rfl rfl (Srcs.cons (Src.op 0 rfl rfl) Srcs.nil) (S_plain rfl (op_idx Tryz.runUnderlying31 Tryz.sizeOf30 (Has.t rfl) (Has.cN 1) rfl (map_get (getD_some (d := []) (by omega))))) ?_
      refine D_step (Ei := [(45, _)]) rfl rfl (Srcs.cons (Src.op 1 rfl rfl) Srcs.nil) (S_plain rfl (op_ld Tryz.isAgg30 Tryz.sizeOf30 (Has.t rfl))) ?_
      refine D_step (Ei := [(46, _)]) rfl rfl (Srcs.cons (Src.op 2 rfl rfl) Srcs.nil) (S_plain rfl (op_idx Tryz.runUnderlying30 Tryz.sizeOf49 (Has.t rfl) (Has.cN 0) rfl (map_get (getD_some (d := Qi.zero) (by rw [hr1]; decide))))) ?_
      refine D_step (Ei := [(47, _)]) rfl rfl (Srcs.cons (Src.op 3 rfl rfl) Srcs.nil) (S_plain rfl (op_ld Tryz.isAgg49 Tryz.sizeOf49 (Has.t rfl))) ?_
      refine D_step (Ei := [(48, _)]) rfl rfl (Srcs.cons (Src.op 4 rfl rfl) Srcs.nil) (S_plain rfl (op_iface mkif_49 (Has.t rfl))) ?_
      refine D_step (Ei := [(4, _)]) rfl rfl (Srcs.cons (Src.pre rfl rfl) Srcs.nil) (S_plain rfl (op_ldBA Tryz.isAgg49 Tryz.sizeOf49 (Has.t rfl) (i := 1) rfl rfl rfl)) ?_
      refine D_step (Ei := [(49, _), (50, _)]) rfl rfl (Srcs.cons (Src.op 5 rfl rfl) (Srcs.cons (Src.op 6 rfl rfl) Srcs.nil)) (S_plain rfl (op_invoke meth_49_Mul Tryz.call56 (c_Mul (by omega)) (Has.t rfl) ⟨(Has.t rfl), trivial⟩)) ?_
      refine D_step (Ei := [(10, _)]) rfl rfl (Srcs.cons (Src.pre rfl rfl) Srcs.nil) (S_plain rfl (op_ldBA Tryz.isAgg49 Tryz.sizeOf49 (Has.t rfl) (i := 5) rfl rfl rfl)) ?_
      refine D_step (Ei := [(52, _)]) rfl rfl (Srcs.cons (Src.op 8 rfl rfl) Srcs.nil) (S_plain rfl (op_iface mkif_49 (Has.t rfl))) ?_
      refine D_step (Ei := [(4, _)]) rfl rfl (Srcs.cons (Src.pre rfl rfl) Srcs.nil) (S_plain rfl (op_ldBA Tryz.isAgg49 Tryz.sizeOf49 (Has.t rfl) (i := 1) rfl rfl rfl)) ?_
      refine D_step (Ei := [(54, _)]) rfl rfl (Srcs.cons (Src.op 10 rfl rfl) Srcs.nil) (S_plain rfl (op_iface mkif_49 (Has.t rfl))) ?_
      refine D_step (Ei := [(9, _)]) rfl rfl (Srcs.cons (Src.pre rfl rfl) Srcs.nil) (S_plain rfl (op_move (Has.t rfl))) ?_
      refine D_step (Ei := [(56, _)]) rfl rfl (Srcs.cons (Src.op 12 rfl rfl) Srcs.nil) (S_plain rfl (op_idx Tryz.runUnderlying31 Tryz.sizeOf30 (Has.t rfl) (Has.cN 0) rfl (map_get (getD_some (d := []) (by omega))))) ?_
      refine D_step (Ei := [(57, _)]) rfl rfl (Srcs.cons (Src.op 13 rfl rfl) Srcs.nil) (S_plain rfl (op_ld Tryz.isAgg30 Tryz.sizeOf30 (Has.t rfl))) ?_
      refine D_step (Ei := [(58, _)]) rfl rfl (Srcs.cons (Src.op 14 rfl rfl) Srcs.nil) (S_plain rfl (op_idx Tryz.runUnderlying30 Tryz.sizeOf49 (Has.t rfl) (Has.cN 0) rfl (map_get (getD_some (d := Qi.zero) (by rw [hr0]; decide))))) ?_
      refine D_step (Ei := [(59, _)]) rfl rfl (Srcs.cons (Src.op 15 rfl rfl) Srcs.nil) (S_plain rfl (op_ld Tryz.isAgg49 Tryz.sizeOf49 (Has.t rfl))) ?_
      refine D_step (Ei := [(55, _), (60, _)]) rfl rfl (Srcs.cons (Src.op 11 rfl rfl) (Srcs.cons (Src.op 16 rfl rfl) Srcs.nil)) (S_plain rfl (op_invoke meth_49_Mul Tryz.call56 (c_Mul (by omega)) (Has.t rfl) ⟨(Has.t rfl), trivial⟩)) ?_
      refine D_done mixed rfl (by kernel_rfl) (F_val (F_val (F_val (F_val (F_val (F_val (F_val (F_val (F_val (F_val (F_val (F_val (F_val (F_val (F_val (F_val (F_val (F_val (F_nil ?_)))))))))))))))))))
      refine R_op rfl rfl rfl (op_invoke meth_49_Sub Tryz.call58 (c_Sub (by omega)) (Has.t rfl) ⟨(Has.t rfl), trivial⟩) ?_
      refine R_op rfl rfl rfl (op_bslice (xs := [.tmp 51, .tmp 62]) Tryz.runUnderlying30 Tryz.sizeOf49 Tryz.zeroValue49 (Elems.cons (Has.t rfl) (Elems.cons (Has.t rfl) Elems.nil)) rfl rfl rfl) ?_
      refine R_op rfl rfl rfl (op_bslice (xs := [.tmp 63]) Tryz.runUnderlying31 Tryz.sizeOf30 Tryz.zeroValue30 (Elems.cons (Has.t rfl) Elems.nil) rfl rfl rfl) ?_
      refine R_op rfl rfl rfl (op_assign (Has.t rfl)) ?_
      refine R_nil ?_
      refine T_seq ?_
      refine T_sub (E' := [(3, _), (4, _), (5, _), (6, _), (7, _), (8, _), (9, _), (10, _), (11, _), (13, _)]) (Sub.cons rfl (Sub.cons rfl (Sub.cons rfl (Sub.cons rfl (Sub.cons rfl (Sub.cons rfl (Sub.cons rfl (Sub.cons rfl (Sub.cons rfl (Sub.cons rfl Sub.nil)))))))))) ?_
      refine T_region ?_
      refine R_op rfl rfl rfl (op_move (Has.t rfl)) ?_
      refine R_op rfl rfl rfl (op_fldB fa_35_1 (Has.t rfl) rfl) ?_
      refine R_op rfl rfl rfl (op_ldB Tryz.isAgg31 Tryz.sizeOf31 (Has.t rfl) (i := 0) rfl rfl) ?_
      refine R_op rfl rfl rfl (op_call Tryz.call82 (c_car (p := facW s g) (c := c) (n := 1) (m := 2) (L := 2 * L + 4) hW hch hWf (hc.le (by omega)) (by omega) (by omega) (by decide) (by decide) (by decide) (by decide)) ⟨(Has.t rfl), (Has.t rfl), trivial⟩) ?_
      refine R_op rfl rfl rfl (op_idx Tryz.runUnderlying31 Tryz.sizeOf30 (Has.t rfl) (Has.cN 0) rfl (map_get (getD_some (d := []) (by rw [hXs.1]; decide)))) ?_
      refine R_op rfl rfl rfl (op_ld Tryz.isAgg30 Tryz.sizeOf30 (Has.t rfl)) ?_
      refine R_op rfl rfl rfl (op_idx Tryz.runUnderlying30 Tryz.sizeOf49 (Has.t rfl) (Has.cN 0) rfl (map_get (getD_some (d := Qi.zero) (by rw [hX0]; decide)))) ?_
      refine R_op rfl rfl rfl (op_ld Tryz.isAgg49 Tryz.sizeOf49 (Has.t rfl)) ?_
      refine R_new rfl rfl rfl (new_alloc (Ts := [Is (.bool false), Is (.slice none 0 0), Is (.bool false), Is (.slice none 0 0), Is (.slice none 0 0)]) Tryz.zeroValue49 rfl (fun V => Cells.cons' ⟨rfl, trivial⟩ (Cells.cons' ⟨rfl, trivial⟩ (Cells.cons' ⟨rfl, trivial⟩ (Cells.cons' ⟨rfl, trivial⟩ (Cells.cons' ⟨rfl, trivial⟩ (Cells.nil))))))) (fun B14 => ?_)
      refine R_stA Tryz.sizeOf49 (Has.t rfl) (Has.t rfl) rfl (i := 7) rfl (Nat.le_of_ble_eq_true rfl) rfl rfl ?_
      refine R_nil ?_
      refine T_seq ?_
      refine T_sub (E' := [(3, _), (4, _), (5, _), (6, _), (7, _), (8, _), (9, _), (10, _), (11, _), (14, _)]) (Sub.cons rfl (Sub.cons rfl (Sub.cons rfl (Sub.cons rfl (Sub.cons rfl (Sub.cons rfl (Sub.cons rfl (Sub.cons rfl (Sub.cons rfl (Sub.cons rfl Sub.nil)))))))))) ?_
      refine D_start (m := 32) ?_
      refine D_step (Ei := [(9, _)]) rfl rfl (Srcs.cons (Src.pre rfl rfl) Srcs.nil) (S_plain rfl (op_move (Has.t rfl))) ?_
      refine D_step (Ei := [(73, _)]) rfl rfl (Srcs.cons (Src.op 0 rfl rfl) Srcs.nil) (S_plain rfl (op_idx Tryz.runUnderlying31 Tryz.sizeOf30 (Has.t rfl) (Has.cN 1) rfl (map_get (getD_some (d := []) (by omega))))) ?_
      refine D_step (Ei := [(74, _)]) rfl rfl (Srcs.cons (Src.op 1 rfl rfl) Srcs.nil) (S_plain rfl (op_ld Tryz.isAgg30 Tryz.sizeOf30 (Has.t rfl))) ?_
      refine D_step (Ei := [(75, _)]) rfl rfl (Srcs.cons (Src.op 2 rfl rfl) Srcs.nil) (S_plain rfl (op_idx Tryz.runUnderlying30 Tryz.sizeOf49 (Has.t rfl) (Has.cN 0) rfl (map_get (getD_some (d := Qi.zero) (by rw [hr1]; decide))))) ?_
      refine D_step (Ei := [(76, _)]) rfl rfl (Srcs.cons (Src.op 3 rfl rfl) Srcs.nil) (S_plain rfl (op_ld Tryz.isAgg49 Tryz.sizeOf49 (Has.t rfl))) ?_
      refine D_step (Ei := [(77, _)]) rfl rfl (Srcs.cons (Src.op 4 rfl rfl) Srcs.nil) (S_plain rfl (op_iface mkif_49 (Has.t rfl))) ?_
      refine D_step (Ei := [(9, _)]) rfl rfl (Srcs.cons (Src.pre rfl rfl) Srcs.nil) (S_plain rfl (op_move (Has.t rfl))) ?_
      refine D_step (Ei := [(79, _)]) rfl rfl (Srcs.cons (Src.op 6 rfl rfl) Srcs.nil) (S_plain rfl (op_idx Tryz.runUnderlying31 Tryz.sizeOf30 (Has.t rfl) (Has.cN 1) rfl (map_get (getD_some (d := []) (by omega))))) ?_
      refine D_step (Ei := [(80, _)]) rfl rfl (Srcs.cons (Src.op 7 rfl rfl) Srcs.nil) (S_plain rfl (op_ld Tryz.isAgg30 Tryz.sizeOf30 (Has.t rfl))) ?_
      refine D_step (Ei := [(81, _)]) rfl rfl (Srcs.cons (Src.op 8 rfl rfl) Srcs.nil) (S_plain rfl (op_idx Tryz.runUnderlying30 Tryz.sizeOf49 (Has.t rfl) (Has.cN 0) rfl (map_get (getD_some (d := Qi.zero) (by rw [hr1]; decide))))) ?_
      refine D_step (Ei := [(82, _)]) rfl rfl (Srcs.cons (Src.op 9 rfl rfl) Srcs.nil) (S_plain rfl (op_ld Tryz.isAgg49 Tryz.sizeOf49 (Has.t rfl))) ?_
      refine D_step (Ei := [(83, _)]) rfl rfl (Srcs.cons (Src.op 10 rfl rfl) Srcs.nil) (S_plain rfl (op_iface mkif_49 (Has.t rfl))) ?_
      refine D_step (Ei := [(84, _)]) rfl rfl (Srcs.cons (Src.op 11 rfl rfl) Srcs.nil) (S_plain rfl (op_invoke meth_49_Conj Tryz.call263 c_Conj (Has.t rfl) trivial)) ?_
      refine D_step (Ei := [(78, _), (85, _)]) rfl rfl (Srcs.cons (Src.op 5 rfl rfl) (Srcs.cons (Src.op 12 rfl rfl) Srcs.nil)) (S_plain rfl (op_invoke meth_49_Mul Tryz.call56 (c_Mul (by omega)) (Has.t rfl) ⟨(Has.t rfl), trivial⟩)) ?_
      refine D_step (Ei := [(86, _)]) rfl rfl (Srcs.cons (Src.op 13 rfl rfl) Srcs.nil) (S_plain rfl (op_iface mkif_49 (Has.t rfl))) ?_
      refine D_step (Ei := [(5, _)]) rfl rfl (Srcs.cons (Src.pre rfl rfl) Srcs.nil) (S_plain rfl (op_ldBA Tryz.isAgg49 Tryz.sizeOf49 (Has.t rfl) (i := 2) rfl rfl rfl)) ?_
      refine D_step (Ei := [(11, _)]) rfl rfl (Srcs.cons (Src.pre rfl rfl) Srcs.nil) (S_plain rfl (op_ldBA Tryz.isAgg49 Tryz.sizeOf49 (Has.t rfl) (i := 6) rfl rfl rfl)) ?_
      refine D_step (Ei := [(88, _), (89, _)]) rfl rfl (Srcs.cons (Src.op 15 rfl rfl) (Srcs.cons (Src.op 16 rfl rfl) Srcs.nil)) (S_plain rfl (op_call Tryz.call56 (c_Mul (by omega)) ⟨(Has.t rfl), (Has.t rfl), trivial⟩)) ?_
      refine D_step (Ei := [(90, _)]) rfl rfl (Srcs.cons (Src.op 17 rfl rfl) Srcs.nil) (S_plain rfl (op_call Tryz.call81 c_of ⟨(Has.t rfl), trivial⟩)) ?_
      refine D_step (Ei := [(87, _), (91, _)]) rfl rfl (Srcs.cons (Src.op 14 rfl rfl) (Srcs.cons (Src.op 18 rfl rfl) Srcs.nil)) (S_plain rfl (op_invoke meth_49_Mul Tryz.call56 (c_Mul (by omega)) (Has.t rfl) ⟨(Has.t rfl), trivial⟩)) ?_
      refine D_step (Ei := [(92, _)]) rfl rfl (Srcs.cons (Src.op 19 rfl rfl) Srcs.nil) (S_plain rfl (op_iface mkif_49 (Has.t rfl))) ?_
      refine D_step (Ei := [(10, _)]) rfl rfl (Srcs.cons (Src.pre rfl rfl) Srcs.nil) (S_plain rfl (op_ldBA Tryz.isAgg49 Tryz.sizeOf49 (Has.t rfl) (i := 5) rfl rfl rfl)) ?_
      refine D_step (Ei := [(94, _)]) rfl rfl (Srcs.cons (Src.op 21 rfl rfl) Srcs.nil) (S_plain rfl (op_iface mkif_49 (Has.t rfl))) ?_
      refine D_step (Ei := [(4, _)]) rfl rfl (Srcs.cons (Src.pre rfl rfl) Srcs.nil) (S_plain rfl (op_ldBA Tryz.isAgg49 Tryz.sizeOf49 (Has.t rfl) (i := 1) rfl rfl rfl)) ?_
      refine D_step (Ei := [(96, _)]) rfl rfl (Srcs.cons (Src.op 23 rfl rfl) Srcs.nil) (S_plain rfl (op_iface mkif_49 (Has.t rfl))) ?_
      refine D_step (Ei := [(4, _)]) rfl rfl (Srcs.cons (Src.pre rfl rfl) Srcs.nil) (S_plain rfl (op_ldBA Tryz.isAgg49 Tryz.sizeOf49 (Has.t rfl) (i := 1) rfl rfl rfl)) ?_
      refine D_step (Ei := [(98, _)]) rfl rfl (Srcs.cons (Src.op 25 rfl rfl) Srcs.nil) (S_plain rfl (op_iface mkif_49 (Has.t rfl))) ?_
      refine D_step (Ei := [(99, _)]) rfl rfl (Srcs.cons (Src.op 26 rfl rfl) Srcs.nil) (S_plain rfl (op_invoke meth_49_Conj Tryz.call263 c_Conj (Has.t rfl) trivial)) ?_
      refine D_step (Ei := [(97, _), (100, _)]) rfl rfl (Srcs.cons (Src.op 24 rfl rfl) (Srcs.cons (Src.op 27 rfl rfl) Srcs.nil)) (S_plain rfl (op_invoke meth_49_Mul Tryz.call56 (c_Mul (by omega)) (Has.t rfl) ⟨(Has.t rfl), trivial⟩)) ?_
      refine D_step (Ei := [(95, _), (101, _)]) rfl rfl (Srcs.cons (Src.op 22 rfl rfl) (Srcs.cons (Src.op 28 rfl rfl) Srcs.nil)) (S_plain rfl (op_invoke meth_49_Sub Tryz.call58 (c_Sub (by omega)) (Has.t rfl) ⟨(Has.t rfl), trivial⟩)) ?_
      refine D_step (Ei := [(93, _), (102, _)]) rfl rfl (Srcs.cons (Src.op 20 rfl rfl) (Srcs.cons (Src.op 29 rfl rfl) Srcs.nil)) (S_plain rfl (op_invoke meth_49_Mul Tryz.call56 (c_Mul (by omega)) (Has.t rfl) ⟨(Has.t rfl), trivial⟩)) ?_
      refine D_new (Ei := []) rfl rfl rfl Srcs.nil (new_alloc (Ts := [Is (.bool false), Is (.slice none 0 0), Is (.bool false), Is (.slice none 0 0), Is (.slice none 0 0)]) Tryz.zeroValue49 rfl (fun V => Cells.cons' ⟨rfl, trivial⟩ (Cells.cons' ⟨rfl, trivial⟩ (Cells.cons' ⟨rfl, trivial⟩ (Cells.cons' ⟨rfl, trivial⟩ (Cells.cons' ⟨rfl, trivial⟩ (Cells.nil))))))) ?_
      refine D_done mixed rfl (by kernel_rfl) (F_val (F_val (F_val (F_val (F_val (F_val (F_val (F_val (F_val (F_val (F_val (F_val (F_val (F_val (F_val (F_val (F_val (F_val (F_val (F_val (F_val (F_val (F_val (F_val (F_val (F_val (F_val (F_val (F_val (F_val (F_val (F_new (fun B15 => F_nil ?_)))))))))))))))))))))))))))))))))
      refine R_stA Tryz.sizeOf49 (Has.t rfl) (Has.t rfl) rfl (i := 8) rfl (Nat.le_of_ble_eq_true rfl) rfl rfl ?_
      refine R_nil ?_
      refine T_seq ?_
      refine T_sub (E' := [(6, _), (7, _), (8, _), (10, _), (14, _), (15, _)]) (Sub.cons rfl (Sub.cons rfl (Sub.cons rfl (Sub.cons rfl (Sub.cons rfl (Sub.cons rfl Sub.nil)))))) ?_
      refine T_region ?_
      refine R_op rfl rfl rfl (op_ldBA Tryz.isAgg49 Tryz.sizeOf49 (Has.t rfl) (i := 7) rfl rfl rfl) ?_
      refine R_op rfl rfl rfl (op_iface mkif_49 (Has.t rfl)) ?_
      refine R_op rfl rfl rfl (op_ldBA Tryz.isAgg49 Tryz.sizeOf49 (Has.t rfl) (i := 8) rfl rfl rfl) ?_
      refine R_op rfl rfl rfl (op_invoke meth_49_Div Tryz.call174 (c_Div (x := facX s c g) (y := gm s 1 0 * (gm s 1 0).conj * (t0 * pkv z ((1 : Nat) : Int)) * (oneQ - g * g.conj)) (by omega)) (Has.t rfl) ⟨(Has.t rfl), trivial⟩) ?_
      refine R_op rfl rfl rfl (op_move (Has.t rfl)) ?_
      refine R_op rfl rfl rfl (op_extract (Has.t rfl) rfl) ?_
      refine R_op rfl rfl rfl (op_extract (Has.t rfl) rfl) ?_
      refine R_new rfl rfl rfl (new_alloc (Ts := [Is (.bool false), Is (.slice none 0 0), Is (.bool false), Is (.slice none 0 0), Is (.slice none 0 0)]) Tryz.zeroValue49 rfl (fun V => Cells.cons' ⟨rfl, trivial⟩ (Cells.cons' ⟨rfl, trivial⟩ (Cells.cons' ⟨rfl, trivial⟩ (Cells.cons' ⟨rfl, trivial⟩ (Cells.cons' ⟨rfl, trivial⟩ (Cells.nil))))))) (fun B16 => ?_)
      refine R_stA Tryz.sizeOf49 (Has.t rfl) (Has.t rfl) rfl (i := 9) rfl (Nat.le_of_ble_eq_true rfl) rfl rfl ?_
      refine R_op rfl rfl rfl (op_assign (Has.t rfl)) ?_
      refine R_nil ?_
      refine T_seq ?_
      refine T_seq ?_
      refine T_sub (E' := [(6, _), (7, _), (8, _), (10, _), (16, _), (17, _)]) (Sub.cons rfl (Sub.cons rfl (Sub.cons rfl (Sub.cons rfl (Sub.cons rfl (Sub.cons rfl Sub.nil)))))) ?_
      refine T_region ?_
      refine R_op rfl rfl rfl (op_move (Has.t rfl)) ?_
      refine R_op rfl rfl rfl (op_neq (Has.t rfl) Has.c) ?_
      refine R_nil ?_
      refine T_cond (Has.t rfl) (fun hk => ?_) (fun hk => ?_)
      · rw [hpd] at hk
        have hk2 : facD z s g t0 = Qi.zero := by
          by_cases h : facD z s g t0 = Qi.zero
          · exact h
          · rw [if_neg h] at hk; exact absurd hk (by decide)
        have he : facR z s c g t0 = (Qi.zero, 3) := by rw [facR, if_neg hb2, if_neg hd3, if_pos hk2]
        refine T_seq ?_
        refine T_region ?_
        refine R_op rfl rfl rfl (op_ldBA Tryz.isAgg49 Tryz.sizeOf49 (Has.t rfl) (i := 4) rfl rfl rfl) ?_
        refine R_stA Tryz.sizeOf49 (Has.t rfl) (Has.t rfl) rfl (i := 3) rfl (Nat.le_of_ble_eq_true rfl) rfl rfl ?_
        refine R_op rfl rfl rfl (op_assign (Has.cN 3)) ?_
        refine R_nil ?_
        refine T_ret2 rfl (rv_to (rv_cell Tryz.isAgg49 Tryz.sizeOf49 rfl (i := 3) rfl rfl) ?_) (rv_to (rv_tmp rfl) ?_)
        · exact (fun v V k => by rw [he]; exact num_zero v V k)
        · exact (fun v V k => by rw [he]; exact k)
      · have hk2 : ¬ facD z s g t0 = Qi.zero := fun h => by rw [hpd, if_pos h] at hk; exact absurd hk (by decide)
        have he : facR z s c g t0 = (oneQ + facX s c g / facD z s g t0, 0) := by rw [facR, if_neg hb2, if_neg hd3, if_neg hk2]
        have hv : oneQ + facX s c g / (gm s 1 0 * (gm s 1 0).conj * (t0 * pkv z ((1 : Nat) : Int)) * (oneQ - g * g.conj)) = (facR z s c g t0).1 := by rw [he, hpd]
        refine T_skip ?_
        refine T_seq ?_
        refine T_region ?_
        refine R_op rfl rfl rfl (op_ldBA Tryz.isAgg49 Tryz.sizeOf49 (Has.t rfl) (i := 5) rfl rfl rfl) ?_
        refine R_op rfl rfl rfl (op_iface mkif_49 (Has.t rfl)) ?_
        refine R_op rfl rfl rfl (op_ldBA Tryz.isAgg49 Tryz.sizeOf49 (Has.t rfl) (i := 9) rfl rfl rfl) ?_
        refine R_op rfl rfl rfl (op_invoke meth_49_Add Tryz.call59 (c_Add (by omega)) (Has.t rfl) ⟨(Has.t rfl), trivial⟩) ?_
        refine R_stA Tryz.sizeOf49 (Has.t rfl) (Has.t rfl) rfl (i := 3) rfl (Nat.le_of_ble_eq_true rfl) rfl rfl ?_
        refine R_op rfl rfl rfl (op_assign (Has.cN 0)) ?_
        refine R_nil ?_
        refine T_ret2 rfl (rv_to (rv_cell Tryz.isAgg49 Tryz.sizeOf49 rfl (i := 3) rfl rfl) ?_) (rv_to (rv_tmp rfl) ?_)
        · exact (num_of hv)
        · exact (fun v V k => by rw [he]; exact k)
end Go.Proofs.YtppibhcfaahgpaaGreat
namespace Go.Proofs.YtppibhcfaahgpaaGreat
open Go Go.RowKit
theorem flat_app (a b : List Value) : flat (a ++ b) = flat a ++ flat b := by simp [flat]
theorem flat_tk {s : Nat} {xs : List Value} (h : ∀ x, x ∈ xs → x.cells.size = s) (k : Nat) (hk : k ≤ xs.length) : flat (xs.take k) = (flat xs).take (k * s) := by
  have h1 : (flat (xs.take k)).length = k * s := by rw [flat_len _ (fun x hx => h x (List.mem_of_mem_take hx))]; simp [Nat.min_eq_left hk]
  have h2 : flat xs = flat (xs.take k) ++ flat (xs.drop k) := by rw [← flat_app, List.take_append_drop]
  rw [h2, List.take_left' h1]
theorem flat_dr {s : Nat} {xs : List Value} (h : ∀ x, x ∈ xs → x.cells.size = s) (k : Nat) (hk : k ≤ xs.length) : flat (xs.drop k) = (flat xs).drop (k * s) := by
  have h1 : (flat (xs.take k)).length = k * s := by rw [flat_len _ (fun x hx => h x (List.mem_of_mem_take hx))]; simp [Nat.min_eq_left hk]
  have h2 : flat xs = flat (xs.take k) ++ flat (xs.drop k) := by rw [← flat_app, List.take_append_drop]
  rw [h2, List.drop_left' h1]
theorem all_rep {T : Ty} {V : View} : ∀ {xs : List Value} {m : Nat}, (∀ x, x ∈ xs → T.p x V) → xs.length = m → AllT (List.replicate m T) xs V
  | [], 0, _, _ => trivial
  | x :: xs, m + 1, h, hl => ⟨h x (by simp), all_rep (fun y hy => h y (by simp [hy])) (by simpa using hl)⟩
theorem rep_all {T : Ty} {V : View} {xs : List Value} {m : Nat} (h : AllT (List.replicate m T) xs V) : ∀ x, x ∈ xs → T.p x V := fun x hx => by
  obtain ⟨U, h1, h2⟩ := h.mem x hx
  rw [(List.mem_replicate.1 h1).2] at h2; exact h2
def SecT (s : Nat) (v : Value) (lo len : Nat) : Ty := ⟨fun u _ => ∃ g l0 cap, v = .slice (some ⟨g, 0, none⟩) l0 cap ∧ lo + len ≤ l0 ∧ l0 ≤ cap ∧ u = .slice (some ⟨g, lo * s, none⟩) len (cap - lo), fun h _ => h⟩
instance shSec (s : Nat) (v : Value) (lo len : Nat) : Shape (SecT s v lo len) 1 false := shape_one fun u V h => by obtain ⟨_, _, _, _, _, _, rfl⟩ := h; trivial
section
variable {P : Program} {R : Post} {cx : Cx} {n : Nat} {k : List It} {E : Env} {H : Hp} {ops : Array Oper} {o : Oper} {rest : List Oper}
variable {d : Option Tmp} {t : TypeId} {pos : String} {af : Array Edge} {g : Option (Nat × Bool)}
theorem op_secLo {x lo : Operand} {i e e' s q : Nat} {v : Value} {Ts : List Ty} {kd : IntKind} {j : Int} (hU : ∀ w, (underlying t).run P w = .ok (.slice e) w) (hS : ∀ w, (sizeOf e).run P w = .ok s w)
    (hx : Has E x (Is v)) (hlo : Has E lo (IntT kd j)) (hj : j = (q : Int)) (hH : H[i]? = some (rowO e' s v Ts)) (hq : q < Ts.length) {t' : TypeId} : OpTy P n E H ⟨d, .slice t x (some lo) none none, t', pos, af, g⟩ (SecT s v q (Ts.length - q)) :=
  op_readO hH fun a V w S hA _ hs => by
    have e1 : a.eval x = v := hx n V a hs
    have e2 : a.eval lo = .int kd j := hlo n V a hs
    subst hj
    obtain ⟨xs, _, h2⟩ := hA
    rcases h2 with ⟨_, h0, _⟩ | ⟨g1, cap, cur, rfl, _, _, hle, _⟩
    · subst h0; simp at hq
    · refine ⟨.slice (some ⟨g1, q * s, none⟩) (Ts.length - q) (cap - q), ?_, g1, Ts.length, cap, rfl, by omega, hle, rfl⟩
      have hne : ¬ cap = q := by omega
      have hb : q ≤ Ts.length := by omega
      simp [execOp, e1, e2, Instr.sliceAt, Instr.slice, Instr.sliceBounds, Instr.sliceBound, asIntOf, Sem.run_bind, hU, hS, Result.andThen, hb, hne, Addr.add, hle]
      try exact fun h => h.symm
theorem op_secHi {x hi : Operand} {i e e' s q : Nat} {v : Value} {Ts : List Ty} {kd : IntKind} {j : Int} (hU : ∀ w, (underlying t).run P w = .ok (.slice e) w) (hS : ∀ w, (sizeOf e).run P w = .ok s w)
    (hx : Has E x (Is v)) (hhi : Has E hi (IntT kd j)) (hj : j = (q : Int)) (hH : H[i]? = some (rowO e' s v Ts)) (hq : q ≤ Ts.length) (h0 : 0 < Ts.length) {t' : TypeId} : OpTy P n E H ⟨d, .slice t x none (some hi) none, t', pos, af, g⟩ (SecT s v 0 q) :=
  op_readO hH fun a V w S hA _ hs => by
    have e1 : a.eval x = v := hx n V a hs
    have e2 : a.eval hi = .int kd j := hhi n V a hs
    subst hj
    obtain ⟨xs, _, h2⟩ := hA
    rcases h2 with ⟨_, h1, _⟩ | ⟨g1, cap, cur, rfl, _, _, hle, _⟩
    · subst h1; simp at h0
    · refine ⟨.slice (some ⟨g1, 0, none⟩) q cap, ?_, g1, Ts.length, cap, rfl, by omega, hle, by simp⟩
      have hb : q ≤ cap := by omega
      simp [execOp, e1, e2, Instr.sliceAt, Instr.slice, Instr.sliceBounds, Instr.sliceBound, asIntOf, Sem.run_bind, hU, hS, Result.andThen, hb, Addr.add]
theorem copy_core {x y : Operand} {i e e' s m lo p q : Nat} {ta tb : TypeId} {v : Value} {T : Ty} {a : Act} {w : World} {V : View} {b0 o0 cp dd : Nat} {ys : List Value} {t' : TypeId} (hU : ∀ w, (underlying ta).run P w = .ok (.slice e) w) (hS : ∀ w, (sizeOf e).run P w = .ok s w)
    (hinv : Inv cx V H w) (hH : H[i]? = some (rowO e' s v (List.replicate m T))) (hxv : (SecT s v lo p).p (a.eval x) V) (ey : a.eval y = .slice (some ⟨b0, o0, none⟩) q cp)
    (hrow : Row s (List.replicate q T) ys V) (hcells : ∀ (j : Nat) u, (flat ys)[j]? = some u → w.cell? ((⟨b0, o0, none⟩ : Addr).add j) = some u) :
    ∃ w', (execOp a.eval ⟨some dd, .call ⟨.builtin .copy, #[x, y], #[ta, tb]⟩, t', pos, af, g⟩).run P w = .ok (.value (goInt (Nat.min q p))) w' ∧ Inv cx V H w' := by
  obtain ⟨S, hR⟩ := (show HH cx.w0.heap.size w V (H ++ []) by simpa using hinv.hp).get hH
  obtain ⟨xs, hrx, h2⟩ := hR
  obtain ⟨g1, l0, cap0, hv, hlo, hlc, ex⟩ := hxv
  rcases h2 with ⟨h0, _⟩ | ⟨g2, cap, cur, h3, hS', hg, hle, hcm, hcs, htake⟩
  · rw [hv] at h0; cases h0
  rw [hv] at h3
  simp only [Value.slice.injEq, Option.some.injEq, Addr.mk.injEq, List.length_replicate] at h3
  obtain ⟨⟨rfl, _⟩, rfl, rfl⟩ := h3
  simp only [List.length_replicate] at hle htake
  have hk1 : Nat.min q p ≤ q := Nat.min_le_left _ _
  have hk2 : Nat.min q p ≤ p := Nat.min_le_right _ _
  generalize hkk : Nat.min q p = k at hk1 hk2
  have hyl : ys.length = q := by rw [hrow.all.length]; simp
  have hxl : xs.length = l0 := by rw [hrx.all.length]; simp
  have hyk : ∀ z, z ∈ ys.take k → z.cells.size = s := fun z hz => hrow.size z (List.mem_of_mem_take hz)
  have hfl : (flat (ys.take k)).length = k * s := by rw [flat_len _ hyk]; simp [Nat.min_eq_left (show k ≤ ys.length by omega)]
  have hg' : w.heap[g1]? = some (.cells cur e' (0, 0)) := hg
  have h1s : (lo + k) * s ≤ l0 * s := Nat.mul_le_mul_right _ (by omega)
  have h2s : l0 * s ≤ cap0 * s := Nat.mul_le_mul_right _ hle
  have h3s : (lo + k) * s = lo * s + k * s := Nat.add_mul _ _ _
  have hpl : ∀ u, u ∈ flat (ys.take k) → Plain u := fun u hu => by
    obtain ⟨z, hz, hu'⟩ := flat_mem.1 hu
    exact hrow.plain u (flat_mem.2 ⟨z, List.mem_of_mem_take hz, hu'⟩)
  obtain ⟨w', q1, ⟨c', q2, q2'⟩, q3, q4, q5, q6, q7⟩ := run_stores (P := P) (flat (ys.take k)) (lo * s) 0 w cur hg' (by rw [hfl]; omega) hpl
  have hf := run_firstCells_some (P := P) w s k ⟨b0, o0, none⟩ q cp (flat (ys.take k)) hfl (fun j u hu => hcells j u (by
    rw [flat_tk hrow.size k (by omega), List.getElem?_take] at hu
    split at hu
    · exact hu
    · cases hu))
  refine ⟨w', ?_, ?_⟩
  · simp [execOp, resolve, invoke, builtin, ex, ey, Builtin.copy_, Builtin.lenOf, Sem.run_bind, hU, hS, Result.andThen, hkk, hf, q1]
  · have hset : H.set i (rowO e' s v (List.replicate l0 T)) = H := by
      apply List.ext_getElem?
      intro j
      by_cases c : i = j
      · subst c; rw [List.getElem?_set_self (List.getElem?_eq_some_iff.1 hH).1, hH]
      · rw [List.getElem?_set_ne c]
    rw [← hset]
    refine hinv.upd hH q4 q5 q6 q7 (fun S2 hS2 => ?_)
    obtain ⟨xs2, hrx2, h4⟩ := hS2
    rcases h4 with ⟨h0, _⟩ | ⟨g3, cap3, cur3, h5, hS3, hg3, hle3, hcm3, hcs3, htake3⟩
    · rw [hv] at h0; cases h0
    rw [hv] at h5
    simp only [Value.slice.injEq, Option.some.injEq, Addr.mk.injEq] at h5
    obtain ⟨⟨rfl, _⟩, _, rfl⟩ := h5
    have hg4 : w.heap[g1]? = some (.cells cur3 e' (0, 0)) := hg3
    rw [hg'] at hg4; simp at hg4; subst hg4
    subst hS3
    have hx2l : xs2.length = l0 := by rw [hrx2.all.length]; simp
    simp only [List.length_replicate] at htake3
    refine ⟨fun b hb => q3 b (by simpa using hb), xs2.take lo ++ ys.take k ++ xs2.drop (lo + k), ⟨all_rep (fun z hz => ?_) ?_, fun z hz => ?_, fun u hu => ?_⟩, .inr ⟨g1, cap0, c', by rw [hv]; simp, rfl, q2, by simpa using hle, hcm, ?_, ?_⟩⟩
    · simp only [List.mem_append] at hz
      rcases hz with (hz | hz) | hz
      · exact rep_all hrx2.all z (List.mem_of_mem_take hz)
      · exact rep_all hrow.all z (List.mem_of_mem_take hz)
      · exact rep_all hrx2.all z (List.mem_of_mem_drop hz)
    · simp only [List.length_append, List.length_take, List.length_drop]; omega
    · simp only [List.mem_append] at hz
      rcases hz with (hz | hz) | hz
      · exact hrx2.size z (List.mem_of_mem_take hz)
      · exact hrow.size z (List.mem_of_mem_take hz)
      · exact hrx2.size z (List.mem_of_mem_drop hz)
    · obtain ⟨z, hz, hu'⟩ := flat_mem.1 hu
      simp only [List.mem_append] at hz
      rcases hz with (hz | hz) | hz
      · exact hrx2.plain u (flat_mem.2 ⟨z, List.mem_of_mem_take hz, hu'⟩)
      · exact hrow.plain u (flat_mem.2 ⟨z, List.mem_of_mem_take hz, hu'⟩)
      · exact hrx2.plain u (flat_mem.2 ⟨z, List.mem_of_mem_drop hz, hu'⟩)
    · have : c'.toList.length = cur.toList.length := by
        rw [q2']; simp only [List.length_append, List.length_take, List.length_drop, Array.length_toList, hfl]; omega
      simpa [hcs] using this
    · rw [q2', flat_app, flat_app, flat_tk hrx2.size lo (by omega), flat_dr hrx2.size (lo + k) (by omega), ← htake3, List.length_replicate, h3s]
      simp only [Nat.add_zero, hfl]
      exact take_put _ _ _ _ _ hfl (by omega) (by simp only [Array.length_toList]; omega)
theorem op_copySec {x y : Operand} {i e e' s m lo p q : Nat} {ta tb : TypeId} {v : Value} {T : Ty} {dd : Nat} (hU : ∀ w, (underlying ta).run P w = .ok (.slice e) w) (hS : ∀ w, (sizeOf e).run P w = .ok s w)
    (hH : H[i]? = some (rowO e' s v (List.replicate m T))) (hx : Has E x (SecT s v lo p)) (hy : Has E y (SecT s v 0 q)) {t' : TypeId} :
    OpTy P n E H ⟨some dd, .call ⟨.builtin .copy, #[x, y], #[ta, tb]⟩, t', pos, af, g⟩ (NT .i64 (Nat.min q p)) := fun cx X a w V hi hs K Q hK => by
  have hil := (List.getElem?_eq_some_iff.1 hH).1
  have hH' : (H ++ X)[i]? = some (rowO e' s v (List.replicate m T)) := by rw [List.getElem?_append_left hil]; exact hH
  obtain ⟨S, hR⟩ := (show HH cx.w0.heap.size w V ((H ++ X) ++ []) by simpa using hi.hp).get hH'
  obtain ⟨xs, hrx, h2⟩ := hR
  obtain ⟨g1, l0, cap0, hv, hlo, hlc, ey⟩ := hy n V a hs
  rcases h2 with ⟨h0, _⟩ | ⟨g2, cap, cur, h3, _, hg, hle, hcm, hcs, htake⟩
  · rw [hv] at h0; cases h0
  rw [hv] at h3
  simp only [Value.slice.injEq, Option.some.injEq, Addr.mk.injEq, List.length_replicate] at h3
  obtain ⟨⟨rfl, _⟩, rfl, rfl⟩ := h3
  have hxl : xs.length = l0 := by rw [hrx.all.length]; simp
  rw [Nat.zero_mul] at ey
  have hrow : Row s (List.replicate q T) (xs.take q) V := ⟨all_rep (fun z hz => rep_all hrx.all z (List.mem_of_mem_take hz)) (by simp; omega), fun z hz => hrx.size z (List.mem_of_mem_take hz), fun u hu => by
    obtain ⟨z, hz, hu'⟩ := flat_mem.1 hu; exact hrx.plain u (flat_mem.2 ⟨z, List.mem_of_mem_take hz, hu'⟩)⟩
  obtain ⟨w', h1, h4⟩ := copy_core (dd := dd) (pos := pos) (af := af) (g := g) (t' := t') (tb := tb) hU hS hi hH' (hx n V a hs) ey hrow (fun j u hu => by
    rw [flat_tk hrx.size q (by omega), ← htake, List.getElem?_take, List.getElem?_take] at hu
    split at hu
    · split at hu
      · rw [add_plain, cell_of_heap (show w.heap[g1]? = some (.cells cur e' (0, 0)) from hg), Nat.zero_add]; simpa using hu
      · cases hu
    · cases hu)
  simp only [Oper.wp, h1, Oper.upon_value]
  exact hK _ w' V h4 (VLe.refl V) rfl
theorem op_copyV {x y : Operand} {i e e' s m q : Nat} {ta tb : TypeId} {v : Value} {T : Ty} {dd : Nat} (hU : ∀ w, (underlying ta).run P w = .ok (.slice e) w) (hS : ∀ w, (sizeOf e).run P w = .ok s w)
    (hH : H[i]? = some (rowO e' s v (List.replicate m T))) (hx : Has E x (Is v)) (hy : Has E y (SlT s (List.replicate q T))) (hq : 0 < q) (hEl : El s T) (hm : 0 < m) {t' : TypeId} :
    OpTy P n E H ⟨some dd, .call ⟨.builtin .copy, #[x, y], #[ta, tb]⟩, t', pos, af, g⟩ (NT .i64 (Nat.min q m)) := fun cx X a w V hi hs K Q hK => by
  obtain ⟨b0, o0, cp, ys, ey, _, hrow, hcells⟩ := SlT.row (hy n V a hs) (by intro h; have := congrArg List.length h; simp at this; omega) (fun U hU => by rw [(List.mem_replicate.1 hU).2]; exact hEl)
  simp only [List.length_replicate] at ey
  have hil := (List.getElem?_eq_some_iff.1 hH).1
  have hH' : (H ++ X)[i]? = some (rowO e' s v (List.replicate m T)) := by rw [List.getElem?_append_left hil]; exact hH
  obtain ⟨S, hR⟩ := (show HH cx.w0.heap.size w V ((H ++ X) ++ []) by simpa using hi.hp).get hH'
  have hxv : (SecT s v 0 m).p (a.eval x) V := by
    obtain ⟨xs, _, h2⟩ := hR
    rcases h2 with ⟨_, h0, _⟩ | ⟨g1, cap, cur, hv, _, _, hle, _⟩
    · have := congrArg List.length h0; simp at this; omega
    · simp only [List.length_replicate] at hv hle
      have ex : a.eval x = v := hx n V a hs
      exact ⟨g1, m, cap, hv, by omega, hle, by rw [ex, hv]; simp⟩
  obtain ⟨w', h1, h2⟩ := copy_core (dd := dd) (pos := pos) (af := af) (g := g) (t' := t') (tb := tb) hU hS hi hH' hxv ey hrow (hcells w hi.on)
  simp only [Oper.wp, h1, Oper.upon_value]
  exact hK _ w' V h2 (VLe.refl V) rfl
end
end Go.Proofs.YtppibhcfaahgpaaGreat
namespace Go.Proofs.YtppibhcfaahgpaaGreat
open Go Go.RowKit
set_option maxRecDepth 20000 in
theorem c_Mul64 {n : Nat} (h : n < 4294967296) : Fun Tryz.prog 234 [NT .u64 1, NT .u64 n] (TupT [NT .u64 0, NT .u64 n]) := by
  refine Fun.intro Tryz.func234 rfl Tryz.ntmps234 rfl (fun cx => ?_)
  refine T_seq ?_
  refine T_region ?_
  refine R_op rfl rfl rfl (op_assign (Has.cN 0)) ?_
  refine R_op rfl rfl rfl (op_assign (Has.cN 0)) ?_
  refine R_nil ?_
  refine T_seq ?_
  refine T_region ?_
  refine R_op rfl rfl rfl (op_move (Has.t rfl)) ?_
  refine R_op rfl rfl rfl (OpTy.nat (op_andN rfl (Has.t rfl) (Has.cN 4294967295) (by show _ < 18446744073709551616; first | omega | (simp only [lim]; omega)) (by show _ < 18446744073709551616; first | omega | (simp only [lim]; omega))) (show (1 : Nat) &&& 4294967295 = 1 by decide)) ?_
  refine R_op rfl rfl rfl (op_assign (Has.t rfl)) ?_
  refine R_nil ?_
  refine T_seq ?_
  refine T_region ?_
  refine R_op rfl rfl rfl (op_move (Has.t rfl)) ?_
  refine R_op rfl rfl rfl (OpTy.nat (op_shrN (Has.t rfl) (Has.cN 32) (by decide)) (show (1 : Nat) / 2 ^ 32 = 0 by decide)) ?_
  refine R_op rfl rfl rfl (op_assign (Has.t rfl)) ?_
  refine R_nil ?_
  refine T_seq ?_
  refine T_region ?_
  refine R_op rfl rfl rfl (op_move (Has.t rfl)) ?_
  refine R_op rfl rfl rfl (OpTy.nat (op_andN rfl (Has.t rfl) (Has.cN 4294967295) (by show _ < 18446744073709551616; first | omega | (simp only [lim]; omega)) (by show _ < 18446744073709551616; first | omega | (simp only [lim]; omega))) (show n &&& 4294967295 = n from (Nat.and_two_pow_sub_one_eq_mod n 32).trans (Nat.mod_eq_of_lt h))) ?_
  refine R_op rfl rfl rfl (op_assign (Has.t rfl)) ?_
  refine R_nil ?_
  refine T_seq ?_
  refine T_region ?_
  refine R_op rfl rfl rfl (op_move (Has.t rfl)) ?_
  refine R_op rfl rfl rfl (OpTy.nat (op_shrN (Has.t rfl) (Has.cN 32) (by decide)) (show n / 2 ^ 32 = 0 from Nat.div_eq_of_lt h)) ?_
  refine R_op rfl rfl rfl (op_assign (Has.t rfl)) ?_
  refine R_nil ?_
  refine T_seq ?_
  refine T_region ?_
  refine R_op rfl rfl rfl (op_move (Has.t rfl)) ?_
  refine R_op rfl rfl rfl (op_move (Has.t rfl)) ?_
  refine R_op rfl rfl rfl (OpTy.nat (op_mulN (Has.t rfl) (Has.t rfl) (by show _ < 18446744073709551616; first | omega | (simp only [lim]; omega))) (Nat.one_mul n)) ?_
  refine R_op rfl rfl rfl (op_assign (Has.t rfl)) ?_
  refine R_nil ?_
  refine T_seq ?_
  refine T_region ?_
  refine R_op rfl rfl rfl (op_move (Has.t rfl)) ?_
  refine R_op rfl rfl rfl (op_move (Has.t rfl)) ?_
  refine R_op rfl rfl rfl (OpTy.nat (op_mulN (Has.t rfl) (Has.t rfl) (by show _ < 18446744073709551616; first | omega | (simp only [lim]; omega))) (Nat.zero_mul n)) ?_
  refine R_op rfl rfl rfl (op_move (Has.t rfl)) ?_
  refine R_op rfl rfl rfl (OpTy.nat (op_shrN (Has.t rfl) (Has.cN 32) (by decide)) (show n / 2 ^ 32 = 0 from Nat.div_eq_of_lt h)) ?_
  refine R_op rfl rfl rfl (op_addN (Has.t rfl) (Has.t rfl) (by show _ < 18446744073709551616; first | omega | (simp only [lim]; omega))) ?_
  refine R_op rfl rfl rfl (op_assign (Has.t rfl)) ?_
  refine R_nil ?_
  refine T_seq ?_
  refine T_region ?_
  refine R_op rfl rfl rfl (op_move (Has.t rfl)) ?_
  refine R_op rfl rfl rfl (OpTy.nat (op_andN rfl (Has.t rfl) (Has.cN 4294967295) (by show _ < 18446744073709551616; first | omega | (simp only [lim]; omega)) (by show _ < 18446744073709551616; first | omega | (simp only [lim]; omega))) (show (0 + 0 : Nat) &&& 4294967295 = 0 by decide)) ?_
  refine R_op rfl rfl rfl (op_assign (Has.t rfl)) ?_
  refine R_nil ?_
  refine T_seq ?_
  refine T_region ?_
  refine R_op rfl rfl rfl (op_move (Has.t rfl)) ?_
  refine R_op rfl rfl rfl (OpTy.nat (op_shrN (Has.t rfl) (Has.cN 32) (by decide)) (show (0 + 0 : Nat) / 2 ^ 32 = 0 by decide)) ?_
  refine R_op rfl rfl rfl (op_assign (Has.t rfl)) ?_
  refine R_nil ?_
  refine T_seq ?_
  refine T_region ?_
  refine R_op rfl rfl rfl (op_move (Has.t rfl)) ?_
  refine R_op rfl rfl rfl (op_move (Has.t rfl)) ?_
  refine R_op rfl rfl rfl (op_move (Has.t rfl)) ?_
  refine R_op rfl rfl rfl (OpTy.nat (op_mulN (Has.t rfl) (Has.t rfl) (by show _ < 18446744073709551616; first | omega | (simp only [lim]; omega))) (show (1 * 0 : Nat) = 0 by decide)) ?_
  refine R_op rfl rfl rfl (op_addN (Has.t rfl) (Has.t rfl) (by show _ < 18446744073709551616; first | omega | (simp only [lim]; omega))) ?_
  refine R_op rfl rfl rfl (op_assign (Has.t rfl)) ?_
  refine R_nil ?_
  refine T_seq ?_
  refine T_region ?_
  refine R_op rfl rfl rfl (op_move (Has.t rfl)) ?_
  refine R_op rfl rfl rfl (op_move (Has.t rfl)) ?_
  refine R_op rfl rfl rfl (OpTy.nat (op_mulN (Has.t rfl) (Has.t rfl) (by show _ < 18446744073709551616; first | omega | (simp only [lim]; omega))) (show (0 * 0 : Nat) = 0 by decide)) ?_
  refine R_op rfl rfl rfl (op_move (Has.t rfl)) ?_
  refine R_op rfl rfl rfl (op_addN (Has.t rfl) (Has.t rfl) (by show _ < 18446744073709551616; first | omega | (simp only [lim]; omega))) ?_
  refine R_op rfl rfl rfl (op_move (Has.t rfl)) ?_
  refine R_op rfl rfl rfl (OpTy.nat (op_shrN (Has.t rfl) (Has.cN 32) (by decide)) (show (0 + 0 : Nat) / 2 ^ 32 = 0 by decide)) ?_
  refine R_op rfl rfl rfl (op_addN (Has.t rfl) (Has.t rfl) (by show _ < 18446744073709551616; first | omega | (simp only [lim]; omega))) ?_
  refine R_op rfl rfl rfl (op_assign (Has.t rfl)) ?_
  refine R_nil ?_
  refine T_seq ?_
  refine T_region ?_
  refine R_op rfl rfl rfl (op_move (Has.t rfl)) ?_
  refine R_op rfl rfl rfl (op_move (Has.t rfl)) ?_
  refine R_op rfl rfl rfl (OpTy.nat (op_mulN (Has.t rfl) (Has.t rfl) (by show _ < 18446744073709551616; first | omega | (simp only [lim]; omega))) (Nat.one_mul n)) ?_
  refine R_op rfl rfl rfl (op_assign (Has.t rfl)) ?_
  refine R_nil ?_
  refine T_ret2 rfl (rv_to (rv_tmp rfl) ?_) (rv_tmp rfl)
  exact (nt_of (by decide))
set_option maxRecDepth 20000 in
theorem c_bMul {n : Nat} (h : n < 4294967296) : Fun Tryz.prog 209 [NT .u64 1, NT .u64 n] (TupT [NT .u64 0, NT .u64 n]) := by
  refine Fun.intro Tryz.func209 rfl Tryz.ntmps209 rfl (fun cx => ?_)
  refine T_seq ?_
  refine T_region ?_
  refine R_op rfl rfl rfl (op_assign (Has.cN 0)) ?_
  refine R_op rfl rfl rfl (op_assign (Has.cN 0)) ?_
  refine R_nil ?_
  refine T_seq ?_
  refine T_cond Has.c (fun hf => ?_) (fun hf => ?_)
  · exact absurd hf (by decide)
  · refine T_skip ?_
    refine T_seq ?_
    refine T_region ?_
    refine R_op rfl rfl rfl (op_move (Has.t rfl)) ?_
    refine R_op rfl rfl rfl (op_move (Has.t rfl)) ?_
    refine R_op rfl rfl rfl (op_call Tryz.call234 (c_Mul64 h) ⟨(Has.t rfl), (Has.t rfl), trivial⟩) ?_
    refine R_op rfl rfl rfl (op_move (Has.t rfl)) ?_
    refine R_op rfl rfl rfl (op_extract (Has.t rfl) rfl) ?_
    refine R_op rfl rfl rfl (op_extract (Has.t rfl) rfl) ?_
    refine R_op rfl rfl rfl (op_assign (Has.t rfl)) ?_
    refine R_op rfl rfl rfl (op_assign (Has.t rfl)) ?_
    refine R_nil ?_
    refine T_seq ?_
    refine T_region ?_
    refine R_op rfl rfl rfl (op_move (Has.t rfl)) ?_
    refine R_op rfl rfl rfl (op_move (Has.t rfl)) ?_
    refine R_op rfl rfl rfl (op_assign (Has.t rfl)) ?_
    refine R_op rfl rfl rfl (op_assign (Has.t rfl)) ?_
    refine R_nil ?_
    exact T_ret2 rfl (rv_tmp rfl) (rv_tmp rfl)
set_option maxRecDepth 20000 in
theorem c_RepO {m : Nat} (h1 : 1 ≤ m) (hm : m ≤ 1000) : FunO Tryz.prog 168 [NumsT [Qi.zero], NT .i64 m] [] ({v : Value // exactH v}) (fun v => Is v.1) (fun v => [rowO 49 5 v.1 ((tab m fun _ => Qi.zero).map NumT)]) (fun _ => True) := by
  refine FunO.intro Tryz.func168 rfl Tryz.ntmps168 rfl (fun cx Z => ?_)
  refine T_seq ?_
  refine T_region ?_
  refine R_op rfl rfl rfl (op_assign Has.c) ?_
  refine R_nil ?_
  refine T_seq ?_
  refine T_seq ?_
  refine T_region ?_
  refine R_op rfl rfl rfl (op_move (Has.t rfl)) ?_
  refine R_op rfl rfl rfl (op_lssN (Has.t rfl) (Has.cN 0)) ?_
  refine R_nil ?_
  refine T_cond (Has.t rfl) (fun h0 => ?_) (fun h0 => ?_)
  · simp only [decide_eq_true_eq] at h0
    omega
  · refine T_skip ?_
    refine T_seq ?_
    refine T_region ?_
    refine R_op rfl rfl rfl (op_move (Has.t rfl)) ?_
    refine R_op rfl rfl rfl (op_len Tryz.runUnderlying30 (Has.t rfl) (show (([Qi.zero].map NumT).length : Int) = ((1 : Nat) : Int) from rfl)) ?_
    refine R_op rfl rfl rfl (op_convN Tryz.runUnderlying3 Tryz.runUnderlying241 (Has.t rfl) (by show _ < 18446744073709551616; first | omega | (simp only [lim]; omega))) ?_
    refine R_op rfl rfl rfl (op_move (Has.t rfl)) ?_
    refine R_op rfl rfl rfl (op_convN Tryz.runUnderlying3 Tryz.runUnderlying241 (Has.t rfl) (by show _ < 18446744073709551616; first | omega | (simp only [lim]; omega))) ?_
    refine R_op rfl rfl rfl (op_call Tryz.call209 (c_bMul (by omega)) ⟨(Has.t rfl), (Has.t rfl), trivial⟩) ?_
    refine R_op rfl rfl rfl (op_move (Has.t rfl)) ?_
    refine R_op rfl rfl rfl (op_extract (Has.t rfl) rfl) ?_
    refine R_op rfl rfl rfl (op_extract (Has.t rfl) rfl) ?_
    refine R_op rfl rfl rfl (op_assign (Has.t rfl)) ?_
    refine R_op rfl rfl rfl (op_assign (Has.t rfl)) ?_
    refine R_nil ?_
    refine T_seq ?_
    refine T_seq ?_
    refine T_region ?_
    refine R_op rfl rfl rfl (op_move (Has.t rfl)) ?_
    refine R_op rfl rfl rfl (op_gtrN (Has.t rfl) (Has.cN 0)) ?_
    refine R_op rfl rfl rfl (op_move (Has.t rfl)) ?_
    refine R_step rfl rfl (S_when rfl rfl (Has.t rfl) (fun h => op_move (Has.t rfl))) ?_
    refine R_step rfl rfl (S_when rfl rfl (Has.t rfl) (fun h => op_gtrN (Has.w rfl h) (Has.cN 9223372036854775807))) ?_
    refine R_op rfl rfl rfl (op_or (Has.t rfl) (fun h => (Has.w rfl h))) ?_
    refine R_nil ?_
    refine T_cond (Has.t rfl) (fun h2 => ?_) (fun h2 => ?_)
    · simp only [Bool.or_eq_true, decide_eq_true_eq] at h2
      omega
    · refine T_skip ?_
      refine T_seq ?_
      refine T_region ?_
      refine R_op rfl rfl rfl (op_move (Has.t rfl)) ?_
      refine R_op rfl rfl rfl (op_convN Tryz.runUnderlying241 Tryz.runUnderlying3 (Has.t rfl) (by show _ < 9223372036854775808; first | omega | (simp only [lim]; omega))) ?_
      refine R_makeE (T := NumT Qi.zero) (i := Tryz.t49) und_30 info_49 rfl rfl (Has.t rfl) rfl num_zero_p (El.ag rfl) (by show 88 * _ ≤ _; omega) (by omega) rfl (fun B30 hB30 => ?_)
      refine R_op rfl rfl rfl (op_assign (Has.t rfl)) ?_
      refine R_nil ?_
      refine T_seq ?_
      refine T_region ?_
      refine R_op rfl rfl rfl (op_move (Has.t rfl)) ?_
      refine R_op rfl rfl rfl (op_move (Has.t rfl)) ?_
      refine R_op rfl rfl rfl (op_copyV (q := 1) (T := NumT Qi.zero) Tryz.runUnderlying30 Tryz.sizeOf49 (i := 1) rfl (Has.t rfl) (Has.t rfl) (by decide) (El.ag rfl) (by omega)) ?_
      refine R_op rfl rfl rfl (op_assign (Has.t rfl)) ?_
      refine R_nil ?_
      refine T_seq ?_
      refine T_block ?_
      refine T_loop (fun (k : Nat) => 1 ≤ k ∧ k ≤ m) (fun (k : Nat) => m - k) (fun (k : Nat) => [(7, Is B30), (8, NT .i64 k)]) (fun (k : Nat) => [Z, rowO 49 5 B30 (List.replicate m (NumT Qi.zero))]) (Nat.min 1 m) ⟨by show 1 ≤ min 1 m; omega, by show min 1 m ≤ m; omega⟩
        (Sub.cons rfl (Sub.cons rfl Sub.nil)) (HSub.refl _) (fun k ⟨hk1, hk⟩ => ?_)
      refine T_seq ?_
      refine T_seq ?_
      refine T_region ?_
      refine R_op rfl rfl rfl (op_move (Has.t rfl)) ?_
      refine R_op rfl rfl rfl (op_move (Has.t rfl)) ?_
      refine R_op rfl rfl rfl (op_lenO Tryz.runUnderlying30 (Has.t rfl) (i := 1) rfl (show ((List.replicate m (NumT Qi.zero)).length : Int) = ((m : Nat) : Int) by simp)) ?_
      refine R_op rfl rfl rfl (op_lssN (Has.t rfl) (Has.t rfl)) ?_
      refine R_nil ?_
      refine T_cond (Has.t rfl) (fun hd => ?_) (fun hd => ?_)
      · simp only [decide_eq_true_eq] at hd
        have hlen : (List.replicate m (NumT Qi.zero)).length = m := by simp
        have h5 : Nat.min k ((List.replicate m (NumT Qi.zero)).length - k) = min k (m - k) := by rw [hlen]
        refine T_skip ?_
        refine T_block ?_
        refine D_start (m := 8) ?_
        refine D_step (Ei := [(8, _)]) rfl rfl (Srcs.cons (Src.pre rfl rfl) Srcs.nil) (S_plain rfl (op_move (Has.t rfl))) ?_
        refine D_step (Ei := [(7, _)]) rfl rfl (Srcs.cons (Src.pre rfl rfl) Srcs.nil) (S_plain rfl (op_move (Has.t rfl))) ?_
        refine D_step (Ei := [(8, _)]) rfl rfl (Srcs.cons (Src.pre rfl rfl) Srcs.nil) (S_plain rfl (op_move (Has.t rfl))) ?_
        refine D_step (Ei := [(39, _), (40, _)]) rfl rfl (Srcs.cons (Src.op 1 rfl rfl) (Srcs.cons (Src.op 2 rfl rfl) Srcs.nil)) (S_plain rfl (op_secLo Tryz.runUnderlying30 Tryz.sizeOf49 (Has.t rfl) (Has.t rfl) rfl (i := 1) rfl (by rw [hlen]; exact hd))) ?_
        refine D_step (Ei := [(7, _)]) rfl rfl (Srcs.cons (Src.pre rfl rfl) Srcs.nil) (S_plain rfl (op_move (Has.t rfl))) ?_
        refine D_step (Ei := [(8, _)]) rfl rfl (Srcs.cons (Src.pre rfl rfl) Srcs.nil) (S_plain rfl (op_move (Has.t rfl))) ?_
        refine D_step (Ei := [(42, _), (43, _)]) rfl rfl (Srcs.cons (Src.op 4 rfl rfl) (Srcs.cons (Src.op 5 rfl rfl) Srcs.nil)) (S_plain rfl (op_secHi Tryz.runUnderlying30 Tryz.sizeOf49 (Has.t rfl) (Has.t rfl) rfl (i := 1) rfl (by rw [hlen]; omega) (by rw [hlen]; omega))) ?_
        refine D_step (Ei := [(41, _), (44, _)]) rfl rfl (Srcs.cons (Src.op 3 rfl rfl) (Srcs.cons (Src.op 6 rfl rfl) Srcs.nil)) (S_plain rfl (op_copySec (T := NumT Qi.zero) Tryz.runUnderlying30 Tryz.sizeOf49 (i := 1) rfl (Has.t rfl) (Has.t rfl))) ?_
        refine D_done mixed rfl (by kernel_rfl) (F_val (F_val (F_val (F_val (F_val (F_val (F_val (F_val (F_nil ?_)))))))))
        refine R_op rfl rfl rfl (op_addN (Has.t rfl) (Has.t rfl) (by show _ < 9223372036854775808; omega)) ?_
        refine R_op rfl rfl rfl (op_assign (Has.t rfl)) ?_
        refine R_nil ?_
        refine T_blk ?_
        refine T_again (k + Nat.min k ((List.replicate m (NumT Qi.zero)).length - k)) ⟨by omega, by omega⟩ (by omega) (Sub.cons rfl (Sub.cons rfl Sub.nil)) (HSub.refl _)
      · refine T_exit rfl ?_
        refine T_seq ?_
        refine T_region ?_
        refine R_op rfl rfl rfl (op_move (Has.t rfl)) ?_
        refine R_op rfl rfl rfl (op_assign (Has.t rfl)) ?_
        refine R_nil ?_
        exact T_retO ⟨B30, hB30⟩ trivial [0, 1] ⟨⟨_, rfl, fun _ _ _ h => h⟩, ⟨_, rfl, (rowO_of (by rw [tab_const, rep_mapF]))⟩, trivial⟩ (by decide) (rvs1 rfl (rv_tmp rfl))
end Go.Proofs.YtppibhcfaahgpaaGreat
namespace Go.Proofs.YtppibhcfaahgpaaGreat
open Go Go.RowKit
theorem bld_35_0_1 {n : Nat} {E : Env} {H : Hp} {d : Option Tmp} {t : TypeId} {pos : String} {af : Array Edge} {g : Option (Nat × Bool)} {x0 x1 : Operand} {T0 T1 T2 : Ty} (h0 : Has E x0 (AggT [T0, T1])) [s1 : Shape T2 1 false] (h1 : Has E x1 T2) :
    OpTy Tryz.prog n E H ⟨d, .build 35 #[(0, x0), (1, x1)], t, pos, af, g⟩ (AggT [T0, T1, T2]) :=
  op_build (parts := [(0, x0), (1, x1)]) fun a V w hs => by
    obtain ⟨v0, e0, c0⟩ := h0 n V a hs
    obtain ⟨c0_0, c0_1, rfl⟩ : ∃ c0_0 c0_1, v0 = [c0_0, c0_1] := list2 (by simpa using c0.length)
    have p1 := h1 n V a hs
    generalize e1 : a.eval x1 = v1 at p1
    have q1 := (s1.ok v1 V p1).2.2 rfl
    refine ⟨.agg #[c0_0, c0_1, v1], ?_, [c0_0, c0_1, v1], rfl, Cells.cons' (c0.at (i := 0) rfl rfl) (Cells.cons' (c0.at (i := 1) rfl rfl) (Cells.cons' (⟨p1, q1⟩) (Cells.nil)))⟩
    simp [e0, e1, Instr.build, Instr.fill, Sem.run_bind, Result.andThen, cells_agg, q1.cells, Tryz.zeroValue35, Tryz.runUnderlying35, Tryz.sizeOf31, Tryz.sizeOf33]
end Go.Proofs.YtppibhcfaahgpaaGreat
namespace Go.Proofs.YtppibhcfaahgpaaGreat
open Go Go.RowKit
set_option maxRecDepth 20000 in
theorem c_zerosO {n : Nat} (hn : n ≤ 1000) : FunO Tryz.prog 99 [NT .i64 n, NT .i64 n] [] (Nat) (fun B => Is (.slice (some ⟨B, 0, none⟩) n n)) (fun B => [matP exactH B 30 49 5 (FRow NumT (zeroM n n))]) (fun _ => True) := by
  refine FunO.intro Tryz.func99 rfl Tryz.ntmps99 rfl (fun cx Z => ?_)
  refine T_seq ?_
  refine T_region ?_
  refine R_op rfl rfl rfl (op_assign Has.c) ?_
  refine R_nil ?_
  refine T_seq ?_
  refine T_region ?_
  refine R_op rfl rfl rfl (op_move (Has.t rfl)) ?_
  refine R_new rfl rfl rfl (new_make (T := Is (.slice none 0 0)) (i := Tryz.t30) Tryz.underlying31 info_30 rfl rfl (Has.t rfl) rfl (fun _ => rfl) trivial (by show 24 * _ ≤ _; omega) (by omega)) (fun B8 => ?_)
  refine R_op rfl rfl rfl (op_assign (Has.t rfl)) ?_
  refine R_nil ?_
  refine T_seq ?_
  refine T_seq ?_
  refine T_region ?_
  refine R_op rfl rfl rfl (op_move (Has.t rfl)) ?_
  refine R_op rfl rfl rfl (op_lenI Tryz.runUnderlying31 (Has.t rfl)) ?_
  refine R_op rfl rfl rfl (op_move (Has.cN 0)) ?_
  refine R_nil ?_
  refine T_block ?_
  refine T_conv 1 rfl (mat_nilE exactH ⟨none, 0, rfl⟩ (e := 49) (s := 5)) ?_
  refine T_loop (fun (k : Nat) => k ≤ n) (fun (k : Nat) => n - k) (fun (k : Nat) => [(1, NT .i64 n), (5, Is (.slice (some ⟨B8, 0, none⟩) n n)), (10, NT .i64 n), (11, NT .i64 k)]) (fun (k : Nat) => [Z, matP exactH B8 30 49 5 (FRow NumT (mixT (fun _ => (tab n fun _ => Qi.zero)) [] n k))]) 0 (Nat.zero_le _)
    (Sub.cons rfl (Sub.cons rfl (Sub.cons rfl (Sub.cons rfl Sub.nil)))) (HSub.cons (fun _ _ _ h => h) (HSub.cons (matO_of (by rw [← mix_zero, tab_const]; exact rep_FRow NumT n)) HSub.nil)) (fun k hk => ?_)
  refine T_seq ?_
  refine T_region ?_
  refine R_op rfl rfl rfl (op_lssN (Has.t rfl) (Has.t rfl)) ?_
  refine R_nil ?_
  refine T_seq ?_
  refine T_cond (Has.t rfl) (fun hd => ?_) (fun hd => ?_)
  · simp only [decide_eq_true_eq] at hd
    refine T_focusE 1 (k) rfl (frow_mix hd) (fun v hv => ?_)
    refine T_skip ?_
    refine T_seq ?_
    refine T_block ?_
    refine T_seq ?_
    refine T_region ?_
    refine R_op rfl rfl rfl (op_move (Has.t rfl)) ?_
    refine R_op rfl rfl rfl (op_assign (Has.t rfl)) ?_
    refine R_nil ?_
    refine T_region ?_
    refine R_op rfl rfl rfl (op_move (Has.t rfl)) ?_
    refine R_op rfl rfl rfl (op_move (Has.t rfl)) ?_
    refine R_op rfl rfl rfl (op_call Tryz.call28 (c_Int (n := 0) (by decide) (by decide)) ⟨(Has.cN 0), trivial⟩) ?_
    refine R_op rfl rfl rfl (op_call Tryz.call81 c_of ⟨(Has.t rfl), trivial⟩) ?_
    refine R_op rfl rfl rfl (op_bslice (xs := [.tmp 17]) Tryz.runUnderlying30 Tryz.sizeOf49 Tryz.zeroValue49 (Elems.cons (Has.t rfl) Elems.nil) rfl rfl rfl) ?_
    refine R_op rfl rfl rfl (op_move (Has.t rfl)) ?_
    refine R_call0 Tryz.call168 (c_RepO (m := n) (by omega) hn) ⟨(Has.t rfl), (Has.t rfl), trivial⟩ rfl (fun B20 _ => ?_)
    have hB20 := B20.2
    refine R_op rfl rfl rfl (op_idxB Tryz.runUnderlying31 Tryz.sizeOf30 (Has.t rfl) (Has.t rfl) rfl (by omega) (by rw [Nat.mul_one, Nat.zero_add])) ?_
    refine R_stH Tryz.sizeOf30 (Has.t rfl) (Has.t rfl) (by simp only [FRow, List.length_map, mix_len]; omega) (j := 1) (l := 3) rfl rfl rfl ?_
    refine R_nil ?_
    refine T_blk ?_
    refine T_unfocus 1 3 rfl rfl (by decide) (by simp only [FRow, List.length_map, mix_len]; omega) ?_
    refine T_region ?_
    refine R_op rfl rfl rfl (op_addN (Has.t rfl) (Has.cN 1) (by show _ < 9223372036854775808; first | omega | (simp only [lim]; omega))) ?_
    refine R_op rfl rfl rfl (op_move (Has.t rfl)) ?_
    refine R_nil ?_
    refine T_keep [0, 1] rfl (by decide) ?_
    refine T_again (k + 1) hd (by omega) (Sub.cons rfl (Sub.cons rfl (Sub.cons rfl (Sub.cons rfl Sub.nil)))) (HSub.cons (fun _ _ _ h => h) (HSub.cons (matO_of (by rw [set_FRow, ← mix_set (f := fun _ => (tab n fun _ => Qi.zero))])) HSub.nil))
  · simp only [decide_eq_false_iff_not] at hd
    obtain rfl : n = k := Nat.le_antisymm (by omega) hk
    refine T_exit rfl ?_
    refine T_seq ?_
    refine T_region ?_
    refine R_op rfl rfl rfl (op_move (Has.t rfl)) ?_
    refine R_op rfl rfl rfl (op_assign (Has.t rfl)) ?_
    refine R_nil ?_
    exact T_retO B8 trivial [0, 1] ⟨⟨_, rfl, fun _ _ _ h => h⟩, ⟨_, rfl, (matO_of (by rw [mix_fin]; rfl))⟩, trivial⟩ (by decide) (rvs1 rfl (rv_tmp rfl))
set_option maxRecDepth 20000 in
theorem c_thermO {z : List Qi} {s : List (List Qi)} {L : Nat} (hz : FitL z L) (hs : FitM s L) (hL1 : 1 ≤ L) (hL : L ≤ 4000) (hsh : Shp s z.length z.length) (hl1 : 1 ≤ z.length) (hl : z.length ≤ 8) : FunO Tryz.prog 96 [NetT z s] [] (Nat) (fun B => Is (.slice (some ⟨B, 0, none⟩) z.length z.length)) (fun B => [matP exactH B 30 49 5 (FRow NumT (ownM z s))]) (fun _ => True) := by
  have hs1 := hs.le (Nat.le_refl L)
  have hsl := hsh.1
  have hD := diag_shp z
  have hDf := diag_fit hz hL1
  have hXf := carM_fit hs hDf hL1 (by rw [hD.1]; exact hl)
  have hX : Shp (carM s (diagM z)) s.length s.length := carM_shp
  refine FunO.intro Tryz.func96 rfl Tryz.ntmps96 rfl (fun cx Z => ?_)
  refine T_seq ?_
  refine T_region ?_
  refine R_new rfl rfl rfl (new_box (Has.t rfl)) (fun B1 => ?_)
  refine R_op rfl rfl rfl (op_assign Has.c) ?_
  refine R_nil ?_
  refine T_seq ?_
  refine D_start (m := 3) ?_
  refine D_step (Ei := [(1, _)]) rfl rfl (Srcs.cons (Src.pre rfl rfl) Srcs.nil) (S_plain rfl (op_ldBA Tryz.isAgg33 Tryz.sizeOf33 (Has.t rfl) (i := 1) rfl rfl rfl)) ?_
  refine D_step (Ei := [(10, _)]) rfl rfl (Srcs.cons (Src.op 0 rfl rfl) Srcs.nil) (S_plain rfl (op_call Tryz.call74 c_Ports ⟨(Has.t rfl), trivial⟩)) ?_
  refine D_step (Ei := [(1, _)]) rfl rfl (Srcs.cons (Src.pre rfl rfl) Srcs.nil) (S_plain rfl (op_ldBA Tryz.isAgg33 Tryz.sizeOf33 (Has.t rfl) (i := 1) rfl rfl rfl)) ?_
  refine D_done mixed rfl (by kernel_rfl) (F_val (F_val (F_val (F_nil ?_))))
  refine R_op rfl rfl rfl (op_call Tryz.call74 c_Ports ⟨(Has.t rfl), trivial⟩) ?_
  refine R_call0 Tryz.call99 (c_zerosO (n := z.length) (by omega)) ⟨(Has.t rfl), (Has.t rfl), trivial⟩ rfl (fun B14 _ => ?_)
  refine R_op rfl rfl rfl (op_assign (Has.t rfl)) ?_
  refine R_nil ?_
  refine T_seq ?_
  refine T_seq ?_
  refine T_region ?_
  refine R_op rfl rfl rfl (op_ldBA Tryz.isAgg33 Tryz.sizeOf33 (Has.t rfl) (i := 1) rfl rfl rfl) ?_
  refine R_op rfl rfl rfl (op_call Tryz.call167 (c_refs (by omega)) ⟨(Has.t rfl), trivial⟩) ?_
  refine R_op rfl rfl rfl (op_len Tryz.runUnderlying30 (Has.t rfl) len_map) ?_
  refine R_op rfl rfl rfl (op_move (Has.cN 0)) ?_
  refine R_nil ?_
  refine T_block ?_
  refine T_loop (fun (i : Nat) => i ≤ z.length) (fun (i : Nat) => z.length - i) (fun (i : Nat) => [(1, PtrB B1 0), (3, Is (.slice (some ⟨B14, 0, none⟩) z.length z.length)), (16, NumsT z), (17, NT .i64 z.length), (18, NT .i64 i)]) (fun (i : Nat) => [Z, box B1 33 [NumsT z, NumM s], matP exactH B14 30 49 5 (FRow NumT (mixT (fun i => (tab z.length fun _ => Qi.zero).set i (gv z i)) (tab z.length fun _ => Qi.zero) z.length i))]) 0 (Nat.zero_le _)
    (Sub.cons rfl (Sub.cons rfl (Sub.cons rfl (Sub.cons rfl (Sub.cons rfl Sub.nil))))) (HSub.cons (fun _ _ _ h => h) (HSub.cons (fun _ _ _ h => h) (HSub.cons (matO_of (by rw [zeroM, mix_zero])) HSub.nil))) (fun i hi => ?_)
  refine T_seq ?_
  refine T_region ?_
  refine R_op rfl rfl rfl (op_lssN (Has.t rfl) (Has.t rfl)) ?_
  refine R_nil ?_
  refine T_seq ?_
  refine T_cond (Has.t rfl) (fun hd => ?_) (fun hd => ?_)
  · simp only [decide_eq_true_eq] at hd
    have hzl := tab_len z.length fun _ => Qi.zero
    refine T_focusE 2 (i) rfl (frow_mix hd) (fun v hv => ?_)
    refine T_skip ?_
    refine T_seq ?_
    refine T_block ?_
    refine T_seq ?_
    refine T_region ?_
    refine R_op rfl rfl rfl (op_move (Has.t rfl)) ?_
    refine R_op rfl rfl rfl (op_idx Tryz.runUnderlying30 Tryz.sizeOf49 (Has.t rfl) (Has.t rfl) rfl (map_get (getD_some (d := Qi.zero) hd))) ?_
    refine R_op rfl rfl rfl (op_ld Tryz.isAgg49 Tryz.sizeOf49 (Has.t rfl)) ?_
    refine R_new rfl rfl rfl (new_alloc (Ts := [Is (.bool false), Is (.slice none 0 0), Is (.bool false), Is (.slice none 0 0), Is (.slice none 0 0)]) Tryz.zeroValue49 rfl (fun V => Cells.cons' ⟨rfl, trivial⟩ (Cells.cons' ⟨rfl, trivial⟩ (Cells.cons' ⟨rfl, trivial⟩ (Cells.cons' ⟨rfl, trivial⟩ (Cells.cons' ⟨rfl, trivial⟩ (Cells.nil))))))) (fun B5 => ?_)
    refine R_op rfl rfl rfl (op_assign (Has.t rfl)) ?_
    refine R_stA Tryz.sizeOf49 (Has.t rfl) (Has.t rfl) rfl (i := 4) rfl (Nat.le_of_ble_eq_true rfl) rfl rfl ?_
    refine R_nil ?_
    refine D_start (m := 7) ?_
    refine D_step (Ei := [(3, _)]) rfl rfl (Srcs.cons (Src.pre rfl rfl) Srcs.nil) (S_plain rfl (op_move (Has.t rfl))) ?_
    refine D_step (Ei := [(4, _)]) rfl rfl (Srcs.cons (Src.pre rfl rfl) Srcs.nil) (S_plain rfl (op_move (Has.t rfl))) ?_
    refine D_step (Ei := [(23, _), (24, _)]) rfl rfl (Srcs.cons (Src.op 0 rfl rfl) (Srcs.cons (Src.op 1 rfl rfl) Srcs.nil)) (S_plain rfl (op_idxB Tryz.runUnderlying31 Tryz.sizeOf30 (Has.t rfl) (Has.t rfl) rfl (by omega) (by rw [Nat.mul_one, Nat.zero_add]))) ?_
    refine D_step (Ei := [(25, _)]) rfl rfl (Srcs.cons (Src.op 2 rfl rfl) Srcs.nil) (S_plain rfl (op_ldH Tryz.isAgg30 Tryz.sizeOf30 (Has.t rfl) (j := 2) rfl)) ?_
    refine D_step (Ei := [(4, _)]) rfl rfl (Srcs.cons (Src.pre rfl rfl) Srcs.nil) (S_plain rfl (op_move (Has.t rfl))) ?_
    refine D_step (Ei := [(5, _)]) rfl rfl (Srcs.cons (Src.pre rfl rfl) Srcs.nil) (S_plain rfl (op_ldBA Tryz.isAgg49 Tryz.sizeOf49 (Has.t rfl) (i := 4) rfl rfl rfl)) ?_
    refine D_step (Ei := [(28, _)]) rfl rfl (Srcs.cons (Src.op 5 rfl rfl) Srcs.nil) (S_plain rfl (op_call Tryz.call81 c_of ⟨(Has.t rfl), trivial⟩)) ?_
    refine D_done mixed rfl (by kernel_rfl) (F_val (F_val (F_val (F_val (F_val (F_val (F_val (F_nil ?_))))))))
    refine R_op rfl rfl rfl (op_idxO Tryz.runUnderlying30 Tryz.sizeOf49 (Has.t rfl) (Has.t rfl) rfl (i := 3) rfl (by simp only [List.length_map, tab_len]; omega) rfl) ?_
    refine R_stO Tryz.sizeOf49 (Has.t rfl) (Has.t rfl) (El.ag rfl) (i := 3) rfl rfl (by simp only [List.length_map, tab_len]; omega) rfl ?_
    refine R_nil ?_
    refine T_blk ?_
    refine T_unfocus 2 3 rfl rfl (by decide) (by simp only [FRow, List.length_map, mix_len]; omega) ?_
    refine T_region ?_
    refine R_op rfl rfl rfl (op_addN (Has.t rfl) (Has.cN 1) (by show _ < 9223372036854775808; first | omega | (simp only [lim]; omega))) ?_
    refine R_op rfl rfl rfl (op_move (Has.t rfl)) ?_
    refine R_nil ?_
    refine T_keep [0, 1, 2] rfl (by decide) ?_
    refine T_again (i + 1) hd (by omega) (Sub.cons rfl (Sub.cons rfl (Sub.cons rfl (Sub.cons rfl (Sub.cons rfl Sub.nil))))) (HSub.cons (fun _ _ _ h => h) (HSub.cons (fun _ _ _ h => h) (HSub.cons (matO_of (by rw [← mix_set (f := (fun i => (tab z.length fun _ => Qi.zero).set i (gv z i))), ← set_FRow, ← set_mapF])) HSub.nil)))
  · simp only [decide_eq_false_iff_not] at hd
    obtain rfl : i = z.length := Nat.le_antisymm hi (by omega)
    rw [mix_fin]
    refine T_exit rfl ?_
    refine T_seq ?_
    refine T_region ?_
    refine R_op rfl rfl rfl (op_ldBA Tryz.isAgg33 Tryz.sizeOf33 (Has.t rfl) (i := 1) rfl rfl rfl) ?_
    refine R_op rfl rfl rfl (op_call Tryz.call80 (c_scat hsh hl) ⟨(Has.t rfl), trivial⟩) ?_
    refine R_op rfl rfl rfl (op_move (Has.t rfl)) ?_
    refine R_lend Tryz.call82 (c_carO (p := s) (c := diagM z) (n := z.length) (m := z.length) (L := L) hsh hD hs hDf hL1 (by omega) hl1 hl1 hl hl) (j := 2) (tt := 34) rfl rfl (frz_matF (s := 5) (M := diagM z) hD.1.symm) noiMat (fun _ => inferInstance) (fun _ B hB => by simp only [List.mem_singleton] at hB; subst hB; exact sinsMatF) ⟨(Has.t rfl), (Has.t rfl), trivial⟩ rfl (fun B35 _ => ?_)
    refine R_op rfl rfl rfl (op_assign (Has.t rfl)) ?_
    refine R_nil ?_
    refine T_seq ?_
    refine T_seq ?_
    refine T_freeze (i := 3) (tt := 6) rfl rfl (frz_matF (s := 5) (M := carM s (diagM z)) (hX.1.trans hsl).symm) ?_
    refine T_region ?_
    refine R_op rfl rfl rfl (op_move (Has.t rfl)) ?_
    refine R_op rfl rfl rfl (op_len Tryz.runUnderlying31 (Has.t rfl) len_map) ?_
    refine R_op rfl rfl rfl (op_move (Has.cN 0)) ?_
    refine R_nil ?_
    refine T_block ?_
    refine T_keep [0, 2] rfl (by decide) ?_
    refine T_loop (fun (i : Nat) => i ≤ z.length) (fun (i : Nat) => z.length - i) (fun (i : Nat) => [(3, Is (.slice (some ⟨B14, 0, none⟩) z.length z.length)), (36, NumM (carM s (diagM z))), (37, NT .i64 z.length), (38, NT .i64 i)]) (fun (i : Nat) => [Z, matP exactH B14 30 49 5 (FRow NumT (mixG (fun i => tab z.length fun j => gm (diagM z) i j - gm (carM s (diagM z)) i j) (fun i => tab z.length fun j => gm (diagM z) i j) z.length i))]) 0 (Nat.zero_le _)
      (Sub.cons rfl (Sub.cons rfl (Sub.to rfl (nt_of (hX.1.trans hsl)) (Sub.cons rfl Sub.nil)))) (HSub.cons (fun _ _ _ h => h) (HSub.cons (matO_of (by rw [← mixG_zero]; exact congrArg _ (mat_tab hD))) HSub.nil)) (fun i hi => ?_)
    refine T_seq ?_
    refine T_region ?_
    refine R_op rfl rfl rfl (op_lssN (Has.t rfl) (Has.t rfl)) ?_
    refine R_nil ?_
    refine T_seq ?_
    refine T_cond (Has.t rfl) (fun he => ?_) (fun he => ?_)
    · simp only [decide_eq_true_eq] at he
      have hxr := hX.row (i := i) (by omega)
      refine T_focusE 1 (i) rfl (frow_mixG he) (fun v hv => ?_)
      refine T_skip ?_
      refine T_seq ?_
      refine T_block ?_
      refine T_seq ?_
      refine T_region ?_
      refine R_op rfl rfl rfl (op_move (Has.t rfl)) ?_
      refine R_op rfl rfl rfl (op_idx Tryz.runUnderlying31 Tryz.sizeOf30 (Has.t rfl) (Has.t rfl) rfl (map_get (getD_some (d := []) (by rw [hX.1]; omega)))) ?_
      refine R_op rfl rfl rfl (op_ld Tryz.isAgg30 Tryz.sizeOf30 (Has.t rfl)) ?_
      refine R_op rfl rfl rfl (op_assign (Has.t rfl)) ?_
      refine R_op rfl rfl rfl (op_assign (Has.t rfl)) ?_
      refine R_nil ?_
      refine T_seq ?_
      refine T_region ?_
      refine R_op rfl rfl rfl (op_move (Has.t rfl)) ?_
      refine R_op rfl rfl rfl (op_len Tryz.runUnderlying30 (Has.t rfl) len_map) ?_
      refine R_op rfl rfl rfl (op_move (Has.cN 0)) ?_
      refine R_nil ?_
      refine T_block ?_
      refine T_loop (fun (j : Nat) => j ≤ z.length) (fun (j : Nat) => z.length - j) (fun (j : Nat) => [(3, Is (.slice (some ⟨B14, 0, none⟩) z.length z.length)), (7, NT .i64 i), (8, NumsT ((carM s (diagM z)).getD i [])), (36, NumM (carM s (diagM z))), (37, NT .i64 z.length), (38, NT .i64 i), (44, NT .i64 z.length), (45, NT .i64 j)]) (fun (j : Nat) => [Z, matQ exactH B14 30 49 5 (FRow NumT (mixG (fun i => tab z.length fun j => gm (diagM z) i j - gm (carM s (diagM z)) i j) (fun i => tab z.length fun j => gm (diagM z) i j) z.length i)) i v, rowO 49 5 v ((mixG (fun j => gm (diagM z) i j - gm (carM s (diagM z)) i j) (fun j => gm (diagM z) i j) z.length j).map NumT)]) 0 (Nat.zero_le _)
        (Sub.cons rfl (Sub.cons rfl (Sub.cons rfl (Sub.cons rfl (Sub.cons rfl (Sub.cons rfl (Sub.to rfl (nt_of (hxr.trans hsl)) (Sub.cons rfl Sub.nil)))))))) (HSub.cons (fun _ _ _ h => h) (HSub.cons (fun _ _ _ h => h) (HSub.cons (rowO_of (by rw [← mixG_zero])) HSub.nil))) (fun j hj => ?_)
      refine T_seq ?_
      refine T_region ?_
      refine R_op rfl rfl rfl (op_lssN (Has.t rfl) (Has.t rfl)) ?_
      refine R_nil ?_
      refine T_seq ?_
      refine T_cond (Has.t rfl) (fun hf => ?_) (fun hf => ?_)
      · simp only [decide_eq_true_eq] at hf
        have hrl := mixG_len (fun j => gm (diagM z) i j - gm (carM s (diagM z)) i j) (fun j => gm (diagM z) i j) z.length j
        haveI f1 : FitC (gm (diagM z) i j) L := hDf.get hL1 i j
        haveI f2 : FitC (gm (carM s (diagM z)) i j) (200 * L + 300) := hXf.get (by omega) i j
        refine T_skip ?_
        refine T_seq ?_
        refine T_block ?_
        refine T_seq ?_
        refine T_region ?_
        refine R_op rfl rfl rfl (op_move (Has.t rfl)) ?_
        refine R_op rfl rfl rfl (op_assign (Has.t rfl)) ?_
        refine R_nil ?_
        refine D_start (m := 18) ?_
        refine D_step (Ei := [(3, _)]) rfl rfl (Srcs.cons (Src.pre rfl rfl) Srcs.nil) (S_plain rfl (op_move (Has.t rfl))) ?_
        refine D_step (Ei := [(7, _)]) rfl rfl (Srcs.cons (Src.pre rfl rfl) Srcs.nil) (S_plain rfl (op_move (Has.t rfl))) ?_
        refine D_step (Ei := [(48, _), (49, _)]) rfl rfl (Srcs.cons (Src.op 0 rfl rfl) (Srcs.cons (Src.op 1 rfl rfl) Srcs.nil)) (S_plain rfl (op_idxB Tryz.runUnderlying31 Tryz.sizeOf30 (Has.t rfl) (Has.t rfl) rfl (by omega) (by rw [Nat.mul_one, Nat.zero_add]))) ?_
        refine D_step (Ei := [(50, _)]) rfl rfl (Srcs.cons (Src.op 2 rfl rfl) Srcs.nil) (S_plain rfl (op_ldH Tryz.isAgg30 Tryz.sizeOf30 (Has.t rfl) (j := 1) rfl)) ?_
        refine D_step (Ei := [(9, _)]) rfl rfl (Srcs.cons (Src.pre rfl rfl) Srcs.nil) (S_plain rfl (op_move (Has.t rfl))) ?_
        refine D_step (Ei := [(3, _)]) rfl rfl (Srcs.cons (Src.pre rfl rfl) Srcs.nil) (S_plain rfl (op_move (Has.t rfl))) ?_
        refine D_step (Ei := [(7, _)]) rfl rfl (Srcs.cons (Src.pre rfl rfl) Srcs.nil) (S_plain rfl (op_move (Has.t rfl))) ?_
        refine D_step (Ei := [(53, _), (54, _)]) rfl rfl (Srcs.cons (Src.op 5 rfl rfl) (Srcs.cons (Src.op 6 rfl rfl) Srcs.nil)) (S_plain rfl (op_idxB Tryz.runUnderlying31 Tryz.sizeOf30 (Has.t rfl) (Has.t rfl) rfl (by omega) (by rw [Nat.mul_one, Nat.zero_add]))) ?_
        refine D_step (Ei := [(55, _)]) rfl rfl (Srcs.cons (Src.op 7 rfl rfl) Srcs.nil) (S_plain rfl (op_ldH Tryz.isAgg30 Tryz.sizeOf30 (Has.t rfl) (j := 1) rfl)) ?_
        refine D_step (Ei := [(9, _)]) rfl rfl (Srcs.cons (Src.pre rfl rfl) Srcs.nil) (S_plain rfl (op_move (Has.t rfl))) ?_
        refine D_step (Ei := [(56, _), (57, _)]) rfl rfl (Srcs.cons (Src.op 8 rfl rfl) (Srcs.cons (Src.op 9 rfl rfl) Srcs.nil)) (S_plain rfl (op_idxO Tryz.runUnderlying30 Tryz.sizeOf49 (Has.t rfl) (Has.t rfl) rfl (i := 2) rfl (by simp only [List.length_map, hrl]; omega) rfl)) ?_
        refine D_step (Ei := [(58, _)]) rfl rfl (Srcs.cons (Src.op 10 rfl rfl) Srcs.nil) (S_plain rfl (op_ldO Tryz.isAgg49 Tryz.sizeOf49 (Has.t rfl) (i := 2) rfl rfl (map_get (mixG_get hf)))) ?_
        refine D_step (Ei := [(59, _)]) rfl rfl (Srcs.cons (Src.op 11 rfl rfl) Srcs.nil) (S_plain rfl (op_iface mkif_49 (Has.t rfl))) ?_
        refine D_step (Ei := [(8, _)]) rfl rfl (Srcs.cons (Src.pre rfl rfl) Srcs.nil) (S_plain rfl (op_move (Has.t rfl))) ?_
        refine D_step (Ei := [(9, _)]) rfl rfl (Srcs.cons (Src.pre rfl rfl) Srcs.nil) (S_plain rfl (op_move (Has.t rfl))) ?_
        refine D_step (Ei := [(61, _), (62, _)]) rfl rfl (Srcs.cons (Src.op 13 rfl rfl) (Srcs.cons (Src.op 14 rfl rfl) Srcs.nil)) (S_plain rfl (op_idx Tryz.runUnderlying30 Tryz.sizeOf49 (Has.t rfl) (Has.t rfl) rfl (map_get (getD_some (d := Qi.zero) (by rw [hxr]; omega))))) ?_
        refine D_step (Ei := [(63, _)]) rfl rfl (Srcs.cons (Src.op 15 rfl rfl) Srcs.nil) (S_plain rfl (op_ld Tryz.isAgg49 Tryz.sizeOf49 (Has.t rfl))) ?_
        refine D_step (Ei := [(60, _), (64, _)]) rfl rfl (Srcs.cons (Src.op 12 rfl rfl) (Srcs.cons (Src.op 16 rfl rfl) Srcs.nil)) (S_plain rfl (op_invoke meth_49_Sub Tryz.call58 (c_Sub (by omega)) (Has.t rfl) ⟨(Has.t rfl), trivial⟩)) ?_
        refine D_done mixed rfl (by kernel_rfl) (F_val (F_val (F_val (F_val (F_val (F_val (F_val (F_val (F_val (F_val (F_val (F_val (F_val (F_val (F_val (F_val (F_val (F_val (F_nil ?_)))))))))))))))))))
        refine R_op rfl rfl rfl (op_idxO Tryz.runUnderlying30 Tryz.sizeOf49 (Has.t rfl) (Has.t rfl) rfl (i := 2) rfl (by simp only [List.length_map, hrl]; omega) rfl) ?_
        refine R_stO Tryz.sizeOf49 (Has.t rfl) (Has.t rfl) (El.ag rfl) (i := 2) rfl rfl (by simp only [List.length_map, hrl]; omega) rfl ?_
        refine R_nil ?_
        refine T_blk ?_
        refine T_region ?_
        refine R_op rfl rfl rfl (op_addN (Has.t rfl) (Has.cN 1) (by show _ < 9223372036854775808; first | omega | (simp only [lim]; omega))) ?_
        refine R_op rfl rfl rfl (op_move (Has.t rfl)) ?_
        refine R_nil ?_
        refine T_again (j + 1) hf (by omega) (Sub.cons rfl (Sub.cons rfl (Sub.cons rfl (Sub.cons rfl (Sub.cons rfl (Sub.cons rfl (Sub.cons rfl (Sub.cons rfl Sub.nil)))))))) (HSub.cons (fun _ _ _ h => h) (HSub.cons (fun _ _ _ h => h) (HSub.cons (rowO_of (by rw [set_mapF, ← mixG_set (f := fun j => gm (diagM z) i j - gm (carM s (diagM z)) i j)])) HSub.nil)))
      · simp only [decide_eq_false_iff_not] at hf
        obtain rfl : j = z.length := Nat.le_antisymm hj (by omega)
        refine T_exit rfl ?_
        refine T_blk ?_
        refine T_unfocus 1 2 rfl rfl (by decide) (by simp only [FRow, List.length_map, mixG_len]; omega) ?_
        refine T_region ?_
        refine R_op rfl rfl rfl (op_addN (Has.t rfl) (Has.cN 1) (by show _ < 9223372036854775808; first | omega | (simp only [lim]; omega))) ?_
        refine R_op rfl rfl rfl (op_move (Has.t rfl)) ?_
        refine R_nil ?_
        refine T_keep [0, 1] rfl (by decide) ?_
        refine T_again (i + 1) he (by omega) (Sub.cons rfl (Sub.cons rfl (Sub.cons rfl (Sub.cons rfl Sub.nil)))) (HSub.cons (fun _ _ _ h => h) (HSub.cons (matO_of (by rw [set_FRow, mixG_fin, ← mixG_set (f := (fun i => tab z.length fun j => gm (diagM z) i j - gm (carM s (diagM z)) i j))])) HSub.nil))
    · simp only [decide_eq_false_iff_not] at he
      obtain rfl : i = z.length := Nat.le_antisymm hi (by omega)
      refine T_exit rfl ?_
      refine T_seq ?_
      refine T_region ?_
      refine R_op rfl rfl rfl (op_move (Has.t rfl)) ?_
      refine R_op rfl rfl rfl (op_assign (Has.t rfl)) ?_
      refine R_nil ?_
      exact T_retO B14 trivial [0, 1] ⟨⟨_, rfl, fun _ _ _ h => h⟩, ⟨_, rfl, (matO_of (by rw [mixG_fin]; rfl))⟩, trivial⟩ (by decide) (rvs1 rfl (rv_tmp rfl))
set_option maxRecDepth 20000 in
theorem c_Own {z : List Qi} {s : List (List Qi)} {t : Qi} {L : Nat} (hz : FitL z L) (hs : FitM s L) (ht : FitC t L) (hL1 : 1 ≤ L) (hL : L ≤ 4000) (hsh : Shp s z.length z.length) (hl1 : 1 ≤ z.length) (hl : z.length ≤ 8) : Fun Tryz.prog 22 [NetT z s, NumT t] (TupT [NoisyT (okL (wrmE t) z) (okL (wrmE t) s) (okL (wrmE t) (scaM t (ownM z s) z.length)), IntT .i64 (wrmE t)]) := by
  haveI := ht
  have hOs := ownM_shp z s
  have hOf := ownM_fit hz hs hL1 hl
  refine Fun.intro Tryz.func22 rfl Tryz.ntmps22 rfl (fun cx => ?_)
  refine T_seq ?_
  refine T_region ?_
  refine R_new rfl rfl rfl (new_box (Has.t rfl)) (fun B2 => ?_)
  refine R_new rfl rfl rfl (new_box (Has.t rfl)) (fun B3 => ?_)
  refine R_new rfl rfl rfl (new_alloc (Ts := [Is (.slice none 0 0), Is (.slice none 0 0), Is (.slice none 0 0)]) Tryz.zeroValue35 rfl (fun V => Cells.cons' ⟨rfl, trivial⟩ (Cells.cons' ⟨rfl, trivial⟩ (Cells.cons' ⟨rfl, trivial⟩ (Cells.nil))))) (fun B4 => ?_)
  refine R_op rfl rfl rfl (op_assign (Has.cN 0)) ?_
  refine R_nil ?_
  refine T_seq ?_
  refine T_seq ?_
  refine T_region ?_
  refine R_op rfl rfl rfl (op_ldBA Tryz.isAgg49 Tryz.sizeOf49 (Has.t rfl) (i := 1) rfl rfl rfl) ?_
  refine R_op rfl rfl rfl (op_call Tryz.call95 (c_warm (by omega)) ⟨(Has.t rfl), trivial⟩) ?_
  refine R_op rfl rfl rfl (op_not (Has.t rfl)) ?_
  refine R_nil ?_
  refine T_cond (Has.t rfl) (fun hb => ?_) (fun hb => ?_)
  · have he : wrmE t ≠ 0 := by simp only [Bool.not_eq_true'] at hb; rw [wrmE, hb]; decide
    have he1 : wrmE t = 1 := by simp only [Bool.not_eq_true'] at hb; rw [wrmE, hb]; rfl
    refine T_seq ?_
    refine T_region ?_
    refine R_op rfl rfl rfl (OpTy.imp (bld_35_ ) noisy_nil) ?_
    refine R_stA Tryz.sizeOf35 (Has.t rfl) (Has.t rfl) rfl (i := 2) rfl (Nat.le_of_ble_eq_true rfl) rfl rfl ?_
    refine R_op rfl rfl rfl (op_assign (Has.cN 1)) ?_
    refine R_nil ?_
    refine T_ret2 rfl (rv_to (rv_cell Tryz.isAgg35 Tryz.sizeOf35 rfl (i := 2) rfl rfl) ?_) (rv_to (rv_tmp rfl) ?_)
    · exact (own_bad he)
    · exact (int_of he1.symm)
  · have he : wrmE t = 0 := by simp only [Bool.not_eq_false'] at hb; rw [wrmE, hb]; rfl
    refine T_skip ?_
    refine T_seq ?_
    refine T_region ?_
    refine R_op rfl rfl rfl (op_ldBA Tryz.isAgg33 Tryz.sizeOf33 (Has.t rfl) (i := 0) rfl rfl rfl) ?_
    refine R_call0 Tryz.call96 (c_thermO hz hs hL1 hL hsh hl1 hl) ⟨(Has.t rfl), trivial⟩ rfl (fun B15 _ => ?_)
    refine R_op rfl rfl rfl (op_assign (Has.t rfl)) ?_
    refine R_nil ?_
    refine T_seq ?_
    refine T_seq ?_
    refine T_region ?_
    refine R_op rfl rfl rfl (op_move (Has.t rfl)) ?_
    refine R_op rfl rfl rfl (op_lenI Tryz.runUnderlying31 (Has.t rfl)) ?_
    refine R_op rfl rfl rfl (op_move (Has.cN 0)) ?_
    refine R_nil ?_
    refine T_block ?_
    refine T_loop (fun (i : Nat) => i ≤ z.length) (fun (i : Nat) => z.length - i) (fun (i : Nat) => [(2, PtrB B2 0), (3, PtrB B3 0), (4, PtrB B4 0), (6, Is (.slice (some ⟨B15, 0, none⟩) z.length z.length)), (16, Is (.slice (some ⟨B15, 0, none⟩) z.length z.length)), (17, NT .i64 z.length), (18, NT .i64 i)]) (fun (i : Nat) => [box B2 33 [NumsT z, NumM s], box B3 49 [BoolT (decide (t.a < 0)), NatT t.a.natAbs, BoolT (decide (t.b < 0)), NatT t.b.natAbs, NatT (du t)], box B4 35 [Is (.slice none 0 0), Is (.slice none 0 0), Is (.slice none 0 0)], matP exactH B15 30 49 5 (FRow NumT (mixG (fun i => tab z.length fun j => t * gm (ownM z s) i j) (fun i => tab z.length fun j => gm (ownM z s) i j) z.length i))]) 0 (Nat.zero_le _)
      (Sub.cons rfl (Sub.cons rfl (Sub.cons rfl (Sub.cons rfl (Sub.cons rfl (Sub.cons rfl (Sub.cons rfl Sub.nil))))))) (HSub.cons (fun _ _ _ h => h) (HSub.cons (fun _ _ _ h => h) (HSub.cons (fun _ _ _ h => h) (HSub.cons (matO_of (by rw [← mixG_zero]; exact congrArg _ (mat_tab hOs))) HSub.nil)))) (fun i hi => ?_)
    refine T_seq ?_
    refine T_region ?_
    refine R_op rfl rfl rfl (op_lssN (Has.t rfl) (Has.t rfl)) ?_
    refine R_nil ?_
    refine T_seq ?_
    refine T_cond (Has.t rfl) (fun he2 => ?_) (fun he2 => ?_)
    · simp only [decide_eq_true_eq] at he2
      refine T_focusE 3 (i) rfl (frow_mixG he2) (fun v hv => ?_)
      refine T_skip ?_
      refine T_seq ?_
      refine T_block ?_
      refine T_seq ?_
      refine T_region ?_
      refine R_op rfl rfl rfl (op_idxB Tryz.runUnderlying31 Tryz.sizeOf30 (Has.t rfl) (Has.t rfl) rfl (by omega) (by rw [Nat.mul_one, Nat.zero_add])) ?_
      refine R_op rfl rfl rfl (op_ldH Tryz.isAgg30 Tryz.sizeOf30 (Has.t rfl) (j := 3) rfl) ?_
      refine R_op rfl rfl rfl (op_assign (Has.t rfl)) ?_
      refine R_nil ?_
      refine T_seq ?_
      refine T_region ?_
      refine R_op rfl rfl rfl (op_move (Has.t rfl)) ?_
      refine R_op rfl rfl rfl (op_lenO Tryz.runUnderlying30 (Has.t rfl) (i := 4) rfl (show (((tab z.length fun j => gm (ownM z s) i j).map NumT).length : Int) = ((z.length : Nat) : Int) by rw [List.length_map, tab_len])) ?_
      refine R_op rfl rfl rfl (op_move (Has.cN 0)) ?_
      refine R_nil ?_
      refine T_block ?_
      refine T_loop (fun (j : Nat) => j ≤ z.length) (fun (j : Nat) => z.length - j) (fun (j : Nat) => [(2, PtrB B2 0), (3, PtrB B3 0), (4, PtrB B4 0), (6, Is (.slice (some ⟨B15, 0, none⟩) z.length z.length)), (8, Is v), (16, Is (.slice (some ⟨B15, 0, none⟩) z.length z.length)), (17, NT .i64 z.length), (18, NT .i64 i), (23, NT .i64 z.length), (24, NT .i64 j)]) (fun (j : Nat) => [box B2 33 [NumsT z, NumM s], box B3 49 [BoolT (decide (t.a < 0)), NatT t.a.natAbs, BoolT (decide (t.b < 0)), NatT t.b.natAbs, NatT (du t)], box B4 35 [Is (.slice none 0 0), Is (.slice none 0 0), Is (.slice none 0 0)], matQ exactH B15 30 49 5 (FRow NumT (mixG (fun i => tab z.length fun j => t * gm (ownM z s) i j) (fun i => tab z.length fun j => gm (ownM z s) i j) z.length i)) i v, rowO 49 5 v ((mixG (fun j => t * gm (ownM z s) i j) (fun j => gm (ownM z s) i j) z.length j).map NumT)]) 0 (Nat.zero_le _)
        (Sub.cons rfl (Sub.cons rfl (Sub.cons rfl (Sub.cons rfl (Sub.cons rfl (Sub.cons rfl (Sub.cons rfl (Sub.cons rfl (Sub.cons rfl (Sub.cons rfl Sub.nil)))))))))) (HSub.cons (fun _ _ _ h => h) (HSub.cons (fun _ _ _ h => h) (HSub.cons (fun _ _ _ h => h) (HSub.cons (fun _ _ _ h => h) (HSub.cons (rowO_of (by rw [← mixG_zero])) HSub.nil))))) (fun j hj => ?_)
      refine T_seq ?_
      refine T_region ?_
      refine R_op rfl rfl rfl (op_lssN (Has.t rfl) (Has.t rfl)) ?_
      refine R_nil ?_
      refine T_seq ?_
      refine T_cond (Has.t rfl) (fun hf => ?_) (fun hf => ?_)
      · simp only [decide_eq_true_eq] at hf
        have hrl := mixG_len (fun j => t * gm (ownM z s) i j) (fun j => gm (ownM z s) i j) z.length j
        haveI f1 : FitC (gm (ownM z s) i j) (201 * L + 301) := hOf.get (by omega) i j
        refine T_skip ?_
        refine T_seq ?_
        refine T_block ?_
        refine T_seq ?_
        refine T_region ?_
        refine R_op rfl rfl rfl (op_move (Has.t rfl)) ?_
        refine R_op rfl rfl rfl (op_assign (Has.t rfl)) ?_
        refine R_nil ?_
        refine D_start (m := 10) ?_
        refine D_step (Ei := [(8, _)]) rfl rfl (Srcs.cons (Src.pre rfl rfl) Srcs.nil) (S_plain rfl (op_move (Has.t rfl))) ?_
        refine D_step (Ei := [(9, _)]) rfl rfl (Srcs.cons (Src.pre rfl rfl) Srcs.nil) (S_plain rfl (op_move (Has.t rfl))) ?_
        refine D_step (Ei := [(3, _)]) rfl rfl (Srcs.cons (Src.pre rfl rfl) Srcs.nil) (S_plain rfl (op_ldBA Tryz.isAgg49 Tryz.sizeOf49 (Has.t rfl) (i := 1) rfl rfl rfl)) ?_
        refine D_step (Ei := [(29, _)]) rfl rfl (Srcs.cons (Src.op 2 rfl rfl) Srcs.nil) (S_plain rfl (op_call Tryz.call81 c_of ⟨(Has.t rfl), trivial⟩)) ?_
        refine D_step (Ei := [(30, _)]) rfl rfl (Srcs.cons (Src.op 3 rfl rfl) Srcs.nil) (S_plain rfl (op_iface mkif_49 (Has.t rfl))) ?_
        refine D_step (Ei := [(8, _)]) rfl rfl (Srcs.cons (Src.pre rfl rfl) Srcs.nil) (S_plain rfl (op_move (Has.t rfl))) ?_
        refine D_step (Ei := [(9, _)]) rfl rfl (Srcs.cons (Src.pre rfl rfl) Srcs.nil) (S_plain rfl (op_move (Has.t rfl))) ?_
        refine D_step (Ei := [(32, _), (33, _)]) rfl rfl (Srcs.cons (Src.op 5 rfl rfl) (Srcs.cons (Src.op 6 rfl rfl) Srcs.nil)) (S_plain rfl (op_idxO Tryz.runUnderlying30 Tryz.sizeOf49 (Has.t rfl) (Has.t rfl) rfl (i := 4) rfl (by simp only [List.length_map, hrl]; omega) rfl)) ?_
        refine D_step (Ei := [(34, _)]) rfl rfl (Srcs.cons (Src.op 7 rfl rfl) Srcs.nil) (S_plain rfl (op_ldO Tryz.isAgg49 Tryz.sizeOf49 (Has.t rfl) (i := 4) rfl rfl (map_get (mixG_get hf)))) ?_
        refine D_step (Ei := [(31, _), (35, _)]) rfl rfl (Srcs.cons (Src.op 4 rfl rfl) (Srcs.cons (Src.op 8 rfl rfl) Srcs.nil)) (S_plain rfl (op_invoke meth_49_Mul Tryz.call56 (c_Mul (by omega)) (Has.t rfl) ⟨(Has.t rfl), trivial⟩)) ?_
        refine D_done mixed rfl (by kernel_rfl) (F_val (F_val (F_val (F_val (F_val (F_val (F_val (F_val (F_val (F_val (F_nil ?_)))))))))))
        refine R_op rfl rfl rfl (op_idxO Tryz.runUnderlying30 Tryz.sizeOf49 (Has.t rfl) (Has.t rfl) rfl (i := 4) rfl (by simp only [List.length_map, hrl]; omega) rfl) ?_
        refine R_stO Tryz.sizeOf49 (Has.t rfl) (Has.t rfl) (El.ag rfl) (i := 4) rfl rfl (by simp only [List.length_map, hrl]; omega) rfl ?_
        refine R_nil ?_
        refine T_blk ?_
        refine T_region ?_
        refine R_op rfl rfl rfl (op_addN (Has.t rfl) (Has.cN 1) (by show _ < 9223372036854775808; first | omega | (simp only [lim]; omega))) ?_
        refine R_op rfl rfl rfl (op_move (Has.t rfl)) ?_
        refine R_nil ?_
        refine T_again (j + 1) hf (by omega) (Sub.cons rfl (Sub.cons rfl (Sub.cons rfl (Sub.cons rfl (Sub.cons rfl (Sub.cons rfl (Sub.cons rfl (Sub.cons rfl (Sub.cons rfl (Sub.cons rfl Sub.nil)))))))))) (HSub.cons (fun _ _ _ h => h) (HSub.cons (fun _ _ _ h => h) (HSub.cons (fun _ _ _ h => h) (HSub.cons (fun _ _ _ h => h) (HSub.cons (rowO_of (by rw [set_mapF, ← mixG_set (f := fun j => t * gm (ownM z s) i j)])) HSub.nil)))))
      · simp only [decide_eq_false_iff_not] at hf
        obtain rfl : j = z.length := Nat.le_antisymm hj (by omega)
        refine T_exit rfl ?_
        refine T_blk ?_
        refine T_unfocus 3 4 rfl rfl (by decide) (by simp only [FRow, List.length_map, mixG_len]; omega) ?_
        refine T_region ?_
        refine R_op rfl rfl rfl (op_addN (Has.t rfl) (Has.cN 1) (by show _ < 9223372036854775808; first | omega | (simp only [lim]; omega))) ?_
        refine R_op rfl rfl rfl (op_move (Has.t rfl)) ?_
        refine R_nil ?_
        refine T_keep [0, 1, 2, 3] rfl (by decide) ?_
        refine T_again (i + 1) he2 (by omega) (Sub.cons rfl (Sub.cons rfl (Sub.cons rfl (Sub.cons rfl (Sub.cons rfl (Sub.cons rfl (Sub.cons rfl Sub.nil))))))) (HSub.cons (fun _ _ _ h => h) (HSub.cons (fun _ _ _ h => h) (HSub.cons (fun _ _ _ h => h) (HSub.cons (matO_of (by rw [set_FRow, mixG_fin, ← mixG_set (f := (fun i => tab z.length fun j => t * gm (ownM z s) i j))])) HSub.nil))))
    · simp only [decide_eq_false_iff_not] at he2
      obtain rfl : i = z.length := Nat.le_antisymm hi (by omega)
      rw [mixG_fin]
      refine T_exit rfl ?_
      refine T_seq ?_
      refine T_freeze (i := 3) (tt := 6) rfl rfl (frz_matF (s := 5) (M := (scaM t (ownM z s) z.length)) scaM_shp.1.symm) ?_
      refine T_region ?_
      refine R_op rfl rfl rfl (op_ldBA Tryz.isAgg33 Tryz.sizeOf33 (Has.t rfl) (i := 0) rfl rfl rfl) ?_
      refine R_op rfl rfl rfl (op_move (Has.t rfl)) ?_
      refine R_op rfl rfl rfl (bld_35_0_1 (Has.t rfl) (Has.t rfl)) ?_
      refine R_stA Tryz.sizeOf35 (Has.t rfl) (Has.t rfl) rfl (i := 2) rfl (Nat.le_of_ble_eq_true rfl) rfl rfl ?_
      refine R_op rfl rfl rfl (op_assign (Has.cN 0)) ?_
      refine R_nil ?_
      refine T_ret2 rfl (rv_to (rv_cell Tryz.isAgg35 Tryz.sizeOf35 rfl (i := 2) rfl rfl) ?_) (rv_to (rv_tmp rfl) ?_)
      · exact (own_good he)
      · exact (int_of he.symm)
end Go.Proofs.YtppibhcfaahgpaaGreat
namespace Go.Proofs.YtppibhcfaahgpaaGreat
open Go Go.RowKit
theorem bld_27_ {n : Nat} {E : Env} {H : Hp} {d : Option Tmp} {t : TypeId} {pos : String} {af : Array Edge} {g : Option (Nat × Bool)}  :
    OpTy Tryz.prog n E H ⟨d, .build 27 #[], t, pos, af, g⟩ (AggT [Is (.int .i64 0), Is (.int .i64 0), Is (.int .i64 0)]) :=
  op_build (parts := []) fun a V w hs => by
    refine ⟨.agg #[(.int .i64 0), (.int .i64 0), (.int .i64 0)], ?_, [(.int .i64 0), (.int .i64 0), (.int .i64 0)], rfl, Cells.cons' (⟨rfl, trivial⟩) (Cells.cons' (⟨rfl, trivial⟩) (Cells.cons' (⟨rfl, trivial⟩) (Cells.nil)))⟩
    simp [Instr.build, Instr.fill, Sem.run_bind, Result.andThen, cells_agg, Tryz.zeroValue27, Tryz.runUnderlying27, Tryz.sizeOf2]
theorem bld_27_0 {n : Nat} {E : Env} {H : Hp} {d : Option Tmp} {t : TypeId} {pos : String} {af : Array Edge} {g : Option (Nat × Bool)} {x0 : Operand} {T0 : Ty} [s0 : Shape T0 1 false] (h0 : Has E x0 T0) :
    OpTy Tryz.prog n E H ⟨d, .build 27 #[(0, x0)], t, pos, af, g⟩ (AggT [T0, Is (.int .i64 0), Is (.int .i64 0)]) :=
  op_build (parts := [(0, x0)]) fun a V w hs => by
    have p0 := h0 n V a hs
    generalize e0 : a.eval x0 = v0 at p0
    have q0 := (s0.ok v0 V p0).2.2 rfl
    refine ⟨.agg #[v0, (.int .i64 0), (.int .i64 0)], ?_, [v0, (.int .i64 0), (.int .i64 0)], rfl, Cells.cons' (⟨p0, q0⟩) (Cells.cons' (⟨rfl, trivial⟩) (Cells.cons' (⟨rfl, trivial⟩) (Cells.nil)))⟩
    simp [e0, Instr.build, Instr.fill, Sem.run_bind, Result.andThen, cells_agg, q0.cells, Tryz.zeroValue27, Tryz.runUnderlying27, Tryz.sizeOf2]
theorem bld_27_0_2 {n : Nat} {E : Env} {H : Hp} {d : Option Tmp} {t : TypeId} {pos : String} {af : Array Edge} {g : Option (Nat × Bool)} {x0 x2 : Operand} {T0 T2 : Ty} [s0 : Shape T0 1 false] (h0 : Has E x0 T0) [s2 : Shape T2 1 false] (h2 : Has E x2 T2) :
    OpTy Tryz.prog n E H ⟨d, .build 27 #[(0, x0), (2, x2)], t, pos, af, g⟩ (AggT [T0, Is (.int .i64 0), T2]) :=
  op_build (parts := [(0, x0), (2, x2)]) fun a V w hs => by
    have p0 := h0 n V a hs
    generalize e0 : a.eval x0 = v0 at p0
    have q0 := (s0.ok v0 V p0).2.2 rfl
    have p2 := h2 n V a hs
    generalize e2 : a.eval x2 = v2 at p2
    have q2 := (s2.ok v2 V p2).2.2 rfl
    refine ⟨.agg #[v0, (.int .i64 0), v2], ?_, [v0, (.int .i64 0), v2], rfl, Cells.cons' (⟨p0, q0⟩) (Cells.cons' (⟨rfl, trivial⟩) (Cells.cons' (⟨p2, q2⟩) (Cells.nil)))⟩
    simp [e0, e2, Instr.build, Instr.fill, Sem.run_bind, Result.andThen, cells_agg, q0.cells, q2.cells, Tryz.zeroValue27, Tryz.runUnderlying27, Tryz.sizeOf2]
end Go.Proofs.YtppibhcfaahgpaaGreat
namespace Go.Proofs.YtppibhcfaahgpaaGreat
open Go Go.RowKit
set_option maxHeartbeats 1000000 in
set_option maxRecDepth 20000 in
theorem c_awake  : Fun Tryz.prog 15 [] (BoolT true) := by
  refine Fun.intro Tryz.func15 rfl Tryz.ntmps15 rfl (fun cx => ?_)
  refine T_seq ?_
  refine T_region ?_
  refine R_op rfl rfl rfl (op_assign Has.c) ?_
  refine R_nil ?_
  refine T_seq ?_
  refine T_region ?_
  refine R_op rfl rfl rfl (bld_27_0_2 Has.c Has.c) ?_
  refine R_new rfl rfl rfl (new_alloc (Ts := [Is (.int .i64 0), Is (.int .i64 0), Is (.int .i64 0)]) Tryz.zeroValue27 rfl (fun V => Cells.cons' ⟨rfl, trivial⟩ (Cells.cons' ⟨rfl, trivial⟩ (Cells.cons' ⟨rfl, trivial⟩ (Cells.nil))))) (fun B1 => ?_)
  refine R_stA Tryz.sizeOf27 (Has.t rfl) (Has.t rfl) rfl (i := 0) rfl (Nat.le_of_ble_eq_true rfl) rfl rfl ?_
  refine R_nil ?_
  refine T_seq ?_
  refine Y.D_start (m := 18) [] ?_
  refine Y.D_hide (Ei := []) rfl rfl Y.Srcs.nil rfl rfl (S_plain rfl (bld_27_0 Has.c)) ?_
  refine Y.D_hide (Ei := []) rfl rfl Y.Srcs.nil rfl rfl (S_plain rfl (bld_27_0 Has.c)) ?_
  refine Y.D_hide (Ei := [(12, _), (13, _)]) rfl rfl (Y.Srcs.cons (Y.Src.op 0 rfl rfl) (Y.Srcs.cons (Y.Src.op 1 rfl rfl) Y.Srcs.nil)) rfl rfl (S_plain rfl (op_bslice (xs := [.tmp 12, .tmp 13]) Tryz.runUnderlying22 Tryz.sizeOf27 Tryz.zeroValue27 (Elems.cons (Has.t rfl) (Elems.cons (Has.t rfl) Elems.nil)) rfl rfl rfl)) ?_
  refine Y.D_hide (Ei := [(14, _)]) rfl rfl (Y.Srcs.cons (Y.Src.op 2 rfl rfl) Y.Srcs.nil) rfl rfl (S_plain rfl (op_call Tryz.call30 (c_lawList (l := [r50, r50]) (by decide)) ⟨(Has.t rfl), trivial⟩)) ?_
  refine Y.D_hide (Ei := []) rfl rfl Y.Srcs.nil rfl rfl (S_plain rfl (bld_27_ )) ?_
  refine Y.D_hide (Ei := [(1, _)]) rfl rfl (Y.Srcs.cons (Y.Src.pre rfl rfl) Y.Srcs.nil) rfl rfl (S_plain rfl (op_ldBA Tryz.isAgg27 Tryz.sizeOf27 (Has.t rfl) (i := 0) rfl rfl rfl)) ?_
  refine Y.D_hide (Ei := [(16, _), (17, _)]) rfl rfl (Y.Srcs.cons (Y.Src.op 4 rfl rfl) (Y.Srcs.cons (Y.Src.op 5 rfl rfl) Y.Srcs.nil)) rfl rfl (S_plain rfl (op_bslice (xs := [.tmp 16, .tmp 17]) Tryz.runUnderlying22 Tryz.sizeOf27 Tryz.zeroValue27 (Elems.cons (Has.t rfl) (Elems.cons (Has.t rfl) Elems.nil)) rfl rfl rfl)) ?_
  refine Y.D_hide (Ei := [(1, _)]) rfl rfl (Y.Srcs.cons (Y.Src.pre rfl rfl) Y.Srcs.nil) rfl rfl (S_plain rfl (op_ldBA Tryz.isAgg27 Tryz.sizeOf27 (Has.t rfl) (i := 0) rfl rfl rfl)) ?_
  refine Y.D_hide (Ei := []) rfl rfl Y.Srcs.nil rfl rfl (S_plain rfl (bld_27_ )) ?_
  refine Y.D_hide (Ei := [(19, _), (20, _)]) rfl rfl (Y.Srcs.cons (Y.Src.op 7 rfl rfl) (Y.Srcs.cons (Y.Src.op 8 rfl rfl) Y.Srcs.nil)) rfl rfl (S_plain rfl (op_bslice (xs := [.tmp 19, .tmp 20]) Tryz.runUnderlying22 Tryz.sizeOf27 Tryz.zeroValue27 (Elems.cons (Has.t rfl) (Elems.cons (Has.t rfl) Elems.nil)) rfl rfl rfl)) ?_
  refine Y.D_hide (Ei := [(18, _), (21, _)]) rfl rfl (Y.Srcs.cons (Y.Src.op 6 rfl rfl) (Y.Srcs.cons (Y.Src.op 9 rfl rfl) Y.Srcs.nil)) rfl rfl (S_plain rfl (op_bslice (xs := [.tmp 18, .tmp 21]) Tryz.runUnderlying23 Tryz.sizeOf22 Tryz.zeroValue22 (Elems.cons (Has.t rfl) (Elems.cons (Has.t rfl) Elems.nil)) rfl rfl rfl)) ?_
  refine Y.D_hide (Ei := [(22, _)]) rfl rfl (Y.Srcs.cons (Y.Src.op 10 rfl rfl) Y.Srcs.nil) rfl rfl (S_plain rfl (op_call Tryz.call31 (c_lawRows (m := [[rNil, rHalf], [rHalf, rNil]]) (by decide) (by intro r hr; simp at hr; rcases hr with rfl | rfl <;> decide)) ⟨(Has.t rfl), trivial⟩)) ?_
  refine Y.D_hide (Ei := [(15, _), (23, _)]) rfl rfl (Y.Srcs.cons (Y.Src.op 3 rfl rfl) (Y.Srcs.cons (Y.Src.op 11 rfl rfl) Y.Srcs.nil)) rfl rfl (S_plain rfl (op_call Tryz.call29 (Fun.imp (c_netNew (z := awZ) (s := awS) (L := 2) aw_fz (by decide) (by decide) (by decide)) aw_net) ⟨(Has.t rfl), (Has.t rfl), trivial⟩)) ?_
  refine Y.D_hide (Ei := [(24, _)]) rfl rfl (Y.Srcs.cons (Y.Src.op 12 rfl rfl) Y.Srcs.nil) rfl rfl (S_plain rfl (op_move (Has.t rfl))) ?_
  refine Y.D_hide (Ei := [(11, _)]) rfl rfl (Y.Srcs.cons (Y.Src.op 13 rfl rfl) Y.Srcs.nil) rfl rfl (S_plain rfl (op_extract (Has.t rfl) rfl)) ?_
  refine Y.D_hide (Ei := [(11, _)]) rfl rfl (Y.Srcs.cons (Y.Src.op 13 rfl rfl) Y.Srcs.nil) rfl rfl (S_plain rfl (op_extract (Has.t rfl) rfl)) ?_
  refine Y.D_newp (Ei := []) (fun bb => box bb 33 [NumsT awZ, NumM awS]) 17 rfl rfl rfl Y.Srcs.nil rfl rfl (by kernel_rfl) (new_alloc (Ts := [Is (.slice none 0 0), Is (.slice none 0 0)]) Tryz.zeroValue33 rfl (fun V => Cells.cons' ⟨rfl, trivial⟩ (Cells.cons' ⟨rfl, trivial⟩ (Cells.nil)))) ?_
  refine Y.D_putN (Ei := [(25, _)]) 16 rfl rfl rfl rfl rfl rfl (Y.Srcs.cons (Y.Src.op 14 rfl rfl) Y.Srcs.nil) (fun bb => P_stA Tryz.sizeOf33 (Has.t rfl) (Has.t rfl) rfl (i := 0) rfl (Nat.le_of_ble_eq_true rfl) rfl rfl) ?_
  refine Y.D_done mixed rfl (by kernel_rfl) rfl (by simp [Y.okP]) rfl rfl (Y.F_val (Y.F_val (Y.F_val (Y.F_val (Y.F_val (Y.F_val (Y.F_val (Y.F_val (Y.F_val (Y.F_val (Y.F_val (Y.F_val (Y.F_val (Y.F_val (Y.F_val (Y.F_val (Y.F_newp (fun B2 => Y.F_putN (Y.F_nil ?_)))))))))))))))))))
  refine R_op rfl rfl rfl (op_assign (Has.t rfl)) ?_
  refine R_nil ?_
  refine T_seq ?_
  refine Y.D_start (m := 8) [] ?_
  refine Y.D_hide (Ei := [(2, _)]) rfl rfl (Y.Srcs.cons (Y.Src.pre rfl rfl) Y.Srcs.nil) rfl rfl (S_plain rfl (op_ldBA Tryz.isAgg33 Tryz.sizeOf33 (Has.t rfl) (i := 1) rfl rfl rfl)) ?_
  refine Y.D_hide (Ei := []) rfl rfl Y.Srcs.nil rfl rfl (S_plain rfl (op_call Tryz.call28 (c_Int (n := 290) (by decide) (by decide)) ⟨(Has.cN 290), trivial⟩)) ?_
  refine Y.D_hide (Ei := [(28, _), (29, _)]) rfl rfl (Y.Srcs.cons (Y.Src.op 0 rfl rfl) (Y.Srcs.cons (Y.Src.op 1 rfl rfl) Y.Srcs.nil)) rfl rfl (S_plain rfl (op_call Tryz.call22 (Fun.imp (c_Own (z := awZ) (s := awS) (t := Qi.ofInt 290) (L := 2) aw_fz aw_fs aw_ft (by decide) (by decide) aw_shp (by decide) (by decide)) aw_own) ⟨(Has.t rfl), (Has.t rfl), trivial⟩)) ?_
  refine Y.D_hide (Ei := [(30, _)]) rfl rfl (Y.Srcs.cons (Y.Src.op 2 rfl rfl) Y.Srcs.nil) rfl rfl (S_plain rfl (op_move (Has.t rfl))) ?_
  refine Y.D_hide (Ei := [(27, _)]) rfl rfl (Y.Srcs.cons (Y.Src.op 3 rfl rfl) Y.Srcs.nil) rfl rfl (S_plain rfl (op_extract (Has.t rfl) rfl)) ?_
  refine Y.D_hide (Ei := [(27, _)]) rfl rfl (Y.Srcs.cons (Y.Src.op 3 rfl rfl) Y.Srcs.nil) rfl rfl (S_plain rfl (op_extract (Has.t rfl) rfl)) ?_
  refine Y.D_newp (Ei := []) (fun bb => box bb 35 [NumsT awZ, NumM awS, NumM awC]) 7 rfl rfl rfl Y.Srcs.nil rfl rfl (by kernel_rfl) (new_alloc (Ts := [Is (.slice none 0 0), Is (.slice none 0 0), Is (.slice none 0 0)]) Tryz.zeroValue35 rfl (fun V => Cells.cons' ⟨rfl, trivial⟩ (Cells.cons' ⟨rfl, trivial⟩ (Cells.cons' ⟨rfl, trivial⟩ (Cells.nil))))) ?_
  refine Y.D_putN (Ei := [(31, _)]) 6 rfl rfl rfl rfl rfl rfl (Y.Srcs.cons (Y.Src.op 4 rfl rfl) Y.Srcs.nil) (fun bb => P_stA Tryz.sizeOf35 (Has.t rfl) (Has.t rfl) rfl (i := 0) rfl (Nat.le_of_ble_eq_true rfl) rfl rfl) ?_
  refine Y.D_done mixed rfl (by kernel_rfl) rfl (by simp [Y.okP]) rfl rfl (Y.F_val (Y.F_val (Y.F_val (Y.F_val (Y.F_val (Y.F_val (Y.F_newp (fun B4 => Y.F_putN (Y.F_nil ?_)))))))))
  refine R_op rfl rfl rfl (op_assign (Has.t rfl)) ?_
  refine R_nil ?_
  refine T_seq ?_
  refine T_region ?_
  refine R_op rfl rfl rfl (op_ldBA Tryz.isAgg35 Tryz.sizeOf35 (Has.t rfl) (i := 2) rfl rfl rfl) ?_
  refine R_op rfl rfl rfl (op_call Tryz.call37 (Fun.imp (c_noiAt (z := awZ) (s := awS) (c := awC) (i := ((2 : Nat) : Int)) (j := ((2 : Nat) : Int)) aw_cs2 (by rw [aw_cs.1]; decide)) aw_at) ⟨(Has.t rfl), (Has.cN 2), (Has.cN 2), trivial⟩) ?_
  refine R_op rfl rfl rfl (op_move (Has.t rfl)) ?_
  refine R_op rfl rfl rfl (op_extract (Has.t rfl) rfl) ?_
  refine R_op rfl rfl rfl (op_extract (Has.t rfl) rfl) ?_
  refine R_new rfl rfl rfl (new_alloc (Ts := [Is (.bool false), Is (.slice none 0 0), Is (.bool false), Is (.slice none 0 0), Is (.slice none 0 0)]) Tryz.zeroValue49 rfl (fun V => Cells.cons' ⟨rfl, trivial⟩ (Cells.cons' ⟨rfl, trivial⟩ (Cells.cons' ⟨rfl, trivial⟩ (Cells.cons' ⟨rfl, trivial⟩ (Cells.cons' ⟨rfl, trivial⟩ (Cells.nil))))))) (fun B6 => ?_)
  refine R_stA Tryz.sizeOf49 (Has.t rfl) (Has.t rfl) rfl (i := 3) rfl (Nat.le_of_ble_eq_true rfl) rfl rfl ?_
  refine R_op rfl rfl rfl (op_assign (Has.t rfl)) ?_
  refine R_nil ?_
  refine T_seq ?_
  refine Y.D_start (m := 9) [] ?_
  refine Y.D_hide (Ei := [(4, _)]) rfl rfl (Y.Srcs.cons (Y.Src.pre rfl rfl) Y.Srcs.nil) rfl rfl (S_plain rfl (op_ldBA Tryz.isAgg35 Tryz.sizeOf35 (Has.t rfl) (i := 2) rfl rfl rfl)) ?_
  refine Y.D_hide (Ei := []) rfl rfl Y.Srcs.nil rfl rfl (S_plain rfl (op_call Tryz.call28 (c_Int (n := 0) (by decide) (by decide)) ⟨(Has.cN 0), trivial⟩)) ?_
  refine Y.D_hide (Ei := []) rfl rfl Y.Srcs.nil rfl rfl (S_plain rfl (op_call Tryz.call28 (c_Int (n := 290) (by decide) (by decide)) ⟨(Has.cN 290), trivial⟩)) ?_
  refine Y.D_hide (Ei := [(39, _), (40, _), (41, _)]) rfl rfl (Y.Srcs.cons (Y.Src.op 0 rfl rfl) (Y.Srcs.cons (Y.Src.op 1 rfl rfl) (Y.Srcs.cons (Y.Src.op 2 rfl rfl) Y.Srcs.nil))) rfl rfl (S_plain rfl (op_call Tryz.call17 (Fun.imp (c_Factor (z := awZ) (s := awS) (c := awC) (g := Qi.ofInt 0) (t0 := Qi.ofInt 290) (L := 1000) (aw_fz.le (by decide)) (aw_fs.le (by decide)) aw_fc (aw_f0.le (by decide)) (aw_ft.le (by decide)) (by decide) (by decide) aw_shp aw_cs (by decide)) aw_fac) ⟨(Has.t rfl), (Has.t rfl), (Has.t rfl), trivial⟩)) ?_
  refine Y.D_hide (Ei := [(42, _)]) rfl rfl (Y.Srcs.cons (Y.Src.op 3 rfl rfl) Y.Srcs.nil) rfl rfl (S_plain rfl (op_move (Has.t rfl))) ?_
  refine Y.D_hide (Ei := [(38, _)]) rfl rfl (Y.Srcs.cons (Y.Src.op 4 rfl rfl) Y.Srcs.nil) rfl rfl (S_plain rfl (op_extract (Has.t rfl) rfl)) ?_
  refine Y.D_hide (Ei := [(38, _)]) rfl rfl (Y.Srcs.cons (Y.Src.op 4 rfl rfl) Y.Srcs.nil) rfl rfl (S_plain rfl (op_extract (Has.t rfl) rfl)) ?_
  refine Y.D_newp (Ei := []) (fun bb => box bb 49 [BoolT (decide ((Qi.ofInt 4).a < 0)), NatT (Qi.ofInt 4).a.natAbs, BoolT (decide ((Qi.ofInt 4).b < 0)), NatT (Qi.ofInt 4).b.natAbs, NatT (du (Qi.ofInt 4))]) 8 rfl rfl rfl Y.Srcs.nil rfl rfl (by kernel_rfl) (new_alloc (Ts := [Is (.bool false), Is (.slice none 0 0), Is (.bool false), Is (.slice none 0 0), Is (.slice none 0 0)]) Tryz.zeroValue49 rfl (fun V => Cells.cons' ⟨rfl, trivial⟩ (Cells.cons' ⟨rfl, trivial⟩ (Cells.cons' ⟨rfl, trivial⟩ (Cells.cons' ⟨rfl, trivial⟩ (Cells.cons' ⟨rfl, trivial⟩ (Cells.nil))))))) ?_
  refine Y.D_putN (Ei := [(43, _)]) 7 rfl rfl rfl rfl rfl rfl (Y.Srcs.cons (Y.Src.op 5 rfl rfl) Y.Srcs.nil) (fun bb => P_stA Tryz.sizeOf49 (Has.t rfl) (Has.t rfl) rfl (i := 0) rfl (Nat.le_of_ble_eq_true rfl) rfl rfl) ?_
  refine Y.D_done mixed rfl (by kernel_rfl) rfl (by simp [Y.okP]) rfl rfl (Y.F_val (Y.F_val (Y.F_val (Y.F_val (Y.F_val (Y.F_val (Y.F_val (Y.F_newp (fun B8 => Y.F_putN (Y.F_nil ?_))))))))))
  refine R_op rfl rfl rfl (op_assign (Has.t rfl)) ?_
  refine R_nil ?_
  refine T_seq ?_
  refine T_region ?_
  refine R_op rfl rfl rfl (op_move (Has.t rfl)) ?_
  refine R_op rfl rfl rfl (op_eql (Has.t rfl) Has.c) ?_
  refine R_op rfl rfl rfl (op_move (Has.t rfl)) ?_
  refine R_step rfl rfl (S_when rfl rfl (Has.t rfl) (fun h => op_move (Has.t rfl))) ?_
  refine R_step rfl rfl (S_when rfl rfl (Has.t rfl) (fun h => op_eql (Has.w rfl h) Has.c)) ?_
  refine R_op rfl rfl rfl (op_and (Has.t rfl) (fun h => (Has.w rfl h))) ?_
  refine R_op rfl rfl rfl (op_move (Has.t rfl)) ?_
  refine R_step rfl rfl (S_when rfl rfl (Has.t rfl) (fun h => op_move (Has.t rfl))) ?_
  refine R_step rfl rfl (S_when rfl rfl (Has.t rfl) (fun h => op_eql (Has.w rfl h) Has.c)) ?_
  refine R_op rfl rfl rfl (op_and (Has.t rfl) (fun h => (Has.w rfl h))) ?_
  refine R_op rfl rfl rfl (op_move (Has.t rfl)) ?_
  refine R_step rfl rfl (S_when rfl rfl (Has.t rfl) (fun h => op_move (Has.t rfl))) ?_
  refine R_step rfl rfl (S_when rfl rfl (Has.t rfl) (fun h => op_eql (Has.w rfl h) Has.c)) ?_
  refine R_op rfl rfl rfl (op_and (Has.t rfl) (fun h => (Has.w rfl h))) ?_
  refine R_op rfl rfl rfl (op_move (Has.t rfl)) ?_
  refine R_step rfl rfl (S_when rfl rfl (Has.t rfl) (fun h => op_ldBA Tryz.isAgg49 Tryz.sizeOf49 (Has.t rfl) (i := 3) rfl rfl rfl)) ?_
  refine R_step rfl rfl (S_when rfl rfl (Has.t rfl) (fun h => op_call Tryz.call75 (c_Text (x := Qi.ofInt 10875) (L := 2) (hx := (@fitInt 10875).le (by decide)) (by decide)) ⟨(Has.w rfl h), trivial⟩)) ?_
  refine R_step rfl rfl (S_when rfl rfl (Has.t rfl) (fun h => op_eqS (Has.w rfl h) (Has.cS (l := [49, 48, 56, 55, 53]) rfl))) ?_
  refine R_op rfl rfl rfl (op_and (Has.t rfl) (fun h => (Has.w rfl h))) ?_
  refine R_op rfl rfl rfl (op_move (Has.t rfl)) ?_
  refine R_step rfl rfl (S_when rfl rfl (Has.t rfl) (fun h => op_ldBA Tryz.isAgg49 Tryz.sizeOf49 (Has.t rfl) (i := 4) rfl rfl rfl)) ?_
  refine R_step rfl rfl (S_when rfl rfl (Has.t rfl) (fun h => op_call Tryz.call75 (c_Text (x := Qi.ofInt 4) (L := 2) (hx := (@fitInt 4).le (by decide)) (by decide)) ⟨(Has.w rfl h), trivial⟩)) ?_
  refine R_step rfl rfl (S_when rfl rfl (Has.t rfl) (fun h => op_eqS (Has.w rfl h) (Has.cS (l := [52]) rfl))) ?_
  refine R_op rfl rfl rfl (op_and (Has.t rfl) (fun h => (Has.w rfl h))) ?_
  refine R_op rfl rfl rfl (op_assign (Has.t rfl)) ?_
  refine R_nil ?_
  refine T_ret1 rfl (rv_to (rv_tmp rfl) ?_)
  exact (bool_of (by rw [aw_t1, aw_t2]; rfl))
end Go.Proofs.YtppibhcfaahgpaaGreat
namespace Go.Proofs.YtppibhcfaahgpaaGreat
open Go Go.RowKit
theorem Qi.zero_div (y : Qi) : Qi.zero / y = Qi.zero := by rw [Qi.div_def, Qi.zero_mul']
theorem Qi.div_of {x y q : Qi} (hy : y ≠ Qi.zero) (h : q * y = x) : x / y = q := by
  have hn : y.nrm ≠ 0 := fun e => hy (Qi.nrm_zero.1 e)
  have e : y * Qi.inv y = Qi.ofInt 1 := Qi.ext'
    (by show y.re * (y.re / y.nrm) - y.im * (-y.im / y.nrm) = 1; have : y.nrm = y.re * y.re + y.im * y.im := rfl; grind)
    (by show y.re * (-y.im / y.nrm) + y.im * (y.re / y.nrm) = 0; grind)
  rw [Qi.div_def, ← h, Qi.mul_assoc', e]
  exact Qi.ext' (by show q.re * (1 : Int) - q.im * (0 : Rat) = q.re; grind) (by show q.re * (0 : Rat) + q.im * (1 : Int) = q.im; grind)
end Go.Proofs.YtppibhcfaahgpaaGreat
namespace Go.Proofs.YtppibhcfaahgpaaGreat
open Go Go.RowKit
namespace Qi
theorem a_nonneg {x : Qi} : 0 ≤ x.a ↔ 0 ≤ x.re := by
  have hk : 0 < x.den / x.re.den := Nat.div_pos (Nat.le_of_dvd x.den_pos (Nat.dvd_lcm_left _ _)) x.re.den_pos
  rw [← Rat.num_nonneg]
  show 0 ≤ x.re.num * ((x.den / x.re.den : Nat) : Int) ↔ _
  generalize x.den / x.re.den = k at hk
  constructor
  · intro h
    exact Int.nonneg_of_mul_nonneg_left h (by omega)
  · intro h; exact Int.mul_nonneg h (by omega)
theorem a_neg {x : Qi} : x.a < 0 ↔ x.re < 0 := by
  have := @a_nonneg x
  constructor
  · intro h; rcases Rat.not_le.1 (fun k => by have := this.2 k; omega) with h; exact h
  · intro h; exact Int.not_le.1 fun k => Rat.not_le.2 h (this.1 k)
theorem a_pos {x : Qi} : 0 < x.a ↔ 0 < x.re := by
  have h1 := @a_nonneg x; have h2 := @a_zero x
  constructor
  · intro h
    have h3 : 0 ≤ x.re := h1.1 (by omega)
    have h4 : x.re ≠ 0 := fun e => by have := h2.2 e; omega
    exact Rat.lt_of_le_of_ne h3 (Ne.symm h4)
  · intro h
    have h3 : 0 ≤ x.a := h1.2 (by grind)
    have h4 : x.a ≠ 0 := fun e => by have := h2.1 e; grind
    omega
theorem sub_im0 {x y : Qi} (hx : x.b = 0) (hy : y.b = 0) : (x - y).im = 0 := by
  show x.im - y.im = 0
  rw [b_zero.1 hx, b_zero.1 hy]; grind
end Qi
theorem cmpI_sgn {m n : Int} (h1 : m < 0 ↔ n < 0) (h2 : 0 < m ↔ 0 < n) : cmpI m 0 = cmpI n 0 := by
  unfold cmpI
  by_cases a : m < 0
  · rw [if_pos a, if_pos (h1.1 a)]
  · rw [if_neg a, if_neg (fun k => a (h1.2 k))]
    by_cases b : 0 < m
    · rw [if_pos b, if_pos (h2.1 b)]
    · rw [if_neg b, if_neg (fun k => b (h2.2 k))]
theorem cmpI_sub (m n : Int) : cmpI m n = cmpI (m - n) 0 := by
  unfold cmpI
  by_cases a : m < n
  · rw [if_pos a, if_pos (by omega)]
  · rw [if_neg a, if_neg (by omega : ¬ m - n < 0)]
    by_cases b : n < m
    · rw [if_pos b, if_pos (by omega)]
    · rw [if_neg b, if_neg (by omega)]
def cmpR (x y : Qi) : Int := cmpI (x - y).a 0
theorem cmpR_lt {x y : Qi} : cmpR x y < 0 ↔ x.re < y.re := by
  rw [cmpR, cmpI_neg, Qi.a_neg]; show x.re - y.re < 0 ↔ _; constructor <;> intro h <;> grind
theorem cmpR_gt {x y : Qi} : 0 < cmpR x y ↔ y.re < x.re := by
  rw [cmpR, cmpI_pos, Qi.a_pos]; show 0 < x.re - y.re ↔ _; constructor <;> intro h <;> grind
theorem cmpR_ge {x y : Qi} : 0 ≤ cmpR x y ↔ y.re ≤ x.re := by
  have := @cmpR_lt x y
  constructor
  · intro h; exact Rat.not_lt.1 fun k => by have := this.2 k; omega
  · intro h; exact Int.not_lt.1 fun k => Rat.not_lt.2 h (this.1 k)
theorem cmpR_le {x y : Qi} : cmpR x y ≤ 0 ↔ x.re ≤ y.re := by
  have := @cmpR_gt x y
  constructor
  · intro h; exact Rat.not_lt.1 fun k => by have := this.2 k; omega
  · intro h; exact Int.not_lt.1 fun k => Rat.not_lt.2 h (this.1 k)
theorem cmpQ_real {x y : Qi} (hx : x.b = 0) (hy : y.b = 0) : cmpQ x y = cmpR x y := by
  have e2 : cmpI (x.b * y.den) (y.b * x.den) = 0 := by rw [hx, hy]; simp [cmpI]
  have h0 : x - y = Qi.mk' (x.a * y.den + -y.a * x.den) (x.b * y.den + -y.b * x.den) (x.den * y.den) := by
    obtain ⟨n1, n2, n3⟩ := Qi.neg_a y
    rw [Qi.sub_def, ← Qi.mk_add, n1, n2, n3]
  obtain ⟨k, hk, _, h2, _⟩ := Qi.mk_scale (x.a * y.den + -y.a * x.den) (x.b * y.den + -y.b * x.den) (Nat.mul_pos x.den_pos y.den_pos)
  rw [← h0] at h2
  have e1 : cmpI (x.a * y.den) (y.a * x.den) = cmpR x y := by
    rw [cmpI_sub, cmpR]
    have e : x.a * y.den - y.a * x.den = (x - y).a * k := by rw [← h2, Int.neg_mul]; omega
    rw [e]
    refine cmpI_sgn ?_ ?_
    · constructor
      · intro h; exact Int.not_le.1 fun g => by have := Int.mul_nonneg g (by omega : (0 : Int) ≤ k); omega
      · intro h; exact Int.mul_neg_of_neg_of_pos h (by omega)
    · constructor
      · intro h; exact Int.not_le.1 fun g => by have := Int.mul_nonpos_of_nonpos_of_nonneg g (by omega : (0 : Int) ≤ k); omega
      · intro h; exact Int.mul_pos h (by omega)
  unfold cmpQ
  rw [e1, e2]
  by_cases h : cmpR x y ≠ 0
  · rw [if_pos h]
  · rw [if_neg h]; exact (Decidable.not_not.1 h).symm
def rcmp (x y : Qi) : Int := if cmpI (x - y).a 0 ≠ 0 then cmpI (x - y).a 0 else cmpI (x - y).imp.a 0
theorem rcmp_real {x y : Qi} (hx : x.b = 0) (hy : y.b = 0) : rcmp x y = cmpR x y := by
  have e : (x - y).imp.a = 0 := Qi.a_zero.2 (Qi.sub_im0 hx hy)
  unfold rcmp cmpR
  rw [e]
  by_cases h : cmpI (x - y).a 0 ≠ 0
  · rw [if_pos h]
  · rw [if_neg h, Decidable.not_not.1 h]; rfl
theorem real_ext {x y : Qi} (hx : x.b = 0) (hy : y.b = 0) (h : x.re = y.re) : x = y := Qi.ext' h (by rw [Qi.b_zero.1 hx, Qi.b_zero.1 hy])
def firstE (f : Nat → Int) : Nat → Int
  | 0 => 0
  | n + 1 => if firstE f n ≠ 0 then firstE f n else f n
theorem firstE_at {f : Nat → Int} {k : Nat} (h : ∀ i, i < k → f i = 0) (hk : f k ≠ 0) : ∀ {n : Nat}, k < n → firstE f n = f k := by
  have hz : firstE f k = 0 := by
    clear hk
    induction k with
    | zero => rfl
    | succ k ih => rw [firstE, ih (fun i hi => h i (by omega)), if_neg (by simp), h k (by omega)]
  intro n
  induction n with
  | zero => intro h; omega
  | succ n ih =>
    intro hn
    by_cases e : n = k
    · rw [e, firstE, hz, if_neg (by simp)]
    · rw [firstE, ih (by omega), if_pos hk]
theorem firstE_none {f : Nat → Int} : ∀ {n : Nat}, (∀ i, i < n → f i = 0) → firstE f n = 0
  | 0, _ => rfl
  | n + 1, h => by rw [firstE, firstE_none (fun i hi => h i (by omega)), if_neg (by simp), h n (by omega)]
theorem firstE_zero {f : Nat → Int} : ∀ {n : Nat}, firstE f n = 0 → ∀ i, i < n → f i = 0
  | 0, _, i, hi => by omega
  | n + 1, h, i, hi => by
    rw [firstE] at h
    split at h
    · rename_i c; exact absurd h c
    · rename_i c
      by_cases e : i = n
      · rw [e]; exact h
      · exact firstE_zero (Decidable.not_not.1 c) i (by omega)
abbrev eF (l : List (Qi × Qi)) (i : Nat) : Qi := (l.getD i (Qi.zero, Qi.zero)).1
abbrev eV (l : List (Qi × Qi)) (i : Nat) : Qi := (l.getD i (Qi.zero, Qi.zero)).2
def entErr (l : List (Qi × Qi)) (i : Nat) : Int := if posQ (eF l i) = true ∧ (eV l i).b = 0 then (if 0 < i ∧ cmpR (eF l i) (eF l (i - 1)) ≤ 0 then 7 else 0) else 1
def tabErr (l : List (Qi × Qi)) (f : Qi) : Int :=
  if l.length = 0 ∨ 1024 < l.length then 4 else if firstE (entErr l) l.length ≠ 0 then firstE (entErr l) l.length else if f.b ≠ 0 then 1 else 0
def lerp (l : List (Qi × Qi)) (f : Qi) (i : Nat) : Qi := eV l (i - 1) + (eV l i - eV l (i - 1)) * ((f - eF l (i - 1)) / (eF l i - eF l (i - 1)))
def lerp2 (l : List (Qi × Qi)) (f : Qi) (i : Nat) : Qi := (eV l (i - 1) * (eF l i - f) + eV l i * (f - eF l (i - 1))) / ((f - eF l (i - 1)) + (eF l i - f))
def lookAt (l : List (Qi × Qi)) (f : Qi) (i : Int) : Qi × Int :=
  if i < 0 then (Qi.zero, 5) else if eF l i.toNat = f then (eV l i.toNat, 0) else if i = 0 then (Qi.zero, 5) else (lerp l f i.toNat, 0)
def lookR (l : List (Qi × Qi)) (f : Qi) : Qi × Int :=
  if tabErr l f ≠ 0 then (Qi.zero, tabErr l f) else lookAt l f (idxZ (fun e => decide (0 ≤ cmpQ e.1 f)) l)
structure TabOk (l : List (Qi × Qi)) (f : Qi) : Prop where
  real : ∀ i, i < l.length → (eF l i).b = 0 ∧ (eV l i).b = 0
  up : ∀ i, 0 < i → i < l.length → (eF l (i - 1)).re < (eF l i).re
  fr : f.b = 0
theorem posQ_b {x : Qi} (h : posQ x = true) : x.b = 0 := by simp only [posQ, decide_eq_true_eq] at h; exact h.1
theorem entErr_zero {l : List (Qi × Qi)} {i : Nat} (h : entErr l i = 0) : (posQ (eF l i) = true ∧ (eV l i).b = 0) ∧ (0 < i → (eF l (i - 1)).re < (eF l i).re) := by
  unfold entErr at h
  split at h
  · rename_i c
    refine ⟨c, fun hi => ?_⟩
    split at h
    · cases h
    · rename_i c2
      have : ¬ cmpR (eF l i) (eF l (i - 1)) ≤ 0 := fun k => c2 ⟨hi, k⟩
      rw [cmpR_le] at this
      exact Rat.not_le.1 this
  · cases h
theorem tab_ok {l : List (Qi × Qi)} {f : Qi} (h : tabErr l f = 0) : TabOk l f := by
  unfold tabErr at h
  split at h
  · cases h
  · split at h
    · rename_i c; exact absurd h c
    · rename_i c
      have h0 := firstE_zero (Decidable.not_not.1 c)
      split at h
      · cases h
      · rename_i c2
        exact ⟨fun i hi => ⟨posQ_b (entErr_zero (h0 i hi)).1.1, (entErr_zero (h0 i hi)).1.2⟩, fun i h1 hi => (entErr_zero (h0 i hi)).2 h1, Decidable.not_not.1 c2⟩
theorem TabOk.mono {l : List (Qi × Qi)} {f : Qi} (h : TabOk l f) {i : Nat} : ∀ {j : Nat}, i < j → j < l.length → (eF l i).re < (eF l j).re
  | 0, h1, _ => by omega
  | j + 1, h1, h2 => by
    have h3 := h.up (j + 1) (by omega) h2
    rw [Nat.add_sub_cancel] at h3
    by_cases e : i = j
    · rw [e]; exact h3
    · have := h.mono (i := i) (j := j) (by omega) (by omega)
      grind
theorem TabOk.cmp {l : List (Qi × Qi)} {f : Qi} (h : TabOk l f) {i : Nat} (hi : i < l.length) : cmpQ (eF l i) f = cmpR (eF l i) f := cmpQ_real (h.real i hi).1 h.fr
theorem get_e {l : List (Qi × Qi)} {i : Nat} {e : Qi × Qi} (h : l[i]? = some e) : l.getD i (Qi.zero, Qi.zero) = e := by simp [List.getD, h]
theorem some_e {l : List (Qi × Qi)} {i : Nat} (h : i < l.length) : l[i]? = some (l.getD i (Qi.zero, Qi.zero)) := by simp [List.getD, h]
theorem look_idx {l : List (Qi × Qi)} {f : Qi} (h : TabOk l f) {k : Nat} (hk : k < l.length) (h1 : f.re ≤ (eF l k).re) (h2 : ∀ i, i < k → (eF l i).re < f.re) : idxZ (fun e : Qi × Qi => decide (0 ≤ cmpQ e.1 f)) l = (k : Int) := by
  refine idxZ_at (some_e hk) ?_ fun i y hi hy => ?_
  · show decide (0 ≤ cmpQ (eF l k) f) = true
    rw [h.cmp hk]; exact decide_eq_true (cmpR_ge.2 h1)
  · have e : y = l.getD i (Qi.zero, Qi.zero) := (get_e hy).symm
    show decide (0 ≤ cmpQ y.1 f) = false
    rw [e]
    show decide (0 ≤ cmpQ (eF l i) f) = false
    rw [h.cmp (by omega)]; exact decide_eq_false fun g => Rat.not_lt.2 (cmpR_ge.1 g) (h2 i hi)
theorem look_no {l : List (Qi × Qi)} {f : Qi} (h : TabOk l f) (h2 : ∀ i, i < l.length → (eF l i).re < f.re) : idxZ (fun e : Qi × Qi => decide (0 ≤ cmpQ e.1 f)) l = -1 := by
  refine idxZ_none fun i y hy => ?_
  have hi := (List.getElem?_eq_some_iff.1 hy).1
  have e : y = l.getD i (Qi.zero, Qi.zero) := (get_e hy).symm
  show decide (0 ≤ cmpQ y.1 f) = false
  rw [e]
  show decide (0 ≤ cmpQ (eF l i) f) = false
  rw [h.cmp hi]; exact decide_eq_false fun g => Rat.not_lt.2 (cmpR_ge.1 g) (h2 i hi)
theorem look_same {l : List (Qi × Qi)} {f : Qi} (h0 : tabErr l f = 0) {k : Nat} (hk : k < l.length) (h1 : eF l k = f) : lookR l f = (eV l k, 0) := by
  have h := tab_ok h0
  rw [lookR, if_neg (fun g => g h0), look_idx h hk (by rw [h1]; exact Rat.le_refl) (fun i hi => by rw [← h1]; exact h.mono hi hk), lookAt, if_neg (by omega), Int.toNat_natCast, if_pos h1]
theorem Qi.sub_ne {x y : Qi} (h : x.re ≠ y.re) : x - y ≠ Qi.zero := fun e => h (by
  have : (x - y).re = 0 := by rw [e]; rfl
  have h2 : x.re - y.re = 0 := this
  grind)
theorem lerp_eq {l : List (Qi × Qi)} {f : Qi} {k : Nat} (h : (eF l (k - 1)).re ≠ (eF l k).re) : lerp2 l f k = lerp l f k := by
  unfold lerp2 lerp
  generalize eF l (k - 1) = a at h
  generalize eF l k = b at h
  generalize eV l (k - 1) = u
  generalize eV l k = v
  have e : (f - a) + (b - f) = b - a := Qi.ext' (by show (f.re - a.re) + (b.re - f.re) = b.re - a.re; grind) (by show (f.im - a.im) + (b.im - f.im) = b.im - a.im; grind)
  have hd : b - a ≠ Qi.zero := Qi.sub_ne (Ne.symm h)
  rw [e]
  refine Qi.div_of hd ?_
  obtain ⟨q, hq⟩ : ∃ q, q = (f - a) / (b - a) := ⟨_, rfl⟩
  have hq2 : q * (b - a) = f - a := by
    have hn : (b - a).nrm ≠ 0 := fun e => hd (Qi.nrm_zero.1 e)
    have e1 : Qi.inv (b - a) * (b - a) = Qi.ofInt 1 := Qi.ext'
      (by show ((b - a).re / (b - a).nrm) * (b - a).re - (-(b - a).im / (b - a).nrm) * (b - a).im = 1; have : (b - a).nrm = (b - a).re * (b - a).re + (b - a).im * (b - a).im := rfl; grind)
      (by show ((b - a).re / (b - a).nrm) * (b - a).im + (-(b - a).im / (b - a).nrm) * (b - a).re = 0; grind)
    rw [hq, Qi.div_def, Qi.mul_assoc', e1]
    exact Qi.ext' (by show (f - a).re * (1 : Int) - (f - a).im * (0 : Rat) = (f - a).re; grind) (by show (f - a).re * (0 : Rat) + (f - a).im * (1 : Int) = (f - a).im; grind)
  rw [← hq, Qi.add_mul', Qi.mul_assoc', hq2]
  exact Qi.ext' (by show (u.re * (b.re - a.re) - u.im * (b.im - a.im)) + ((v.re - u.re) * (f.re - a.re) - (v.im - u.im) * (f.im - a.im)) = (u.re * (b.re - f.re) - u.im * (b.im - f.im)) + (v.re * (f.re - a.re) - v.im * (f.im - a.im)); grind)
    (by show (u.re * (b.im - a.im) + u.im * (b.re - a.re)) + ((v.re - u.re) * (f.im - a.im) + (v.im - u.im) * (f.re - a.re)) = (u.re * (b.im - f.im) + u.im * (b.re - f.re)) + (v.re * (f.im - a.im) + v.im * (f.re - a.re)); grind)
theorem look_mid {l : List (Qi × Qi)} {f : Qi} (h0 : tabErr l f = 0) {k : Nat} (h1 : 0 < k) (hk : k < l.length) (h2 : cmpR (eF l (k - 1)) f < 0) (h3 : cmpR f (eF l k) < 0) : lookR l f = (lerp2 l f k, 0) := by
  have h := tab_ok h0
  rw [cmpR_lt] at h2 h3
  have hup := h.up k h1 hk
  rw [lookR, if_neg (fun g => g h0), look_idx h hk (by grind) (fun i hi => by
    by_cases e : i = k - 1
    · rw [e]; exact h2
    · have := h.mono (i := i) (j := k - 1) (by omega) (by omega); grind), lookAt, if_neg (by omega), Int.toNat_natCast, if_neg (fun e => by rw [e] at h3; exact Rat.lt_irrefl h3), if_neg (by omega), lerp_eq (by grind)]
theorem look_none {l : List (Qi × Qi)} {f : Qi} (h0 : tabErr l f = 0) (h1 : ∀ k, k < l.length → eF l k ≠ f) (h2 : ∀ k, 0 < k → k < l.length → cmpR (eF l (k - 1)) f < 0 → ¬ cmpR f (eF l k) < 0) : lookR l f = (Qi.zero, 5) := by
  have h := tab_ok h0
  rw [lookR, if_neg (fun g => g h0)]
  by_cases hn : l.length = 0
  · rw [look_no h (fun i hi => by omega)]; rfl
  by_cases hz : (eF l 0).re < f.re
  · have all : ∀ i, i < l.length → (eF l i).re < f.re := fun i => by
      induction i with
      | zero => intro _; exact hz
      | succ i ih =>
        intro hi
        have g1 := ih (by omega)
        have g2 := h2 (i + 1) (by omega) hi
        rw [Nat.add_sub_cancel, cmpR_lt, cmpR_lt] at g2
        have g3 := Rat.not_lt.1 (g2 g1)
        exact Rat.lt_of_le_of_ne g3 fun e => h1 _ hi (real_ext (h.real _ hi).1 h.fr e)
    rw [look_no h all]; rfl
  · rw [look_idx h (k := 0) (by omega) (Rat.not_lt.1 hz) (fun i hi => by omega)]
    rw [lookAt, if_neg (by omega), Int.toNat_natCast, if_neg (h1 0 (by omega)), if_pos (by rfl)]
theorem look_err {l : List (Qi × Qi)} {f : Qi} {e : Int} (h : tabErr l f = e) (he : e ≠ 0) : lookR l f = (Qi.zero, e) := by rw [lookR, if_pos (by rw [h]; exact he), h]
theorem tab_size {l : List (Qi × Qi)} {f : Qi} (h : l.length = 0 ∨ 1024 < l.length) : tabErr l f = 4 := by rw [tabErr, if_pos h]
theorem tab_ent {l : List (Qi × Qi)} {f : Qi} {k : Nat} {e : Int} (h : ¬ (l.length = 0 ∨ 1024 < l.length)) (hk : k < l.length) (h0 : ∀ i, i < k → entErr l i = 0) (h1 : entErr l k = e) (he : e ≠ 0) : tabErr l f = e := by
  have := firstE_at h0 (by rw [h1]; exact he) hk
  rw [tabErr, if_neg h, this, h1, if_pos he]
theorem tab_arg {l : List (Qi × Qi)} {f : Qi} (h : ¬ (l.length = 0 ∨ 1024 < l.length)) (h0 : ∀ i, i < l.length → entErr l i = 0) : tabErr l f = if f.b ≠ 0 then 1 else 0 := by
  rw [tabErr, if_neg h, firstE_none h0, if_neg (by simp)]
theorem ent_one {l : List (Qi × Qi)} {k : Nat} (h : (!posQ (eF l k) || !decide ((eV l k).b = 0)) = true) : entErr l k = 1 := by
  rw [entErr, if_neg]
  rintro ⟨a, b⟩; rw [a, b] at h; simp at h
theorem ent_ok {l : List (Qi × Qi)} {k : Nat} (h : (!posQ (eF l k) || !decide ((eV l k).b = 0)) = false) : posQ (eF l k) = true ∧ (eV l k).b = 0 := by simpa using h
theorem ent_order {l : List (Qi × Qi)} {k : Nat} (h : posQ (eF l k) = true ∧ (eV l k).b = 0) : entErr l k = if 0 < k ∧ cmpR (eF l k) (eF l (k - 1)) ≤ 0 then 7 else 0 := by rw [entErr, if_pos h]
theorem idxZ_lt {α : Type} {p : α → Bool} {l : List α} {m : Nat} (h : (m : Int) = idxZ p l) : m < l.length := by
  unfold idxZ at h
  split at h
  · rename_i i e
    obtain ⟨hl, _⟩ := List.findIdx?_eq_some_iff_getElem.1 e
    omega
  · omega
theorem idxZ_map {α β : Type} (g : α → β) (p : β → Bool) (l : List α) : idxZ p (l.map g) = idxZ (fun x => p (g x)) l := by
  unfold idxZ; rw [List.findIdx?_map]; rfl
theorem idxZ_ge {α : Type} (p : α → Bool) (l : List α) : -1 ≤ idxZ p l := by
  unfold idxZ; split <;> omega
theorem look_ok {l : List (Qi × Qi)} {f : Qi} (h : tabErr l f = 0) : lookR l f = lookAt l f (idxZ (fun e => decide (0 ≤ cmpQ e.1 f)) l) := by rw [lookR, if_neg (fun g => g h)]
theorem at_none {l : List (Qi × Qi)} {f : Qi} {i : Int} (h : i < 0) : lookAt l f i = (Qi.zero, 5) := by rw [lookAt, if_pos h]
theorem at_same {l : List (Qi × Qi)} {f : Qi} {m : Nat} (h : eF l m = f) : lookAt l f (m : Int) = (eV l m, 0) := by rw [lookAt, if_neg (by omega), Int.toNat_natCast, if_pos h]
theorem at_zero {l : List (Qi × Qi)} {f : Qi} (h : ¬ eF l 0 = f) : lookAt l f ((0 : Nat) : Int) = (Qi.zero, 5) := by rw [lookAt, if_neg (by omega), Int.toNat_natCast, if_neg h, if_pos (by rfl)]
theorem at_mid {l : List (Qi × Qi)} {f : Qi} {m : Nat} (h : ¬ eF l m = f) (h2 : ¬ m = 0) : lookAt l f (m : Int) = (lerp l f m, 0) := by rw [lookAt, if_neg (by omega), Int.toNat_natCast, if_neg h, if_neg (by omega)]
def FitE (l : List (Qi × Qi)) (L : Nat) : Prop := ∀ e, e ∈ l → FitC e.1 L ∧ FitC e.2 L
theorem FitE.get {l : List (Qi × Qi)} {L : Nat} (h : FitE l L) (hL : 1 ≤ L) (i : Nat) : FitC (eF l i) L ∧ FitC (eV l i) L := by
  by_cases hi : i < l.length
  · have e : l.getD i (Qi.zero, Qi.zero) = l[i] := by simp [List.getD, hi]
    show FitC (l.getD i _).1 L ∧ FitC (l.getD i _).2 L
    rw [e]; exact h _ (List.getElem_mem hi)
  · have e : l.getD i (Qi.zero, Qi.zero) = (Qi.zero, Qi.zero) := by simp [List.getD, List.getElem?_eq_none (Nat.le_of_not_lt hi)]
    show FitC (l.getD i _).1 L ∧ FitC (l.getD i _).2 L
    rw [e]; exact ⟨FitC.zero hL, FitC.zero hL⟩
theorem lookR_fit {l : List (Qi × Qi)} {f : Qi} {L : Nat} (h : FitE l L) (hf : FitC f L) (hL : 1 ≤ L) : FitC (lookR l f).1 (20 * L + 20) := by
  have hz : FitC Qi.zero (20 * L + 20) := FitC.zero (by omega)
  unfold lookR
  split
  · exact hz
  generalize idxZ _ l = i
  unfold lookAt
  split
  · exact hz
  split
  · exact (h.get hL _).2.le (by omega)
  split
  · exact hz
  haveI f1 := (h.get hL i.toNat).1
  haveI f2 := (h.get hL i.toNat).2
  haveI f3 := (h.get hL (i.toNat - 1)).1
  haveI f4 := (h.get hL (i.toNat - 1)).2
  by_cases hd : eF l i.toNat - eF l (i.toNat - 1) = Qi.zero
  · have e : (f - eF l (i.toNat - 1)) / (eF l i.toNat - eF l (i.toNat - 1)) = Qi.zero := by
      rw [hd, Qi.div_def]
      have : Qi.inv Qi.zero = Qi.zero := Qi.ext' (by show (0 : Rat) / Qi.zero.nrm = 0; grind) (by show -(0 : Rat) / Qi.zero.nrm = 0; grind)
      rw [this, Qi.mul_zero']
    show FitC (lerp l f i.toNat) _
    rw [lerp, e, Qi.mul_zero', Qi.add_zero']
    exact f4.le (by omega)
  · have g : FitC (f - eF l (i.toNat - 1)) (L + L + 1) := inferInstance
    have g2 : FitC (eF l i.toNat - eF l (i.toNat - 1)) (L + L + 1) := inferInstance
    haveI g3 : FitC ((f - eF l (i.toNat - 1)) / (eF l i.toNat - eF l (i.toNat - 1))) ((L + L + 1) + 3 * (L + L + 1) + 2) := ⟨g.fit.div g2.fit hd⟩
    have g4 : FitC (lerp l f i.toNat) (L + ((L + L + 1) + ((L + L + 1) + 3 * (L + L + 1) + 2) + 1) + 1) := by unfold lerp; infer_instance
    exact g4.le (by omega)
theorem look_back {l : List (Qi × Qi)} {k : Nat} (hk : k < l.length) (h : (lookR l (eF l k)).2 = 0) : (lookR l (eF l k)).1 = eV l k := by
  by_cases h0 : tabErr l (eF l k) = 0
  · rw [look_same h0 hk rfl]
  · rw [lookR, if_pos h0] at h; exact absurd h h0
end Go.Proofs.YtppibhcfaahgpaaGreat
namespace Go.Proofs.YtppibhcfaahgpaaGreat
open Go Go.RowKit
theorem bld_173_0_1 {n : Nat} {E : Env} {H : Hp} {d : Option Tmp} {t : TypeId} {pos : String} {af : Array Edge} {g : Option (Nat × Bool)} {x0 x1 : Operand} {T0 T1 T2 T3 T4 T5 T6 T7 T8 T9 : Ty} (h0 : Has E x0 (AggT [T0, T1, T2, T3, T4])) (h1 : Has E x1 (AggT [T5, T6, T7, T8, T9])) :
    OpTy Tryz.prog n E H ⟨d, .build 173 #[(0, x0), (1, x1)], t, pos, af, g⟩ (AggT [T0, T1, T2, T3, T4, T5, T6, T7, T8, T9]) :=
  op_build (parts := [(0, x0), (1, x1)]) fun a V w hs => by
    obtain ⟨v0, e0, c0⟩ := h0 n V a hs
    obtain ⟨c0_0, c0_1, c0_2, c0_3, c0_4, rfl⟩ : ∃ c0_0 c0_1 c0_2 c0_3 c0_4, v0 = [c0_0, c0_1, c0_2, c0_3, c0_4] := list5 (by simpa using c0.length)
    obtain ⟨v1, e1, c1⟩ := h1 n V a hs
    obtain ⟨c1_0, c1_1, c1_2, c1_3, c1_4, rfl⟩ : ∃ c1_0 c1_1 c1_2 c1_3 c1_4, v1 = [c1_0, c1_1, c1_2, c1_3, c1_4] := list5 (by simpa using c1.length)
    refine ⟨.agg #[c0_0, c0_1, c0_2, c0_3, c0_4, c1_0, c1_1, c1_2, c1_3, c1_4], ?_, [c0_0, c0_1, c0_2, c0_3, c0_4, c1_0, c1_1, c1_2, c1_3, c1_4], rfl, Cells.cons' (c0.at (i := 0) rfl rfl) (Cells.cons' (c0.at (i := 1) rfl rfl) (Cells.cons' (c0.at (i := 2) rfl rfl) (Cells.cons' (c0.at (i := 3) rfl rfl) (Cells.cons' (c0.at (i := 4) rfl rfl) (Cells.cons' (c1.at (i := 0) rfl rfl) (Cells.cons' (c1.at (i := 1) rfl rfl) (Cells.cons' (c1.at (i := 2) rfl rfl) (Cells.cons' (c1.at (i := 3) rfl rfl) (Cells.cons' (c1.at (i := 4) rfl rfl) (Cells.nil))))))))))⟩
    simp [e0, e1, Instr.build, Instr.fill, Sem.run_bind, Result.andThen, cells_agg, Tryz.zeroValue173, Tryz.runUnderlying173, Tryz.sizeOf57]
theorem bld_88_0_1 {n : Nat} {E : Env} {H : Hp} {d : Option Tmp} {t : TypeId} {pos : String} {af : Array Edge} {g : Option (Nat × Bool)} {x0 x1 : Operand} {T0 T1 T2 T3 T4 T5 T6 T7 T8 T9 : Ty} (h0 : Has E x0 (AggT [T0, T1, T2, T3, T4])) (h1 : Has E x1 (AggT [T5, T6, T7, T8, T9])) :
    OpTy Tryz.prog n E H ⟨d, .build 88 #[(0, x0), (1, x1)], t, pos, af, g⟩ (AggT [T0, T1, T2, T3, T4, T5, T6, T7, T8, T9]) :=
  op_build (parts := [(0, x0), (1, x1)]) fun a V w hs => by
    obtain ⟨v0, e0, c0⟩ := h0 n V a hs
    obtain ⟨c0_0, c0_1, c0_2, c0_3, c0_4, rfl⟩ : ∃ c0_0 c0_1 c0_2 c0_3 c0_4, v0 = [c0_0, c0_1, c0_2, c0_3, c0_4] := list5 (by simpa using c0.length)
    obtain ⟨v1, e1, c1⟩ := h1 n V a hs
    obtain ⟨c1_0, c1_1, c1_2, c1_3, c1_4, rfl⟩ : ∃ c1_0 c1_1 c1_2 c1_3 c1_4, v1 = [c1_0, c1_1, c1_2, c1_3, c1_4] := list5 (by simpa using c1.length)
    refine ⟨.agg #[c0_0, c0_1, c0_2, c0_3, c0_4, c1_0, c1_1, c1_2, c1_3, c1_4], ?_, [c0_0, c0_1, c0_2, c0_3, c0_4, c1_0, c1_1, c1_2, c1_3, c1_4], rfl, Cells.cons' (c0.at (i := 0) rfl rfl) (Cells.cons' (c0.at (i := 1) rfl rfl) (Cells.cons' (c0.at (i := 2) rfl rfl) (Cells.cons' (c0.at (i := 3) rfl rfl) (Cells.cons' (c0.at (i := 4) rfl rfl) (Cells.cons' (c1.at (i := 0) rfl rfl) (Cells.cons' (c1.at (i := 1) rfl rfl) (Cells.cons' (c1.at (i := 2) rfl rfl) (Cells.cons' (c1.at (i := 3) rfl rfl) (Cells.cons' (c1.at (i := 4) rfl rfl) (Cells.nil))))))))))⟩
    simp [e0, e1, Instr.build, Instr.fill, Sem.run_bind, Result.andThen, cells_agg, Tryz.zeroValue88, Tryz.runUnderlying88, Tryz.sizeOf49]
theorem fa_171_0 (a : Addr) (w : World) : (Instr.fieldAt 171 (.pointer (some a)) 0).run Tryz.prog w = .ok (.pointer (some (a.add 0))) w := by
  simp [Instr.fieldAt, Instr.sureAddr, fieldPlace, Sem.run_bind, Result.andThen, Tryz.runUnderlying171, Tryz.sizeOf27]
theorem fa_171_1 (a : Addr) (w : World) : (Instr.fieldAt 171 (.pointer (some a)) 1).run Tryz.prog w = .ok (.pointer (some (a.add 3))) w := by
  simp [Instr.fieldAt, Instr.sureAddr, fieldPlace, Sem.run_bind, Result.andThen, Tryz.runUnderlying171, Tryz.sizeOf27]
theorem fa_88_0 (a : Addr) (w : World) : (Instr.fieldAt 88 (.pointer (some a)) 0).run Tryz.prog w = .ok (.pointer (some (a.add 0))) w := by
  simp [Instr.fieldAt, Instr.sureAddr, fieldPlace, Sem.run_bind, Result.andThen, Tryz.runUnderlying88, Tryz.sizeOf49]
theorem fa_88_1 (a : Addr) (w : World) : (Instr.fieldAt 88 (.pointer (some a)) 1).run Tryz.prog w = .ok (.pointer (some (a.add 5))) w := by
  simp [Instr.fieldAt, Instr.sureAddr, fieldPlace, Sem.run_bind, Result.andThen, Tryz.runUnderlying88, Tryz.sizeOf49]
theorem info_173 : Tryz.prog.info? 173 = some Tryz.t173 := by kernel_rfl
theorem info_88 : Tryz.prog.info? 88 = some Tryz.t88 := by kernel_rfl
theorem und_81 : Tryz.prog.underlying 81 = some (.slice 88) := by kernel_rfl
theorem und_82 : Tryz.prog.underlying 82 = some (.slice 173) := by kernel_rfl
end Go.Proofs.YtppibhcfaahgpaaGreat
namespace Go.Proofs.YtppibhcfaahgpaaGreat
open Go Go.RowKit
abbrev EntT (e : Qi × Qi) : Ty := AggT [BoolT (decide (e.1.a < 0)), NatT e.1.a.natAbs, BoolT (decide (e.1.b < 0)), NatT e.1.b.natAbs, NatT (du e.1), BoolT (decide (e.2.a < 0)), NatT e.2.a.natAbs, BoolT (decide (e.2.b < 0)), NatT e.2.b.natAbs, NatT (du e.2)]
abbrev REntT (e : Qi × Qi) : Ty := AggT [BoolT (decide (e.1.a < 0)), NatT e.1.a.natAbs, BoolT (decide (e.1.b < 0)), NatT e.1.b.natAbs, NatT e.1.den, BoolT (decide (e.2.a < 0)), NatT e.2.a.natAbs, BoolT (decide (e.2.b < 0)), NatT e.2.b.natAbs, NatT e.2.den]
abbrev LEntT (e : Rt × Rt) : Ty := AggT [IntT .i64 e.1.re, IntT .i64 e.1.im, IntT .i64 e.1.den, IntT .i64 e.2.re, IntT .i64 e.2.im, IntT .i64 e.2.den]
abbrev EntsT (l : List (Qi × Qi)) : Ty := SlT 10 (l.map EntT)
abbrev REntsT (l : List (Qi × Qi)) : Ty := SlT 10 (l.map REntT)
abbrev LEntsT (l : List (Rt × Rt)) : Ty := SlT 6 (l.map LEntT)
abbrev qe (l : List (Rt × Rt)) : List (Qi × Qi) := l.map fun e => (e.1.q, e.2.q)
set_option maxRecDepth 20000 in
theorem c_above {x : Qi} {L : Nat} [hx : FitC x L] (h : L ≤ 8796093022208) : Fun Tryz.prog 109 [NumT x] (BoolT (posQ x)) := by
  refine Fun.intro Tryz.func109 rfl Tryz.ntmps109 rfl (fun cx => ?_)
  refine T_seq ?_
  refine T_region ?_
  refine R_new rfl rfl rfl (new_box (Has.t rfl)) (fun B1 => ?_)
  refine R_op rfl rfl rfl (op_assign Has.c) ?_
  refine R_nil ?_
  refine T_seq ?_
  refine D_start (m := 5) ?_
  refine D_step (Ei := [(1, _)]) rfl rfl (Srcs.cons (Src.pre rfl rfl) Srcs.nil) (S_plain rfl (op_ldBA Tryz.isAgg49 Tryz.sizeOf49 (Has.t rfl) (i := 0) rfl rfl rfl)) ?_
  refine D_step (Ei := [(3, _)]) rfl rfl (Srcs.cons (Src.op 0 rfl rfl) Srcs.nil) (S_plain rfl (op_call Tryz.call32 c_Real ⟨(Has.t rfl), trivial⟩)) ?_
  refine D_step (Ei := [(4, _)]) rfl rfl (Srcs.cons (Src.op 1 rfl rfl) Srcs.nil) (S_plain rfl (op_move (Has.t rfl))) ?_
  refine D_step (Ei := [(1, _), (5, _)]) rfl rfl (Srcs.cons (Src.pre rfl rfl) (Srcs.cons (Src.op 2 rfl rfl) Srcs.nil)) (S_when rfl rfl (Has.t rfl) (fun h => op_ldBA Tryz.isAgg49 Tryz.sizeOf49 (Has.t rfl) (i := 0) rfl rfl rfl)) ?_
  refine D_step (Ei := [(5, _)]) rfl rfl (Srcs.cons (Src.op 2 rfl rfl) Srcs.nil) (S_when rfl rfl (Has.t rfl) (fun h => op_call Tryz.call28 (c_Int (n := 0) (by decide) (by decide)) ⟨(Has.cN 0), trivial⟩)) ?_
  refine D_done mixed rfl (by kernel_rfl) (F_val (F_val (F_val (F_val (F_val (F_nil ?_))))))
  refine R_step rfl rfl (S_when rfl rfl (Has.t rfl) (fun h => op_call Tryz.call33 (c_Cmp (x := x) (y := Qi.ofInt 0) (L := L) (M := 1) (hy := (FitC.zero (Nat.le_refl 1) : FitC (Qi.ofInt 0) 1)) (by omega)) ⟨(Has.w rfl h), (Has.w rfl h), trivial⟩)) ?_
  refine R_step rfl rfl (S_when rfl rfl (Has.t rfl) (fun h => op_gtr (Has.w rfl h) Has.c)) ?_
  refine R_op rfl rfl rfl (op_and (Has.t rfl) (fun h => (Has.w rfl h))) ?_
  refine R_op rfl rfl rfl (op_assign (Has.t rfl)) ?_
  refine R_nil ?_
  refine T_ret1 rfl (rv_to (rv_tmp rfl) ?_)
  exact (bool_of (pos_eq x))
set_option maxRecDepth 20000 in
theorem c_ratio {x y : Qi} {L M : Nat} [hx : FitC x L] [hy : FitC y M] (h : L + 3 * M + 2 ≤ 17592186044415) : Fun Tryz.prog 112 [NumT x, NumT y] (NumT (x / y)) := by
  refine Fun.intro Tryz.func112 rfl Tryz.ntmps112 rfl (fun cx => ?_)
  refine T_seq ?_
  refine T_region ?_
  refine R_new rfl rfl rfl (new_box (Has.t rfl)) (fun B2 => ?_)
  refine R_new rfl rfl rfl (new_box (Has.t rfl)) (fun B3 => ?_)
  refine R_new rfl rfl rfl (new_alloc (Ts := [Is (.bool false), Is (.slice none 0 0), Is (.bool false), Is (.slice none 0 0), Is (.slice none 0 0)]) Tryz.zeroValue49 rfl (fun V => Cells.cons' ⟨rfl, trivial⟩ (Cells.cons' ⟨rfl, trivial⟩ (Cells.cons' ⟨rfl, trivial⟩ (Cells.cons' ⟨rfl, trivial⟩ (Cells.cons' ⟨rfl, trivial⟩ (Cells.nil))))))) (fun B4 => ?_)
  refine R_nil ?_
  refine T_seq ?_
  refine T_region ?_
  refine R_op rfl rfl rfl (op_ldBA Tryz.isAgg49 Tryz.sizeOf49 (Has.t rfl) (i := 0) rfl rfl rfl) ?_
  refine R_op rfl rfl rfl (op_ldBA Tryz.isAgg49 Tryz.sizeOf49 (Has.t rfl) (i := 1) rfl rfl rfl) ?_
  refine R_op rfl rfl rfl (op_call Tryz.call174 (c_Div (by omega)) ⟨(Has.t rfl), (Has.t rfl), trivial⟩) ?_
  refine R_op rfl rfl rfl (op_move (Has.t rfl)) ?_
  refine R_op rfl rfl rfl (op_extract (Has.t rfl) rfl) ?_
  refine R_op rfl rfl rfl (op_extract (Has.t rfl) rfl) ?_
  refine R_new rfl rfl rfl (new_alloc (Ts := [Is (.bool false), Is (.slice none 0 0), Is (.bool false), Is (.slice none 0 0), Is (.slice none 0 0)]) Tryz.zeroValue49 rfl (fun V => Cells.cons' ⟨rfl, trivial⟩ (Cells.cons' ⟨rfl, trivial⟩ (Cells.cons' ⟨rfl, trivial⟩ (Cells.cons' ⟨rfl, trivial⟩ (Cells.cons' ⟨rfl, trivial⟩ (Cells.nil))))))) (fun B5 => ?_)
  refine R_stA Tryz.sizeOf49 (Has.t rfl) (Has.t rfl) rfl (i := 3) rfl (Nat.le_of_ble_eq_true rfl) rfl rfl ?_
  refine R_op rfl rfl rfl (op_assign (Has.t rfl)) ?_
  refine R_nil ?_
  refine T_seq ?_
  refine T_region ?_
  refine R_op rfl rfl rfl (op_ldBA Tryz.isAgg49 Tryz.sizeOf49 (Has.t rfl) (i := 3) rfl rfl rfl) ?_
  refine R_stA Tryz.sizeOf49 (Has.t rfl) (Has.t rfl) rfl (i := 2) rfl (Nat.le_of_ble_eq_true rfl) rfl rfl ?_
  refine R_nil ?_
  exact T_ret1 rfl (rv_cell Tryz.isAgg49 Tryz.sizeOf49 rfl (i := 2) rfl rfl)
set_option maxRecDepth 20000 in
theorem c_Lookup1 {e : Qi × Qi} {f : Qi} {L M : Nat} [h1 : FitC e.1 L] [h2 : FitC f M] (h : L + M ≤ 17592186044415) : Fun Tryz.prog 111 [EntT e, PT (NumT f)] (BoolT (decide (0 ≤ cmpQ e.1 f))) := by
  refine Fun.intro Tryz.func111 rfl Tryz.ntmps111 rfl (fun cx => ?_)
  refine T_seq ?_
  refine T_region ?_
  refine R_new rfl rfl rfl (new_box (Has.t rfl)) (fun B2 => ?_)
  refine R_op rfl rfl rfl (op_assign Has.c) ?_
  refine R_nil ?_
  refine T_seq ?_
  refine T_region ?_
  refine R_op rfl rfl rfl (op_fldB fa_88_0 (Has.t rfl) rfl) ?_
  refine R_op rfl rfl rfl (op_ldBA Tryz.isAgg49 Tryz.sizeOf49 (Has.t rfl) (i := 0) rfl rfl rfl) ?_
  refine R_op rfl rfl rfl (op_ld Tryz.isAgg49 Tryz.sizeOf49 (Has.t rfl)) ?_
  refine R_op rfl rfl rfl (op_call Tryz.call33 (c_Cmp (by omega)) ⟨(Has.t rfl), (Has.t rfl), trivial⟩) ?_
  refine R_op rfl rfl rfl (op_geq (Has.t rfl) Has.c) ?_
  refine R_op rfl rfl rfl (op_assign (Has.t rfl)) ?_
  refine R_nil ?_
  exact T_ret1 rfl (rv_tmp rfl)
set_option maxRecDepth 20000 in
theorem c_IndexEnt {γ : Type} {l : List γ} {T : γ → Ty} {p : γ → Bool} [sh : ∀ x, Shape (T x) 10 true] (hl : l.length ≤ 1000000) : Fun Tryz.prog 110 [SlT 10 (l.map T), ClT Tryz.prog γ (fun x => [T x]) (fun x => BoolT (p x))] (IntT .i64 (idxZ p l)) := by
  refine Fun.intro Tryz.func110 rfl Tryz.ntmps110 rfl (fun cx => ?_)
  refine T_seq ?_
  refine T_region ?_
  refine R_op rfl rfl rfl (op_assign (Has.cN 0)) ?_
  refine R_nil ?_
  refine T_seq ?_
  refine T_seq ?_
  refine T_region ?_
  refine R_op rfl rfl rfl (op_move (Has.t rfl)) ?_
  refine R_op rfl rfl rfl (op_len Tryz.runUnderlying81 (Has.t rfl) len_map) ?_
  refine R_op rfl rfl rfl (op_move (Has.cN 0)) ?_
  refine R_nil ?_
  refine T_block ?_
  refine T_loop (fun (k : Nat) => k ≤ l.length ∧ ∀ (i : Nat) (x : γ), i < k → l[i]? = some x → p x = false) (fun (k : Nat) => l.length - k) (fun (k : Nat) => [(0, SlT 10 (l.map T)), (1, ClT Tryz.prog γ (fun x => [T x]) (fun x => BoolT (p x))), (7, NT .i64 l.length), (8, NT .i64 k)]) (fun (k : Nat) => []) 0 ⟨Nat.zero_le _, fun i x h => by omega⟩
    (Sub.cons rfl (Sub.cons rfl (Sub.cons rfl (Sub.cons rfl Sub.nil)))) HSub.nil (fun k ⟨hk, hn⟩ => ?_)
  refine T_seq ?_
  refine T_region ?_
  refine R_op rfl rfl rfl (op_lssN (Has.t rfl) (Has.t rfl)) ?_
  refine R_nil ?_
  refine T_seq ?_
  refine T_cond (Has.t rfl) (fun hb => ?_) (fun hb => ?_)
  · simp only [decide_eq_true_eq] at hb
    refine T_skip ?_
    refine T_seq ?_
    refine T_block ?_
    refine T_seq ?_
    refine T_region ?_
    refine R_op rfl rfl rfl (op_move (Has.t rfl)) ?_
    refine R_op rfl rfl rfl (op_assign (Has.t rfl)) ?_
    refine R_nil ?_
    refine T_seq ?_
    refine T_region ?_
    refine R_op rfl rfl rfl (op_move (Has.t rfl)) ?_
    refine R_op rfl rfl rfl (op_move (Has.t rfl)) ?_
    refine R_op rfl rfl rfl (op_move (Has.t rfl)) ?_
    refine R_op rfl rfl rfl (op_idx Tryz.runUnderlying81 Tryz.sizeOf88 (Has.t rfl) (Has.t rfl) rfl (map_get (getq hb))) ?_
    refine R_op rfl rfl rfl (op_ld Tryz.isAgg88 Tryz.sizeOf88 (Has.t rfl)) ?_
    refine R_op rfl rfl rfl (op_callV (l[k]) (Has.t rfl) ⟨(Has.t rfl), trivial⟩) ?_
    refine R_nil ?_
    refine T_cond (Has.t rfl) (fun hc => ?_) (fun hc => ?_)
    · have hp : p l[k] = true := hc
      refine T_seq ?_
      refine T_region ?_
      refine R_op rfl rfl rfl (op_move (Has.t rfl)) ?_
      refine R_op rfl rfl rfl (op_assign (Has.t rfl)) ?_
      refine R_nil ?_
      refine T_ret1 rfl (rv_to (rv_tmp rfl) ?_)
      exact (int_of (idxZ_at (getq hb) hp hn).symm)
    · have hp : p l[k] = false := hc
      refine T_skip ?_
      refine T_blk ?_
      refine T_region ?_
      refine R_op rfl rfl rfl (op_addN (Has.t rfl) (Has.cN 1) (by show _ < 9223372036854775808; first | omega | (simp only [lim]; omega))) ?_
      refine R_op rfl rfl rfl (op_move (Has.t rfl)) ?_
      refine R_nil ?_
      refine T_again (k + 1) ⟨hb, fun i x h1 h2 => by
          by_cases e : i = k
          · subst e; rw [getq hb] at h2; obtain rfl := Option.some.inj h2; exact hp
          · exact hn i x (by omega) h2⟩ (by omega) (Sub.cons rfl (Sub.cons rfl (Sub.cons rfl (Sub.cons rfl Sub.nil)))) HSub.nil
  · simp only [decide_eq_false_iff_not] at hb
    refine T_exit rfl ?_
    refine T_seq ?_
    refine T_region ?_
    refine R_op rfl rfl rfl (op_assign Has.c) ?_
    refine R_nil ?_
    refine T_ret1 rfl (rv_to (rv_tmp rfl) ?_)
    exact (int_of (idxZ_none (fun i x h => hn i x (by have := (List.getElem?_eq_some_iff.1 h).1; omega) h)).symm)
set_option maxHeartbeats 1000000 in
set_option maxRecDepth 20000 in
theorem c_Lookup {l : List (Qi × Qi)} {f : Qi} {L : Nat} (hl : FitE l L) (hf : FitC f L) (hL1 : 1 ≤ L) (hL : L ≤ 1000000) (hn : l.length ≤ 1000000) : Fun Tryz.prog 35 [EntsT l, NumT f] (TupT [NumT (lookR l f).1, IntT .i64 (lookR l f).2]) := by
  haveI := hf
  obtain ⟨m, hm⟩ : ∃ m : List {e : Qi × Qi // FitC e.1 L ∧ FitC e.2 L}, l = m.map Subtype.val := ⟨l.attach.map fun x => ⟨x.1, hl x.1 x.2⟩, by rw [List.map_map]; exact (List.attach_map_subtype_val l).symm⟩
  have hml : m.length ≤ 1000000 := by rw [hm] at hn; simpa using hn
  refine Fun.intro Tryz.func35 rfl Tryz.ntmps35 rfl (fun cx => ?_)
  refine T_seq ?_
  refine T_region ?_
  refine R_new rfl rfl rfl (new_box (Has.t rfl)) (fun B3 => ?_)
  refine R_new rfl rfl rfl (new_alloc (Ts := [Is (.bool false), Is (.slice none 0 0), Is (.bool false), Is (.slice none 0 0), Is (.slice none 0 0)]) Tryz.zeroValue49 rfl (fun V => Cells.cons' ⟨rfl, trivial⟩ (Cells.cons' ⟨rfl, trivial⟩ (Cells.cons' ⟨rfl, trivial⟩ (Cells.cons' ⟨rfl, trivial⟩ (Cells.cons' ⟨rfl, trivial⟩ (Cells.nil))))))) (fun B4 => ?_)
  refine R_op rfl rfl rfl (op_assign (Has.cN 0)) ?_
  refine R_nil ?_
  refine T_seq ?_
  refine T_seq ?_
  refine T_freeze (i := 0) (tt := 3) rfl rfl frz_ptr ?_
  refine T_region ?_
  refine R_op rfl rfl rfl (op_move (Has.t rfl)) ?_
  refine R_op rfl rfl rfl (op_len Tryz.runUnderlying81 (Has.t rfl) len_map) ?_
  refine R_op rfl rfl rfl (op_eqlN (Has.t rfl) (Has.cN 0)) ?_
  refine R_op rfl rfl rfl (op_move (Has.t rfl)) ?_
  refine R_step rfl rfl (S_when rfl rfl (Has.t rfl) (fun h => op_move (Has.t rfl))) ?_
  refine R_step rfl rfl (S_when rfl rfl (Has.t rfl) (fun h => op_len Tryz.runUnderlying81 (Has.w rfl h) len_map)) ?_
  refine R_step rfl rfl (S_when rfl rfl (Has.t rfl) (fun h => op_gtrN (Has.w rfl h) (Has.cN 1024))) ?_
  refine R_op rfl rfl rfl (op_or (Has.t rfl) (fun h => (Has.w rfl h))) ?_
  refine R_nil ?_
  refine T_cond (Has.t rfl) (fun hb => ?_) (fun hb => ?_)
  · have he : tabErr l f = 4 := tab_size (by simpa only [Bool.or_eq_true, decide_eq_true_eq] using hb)
    refine T_seq ?_
    refine T_region ?_
    refine R_op rfl rfl rfl (OpTy.imp (bld_49_ ) num_zero) ?_
    refine R_stA Tryz.sizeOf49 (Has.t rfl) (Has.t rfl) rfl (i := 1) rfl (Nat.le_of_ble_eq_true rfl) rfl rfl ?_
    refine R_op rfl rfl rfl (op_assign (Has.cN 4)) ?_
    refine R_nil ?_
    refine T_ret2 rfl (rv_to (rv_cell Tryz.isAgg49 Tryz.sizeOf49 rfl (i := 1) rfl rfl) ?_) (rv_to (rv_tmp rfl) ?_)
    · exact (num_of (by rw [look_err he (by decide)]))
    · exact (int_of (by rw [look_err he (by decide)]; rfl))
  · have hne : ¬ (l.length = 0 ∨ 1024 < l.length) := by simp only [Bool.or_eq_false_iff, decide_eq_false_iff_not] at hb; omega
    refine T_skip ?_
    refine T_seq ?_
    refine T_seq ?_
    refine T_region ?_
    refine R_op rfl rfl rfl (op_move (Has.t rfl)) ?_
    refine R_op rfl rfl rfl (op_len Tryz.runUnderlying81 (Has.t rfl) len_map) ?_
    refine R_op rfl rfl rfl (op_move (Has.cN 0)) ?_
    refine R_nil ?_
    refine T_block ?_
    refine T_keep [1] rfl (by decide) ?_
    refine T_loop (fun (k : Nat) => k ≤ l.length ∧ ∀ i, i < k → entErr l i = 0) (fun (k : Nat) => l.length - k) (fun (k : Nat) => [(0, EntsT l), (3, PT (NumT f)), (4, PtrB B4 0), (20, EntsT l), (21, NT .i64 l.length), (22, NT .i64 k)]) (fun (k : Nat) => [box B4 49 [Is (.bool false), Is (.slice none 0 0), Is (.bool false), Is (.slice none 0 0), Is (.slice none 0 0)]]) 0 ⟨Nat.zero_le _, fun i h => by omega⟩
      (Sub.cons rfl (Sub.cons rfl (Sub.cons rfl (Sub.cons rfl (Sub.cons rfl (Sub.cons rfl Sub.nil)))))) (HSub.refl _) (fun k ⟨hk, h0⟩ => ?_)
    refine T_seq ?_
    refine T_region ?_
    refine R_op rfl rfl rfl (op_lssN (Has.t rfl) (Has.t rfl)) ?_
    refine R_nil ?_
    refine T_seq ?_
    refine T_cond (Has.t rfl) (fun hc => ?_) (fun hc => ?_)
    · simp only [decide_eq_true_eq] at hc
      haveI f1 : FitC (eF l k) L := (hl.get hL1 k).1
      haveI f2 : FitC (eF l (k - 1)) L := (hl.get hL1 (k - 1)).1
      refine T_skip ?_
      refine T_seq ?_
      refine T_block ?_
      refine T_seq ?_
      refine T_region ?_
      refine R_op rfl rfl rfl (op_move (Has.t rfl)) ?_
      refine R_op rfl rfl rfl (op_idx Tryz.runUnderlying81 Tryz.sizeOf88 (Has.t rfl) (Has.t rfl) rfl (map_get (getD_some (d := (Qi.zero, Qi.zero)) hc))) ?_
      refine R_op rfl rfl rfl (op_ld Tryz.isAgg88 Tryz.sizeOf88 (Has.t rfl)) ?_
      refine R_new rfl rfl rfl (new_alloc (Ts := [Is (.bool false), Is (.slice none 0 0), Is (.bool false), Is (.slice none 0 0), Is (.slice none 0 0), Is (.bool false), Is (.slice none 0 0), Is (.bool false), Is (.slice none 0 0), Is (.slice none 0 0)]) Tryz.zeroValue88 rfl (fun V => Cells.cons' ⟨rfl, trivial⟩ (Cells.cons' ⟨rfl, trivial⟩ (Cells.cons' ⟨rfl, trivial⟩ (Cells.cons' ⟨rfl, trivial⟩ (Cells.cons' ⟨rfl, trivial⟩ (Cells.cons' ⟨rfl, trivial⟩ (Cells.cons' ⟨rfl, trivial⟩ (Cells.cons' ⟨rfl, trivial⟩ (Cells.cons' ⟨rfl, trivial⟩ (Cells.cons' ⟨rfl, trivial⟩ (Cells.nil)))))))))))) (fun B7 => ?_)
      refine R_op rfl rfl rfl (op_assign (Has.t rfl)) ?_
      refine R_stA Tryz.sizeOf88 (Has.t rfl) (Has.t rfl) rfl (i := 1) rfl (Nat.le_of_ble_eq_true rfl) rfl rfl ?_
      refine R_nil ?_
      refine T_seq ?_
      refine T_seq ?_
      refine T_region ?_
      refine R_op rfl rfl rfl (op_fldB fa_88_0 (Has.t rfl) rfl) ?_
      refine R_op rfl rfl rfl (op_ldBA Tryz.isAgg49 Tryz.sizeOf49 (Has.t rfl) (i := 1) rfl rfl rfl) ?_
      refine R_op rfl rfl rfl (op_call Tryz.call109 (c_above (x := eF l k) (L := L) (by omega)) ⟨(Has.t rfl), trivial⟩) ?_
      refine R_op rfl rfl rfl (op_not (Has.t rfl)) ?_
      refine R_op rfl rfl rfl (op_move (Has.t rfl)) ?_
      refine R_step rfl rfl (S_when rfl rfl (Has.t rfl) (fun h => op_fldB fa_88_1 (Has.t rfl) rfl)) ?_
      refine R_step rfl rfl (S_when rfl rfl (Has.t rfl) (fun h => op_ldBA Tryz.isAgg49 Tryz.sizeOf49 (Has.w rfl h) (i := 1) rfl rfl rfl)) ?_
      refine R_step rfl rfl (S_when rfl rfl (Has.t rfl) (fun h => op_call Tryz.call32 c_Real ⟨(Has.w rfl h), trivial⟩)) ?_
      refine R_step rfl rfl (S_when rfl rfl (Has.t rfl) (fun h => op_not (Has.w rfl h))) ?_
      refine R_op rfl rfl rfl (op_or (Has.t rfl) (fun h => (Has.w rfl h))) ?_
      refine R_nil ?_
      refine T_cond (Has.t rfl) (fun hd => ?_) (fun hd => ?_)
      · have he : tabErr l f = 1 := tab_ent hne hc h0 (ent_one hd) (by decide)
        refine T_seq ?_
        refine T_region ?_
        refine R_op rfl rfl rfl (OpTy.imp (bld_49_ ) num_zero) ?_
        refine R_stA Tryz.sizeOf49 (Has.t rfl) (Has.t rfl) rfl (i := 0) rfl (Nat.le_of_ble_eq_true rfl) rfl rfl ?_
        refine R_op rfl rfl rfl (op_assign (Has.cN 1)) ?_
        refine R_nil ?_
        refine T_ret2 rfl (rv_to (rv_cell Tryz.isAgg49 Tryz.sizeOf49 rfl (i := 0) rfl rfl) ?_) (rv_to (rv_tmp rfl) ?_)
        · exact (num_of (by rw [look_err he (by decide)]))
        · exact (int_of (by rw [look_err he (by decide)]; rfl))
      · have hok := ent_ok hd
        have hrl : 0 < k → (eF l (k - 1)).b = 0 := fun h => posQ_b (entErr_zero (h0 (k - 1) (by omega))).1.1
        refine T_skip ?_
        refine T_seq ?_
        refine D_start (m := 11) ?_
        refine D_step (Ei := [(6, _)]) rfl rfl (Srcs.cons (Src.pre rfl rfl) Srcs.nil) (S_plain rfl (op_move (Has.t rfl))) ?_
        refine D_step (Ei := [(38, _)]) rfl rfl (Srcs.cons (Src.op 0 rfl rfl) Srcs.nil) (S_plain rfl (op_gtrN (Has.t rfl) (Has.cN 0))) ?_
        refine D_step (Ei := [(39, _)]) rfl rfl (Srcs.cons (Src.op 1 rfl rfl) Srcs.nil) (S_plain rfl (op_move (Has.t rfl))) ?_
        refine D_step (Ei := [(7, _), (40, _)]) rfl rfl (Srcs.cons (Src.pre rfl rfl) (Srcs.cons (Src.op 2 rfl rfl) Srcs.nil)) (S_when rfl rfl (Has.t rfl) (fun h => op_fldB fa_88_0 (Has.t rfl) rfl)) ?_
        refine D_step (Ei := [(41, _), (40, _)]) rfl rfl (Srcs.cons (Src.op 3 rfl rfl) (Srcs.cons (Src.op 2 rfl rfl) Srcs.nil)) (S_when rfl rfl (Has.t rfl) (fun h => op_ldBA Tryz.isAgg49 Tryz.sizeOf49 (Has.w rfl h) (i := 1) rfl rfl rfl)) ?_
        refine D_step (Ei := [(0, _), (40, _)]) rfl rfl (Srcs.cons (Src.pre rfl rfl) (Srcs.cons (Src.op 2 rfl rfl) Srcs.nil)) (S_when rfl rfl (Has.t rfl) (fun h => op_move (Has.t rfl))) ?_
        refine D_step (Ei := [(6, _), (40, _)]) rfl rfl (Srcs.cons (Src.pre rfl rfl) (Srcs.cons (Src.op 2 rfl rfl) Srcs.nil)) (S_when rfl rfl (Has.t rfl) (fun h => op_move (Has.t rfl))) ?_
        refine D_step (Ei := [(44, _), (40, _)]) rfl rfl (Srcs.cons (Src.op 6 rfl rfl) (Srcs.cons (Src.op 2 rfl rfl) Srcs.nil)) (S_when rfl rfl (Has.t rfl) (fun h => op_subN (Has.w rfl h) (Has.cN 1) (by first | omega | (simp at h; omega)) (by show _ < 9223372036854775808; first | omega | (simp at h; omega)))) ?_
        refine D_step (Ei := [(43, _), (45, _), (40, _)]) rfl rfl (Srcs.cons (Src.op 5 rfl rfl) (Srcs.cons (Src.op 7 rfl rfl) (Srcs.cons (Src.op 2 rfl rfl) Srcs.nil))) (S_when rfl rfl (Has.t rfl) (fun h => op_idx Tryz.runUnderlying81 Tryz.sizeOf88 (Has.w rfl h) (Has.w rfl h) rfl (map_get (getD_some (d := (Qi.zero, Qi.zero)) (by simp at h; omega))))) ?_
        refine D_step (Ei := [(46, _), (40, _)]) rfl rfl (Srcs.cons (Src.op 8 rfl rfl) (Srcs.cons (Src.op 2 rfl rfl) Srcs.nil)) (S_when rfl rfl (Has.t rfl) (fun h => op_fld (s := 5) fa_88_0 (Has.w rfl h) rfl)) ?_
        refine D_step (Ei := [(47, _), (40, _)]) rfl rfl (Srcs.cons (Src.op 9 rfl rfl) (Srcs.cons (Src.op 2 rfl rfl) Srcs.nil)) (S_when rfl rfl (Has.t rfl) (fun h => op_ld Tryz.isAgg49 Tryz.sizeOf49 (Has.w rfl h))) ?_
        refine D_done mixed rfl (by kernel_rfl) (F_val (F_val (F_val (F_val (F_val (F_val (F_val (F_val (F_val (F_val (F_val (F_nil ?_))))))))))))
        refine R_step rfl rfl (S_when rfl rfl (Has.t rfl) (fun h => op_call Tryz.call33 (c_Cmp (x := eF l k) (y := eF l (k - 1)) (L := L) (M := L) (by omega)) ⟨(Has.w rfl h), (Has.w rfl h), trivial⟩)) ?_
        refine R_step rfl rfl (S_when rfl rfl (Has.t rfl) (fun h => op_leq (Has.w rfl h) Has.c)) ?_
        refine R_op rfl rfl rfl (op_and (Has.t rfl) (fun h => (Has.w rfl h))) ?_
        refine R_nil ?_
        refine T_cond (Has.t rfl) (fun hg => ?_) (fun hg => ?_)
        · have hg2 : 0 < k ∧ cmpQ (eF l k) (eF l (k - 1)) ≤ 0 := by simpa using hg
          rw [cmpQ_real (posQ_b hok.1) (hrl hg2.1)] at hg2
          have he : tabErr l f = 7 := tab_ent hne hc h0 (by rw [ent_order hok, if_pos hg2]) (by decide)
          refine T_seq ?_
          refine T_region ?_
          refine R_op rfl rfl rfl (OpTy.imp (bld_49_ ) num_zero) ?_
          refine R_stA Tryz.sizeOf49 (Has.t rfl) (Has.t rfl) rfl (i := 0) rfl (Nat.le_of_ble_eq_true rfl) rfl rfl ?_
          refine R_op rfl rfl rfl (op_assign (Has.cN 7)) ?_
          refine R_nil ?_
          refine T_ret2 rfl (rv_to (rv_cell Tryz.isAgg49 Tryz.sizeOf49 rfl (i := 0) rfl rfl) ?_) (rv_to (rv_tmp rfl) ?_)
          · exact (num_of (by rw [look_err he (by decide)]))
          · exact (int_of (by rw [look_err he (by decide)]; rfl))
        · have hg2 : ¬ (0 < k ∧ cmpQ (eF l k) (eF l (k - 1)) ≤ 0) := by simpa using hg
          have hk0 : entErr l k = 0 := by
            rw [ent_order hok, if_neg]
            rintro ⟨p1, p2⟩
            exact hg2 ⟨p1, by rw [cmpQ_real (posQ_b hok.1) (hrl p1)]; exact p2⟩
          refine T_skip ?_
          refine T_blk ?_
          refine T_region ?_
          refine R_op rfl rfl rfl (op_addN (Has.t rfl) (Has.cN 1) (by show _ < 9223372036854775808; first | omega | (simp only [lim]; omega))) ?_
          refine R_op rfl rfl rfl (op_move (Has.t rfl)) ?_
          refine R_nil ?_
          refine T_keep [0] rfl (by decide) ?_
          refine T_again (k + 1) ⟨hc, fun i h => by
              by_cases e : i = k
              · rw [e]; exact hk0
              · exact h0 i (by omega)⟩ (by omega) (Sub.cons rfl (Sub.cons rfl (Sub.cons rfl (Sub.cons rfl (Sub.cons rfl (Sub.cons rfl Sub.nil)))))) (HSub.refl _)
    · simp only [decide_eq_false_iff_not] at hc
      have harg := tab_arg (f := f) hne (fun i h => h0 i (by omega))
      refine T_exit rfl ?_
      refine T_seq ?_
      refine T_seq ?_
      refine T_region ?_
      refine R_op rfl rfl rfl (op_ld Tryz.isAgg49 Tryz.sizeOf49 (Has.t rfl)) ?_
      refine R_op rfl rfl rfl (op_call Tryz.call32 c_Real ⟨(Has.t rfl), trivial⟩) ?_
      refine R_op rfl rfl rfl (op_not (Has.t rfl)) ?_
      refine R_nil ?_
      refine T_cond (Has.t rfl) (fun he => ?_) (fun he => ?_)
      · have he2 : ¬ f.b = 0 := by simpa using he
        have he : tabErr l f = 1 := by rw [harg, if_pos he2]
        refine T_seq ?_
        refine T_region ?_
        refine R_op rfl rfl rfl (OpTy.imp (bld_49_ ) num_zero) ?_
        refine R_stA Tryz.sizeOf49 (Has.t rfl) (Has.t rfl) rfl (i := 0) rfl (Nat.le_of_ble_eq_true rfl) rfl rfl ?_
        refine R_op rfl rfl rfl (op_assign (Has.cN 1)) ?_
        refine R_nil ?_
        refine T_ret2 rfl (rv_to (rv_cell Tryz.isAgg49 Tryz.sizeOf49 rfl (i := 0) rfl rfl) ?_) (rv_to (rv_tmp rfl) ?_)
        · exact (num_of (by rw [look_err he (by decide)]))
        · exact (int_of (by rw [look_err he (by decide)]; rfl))
      · have he2 : f.b = 0 := by simpa using he
        have hz : tabErr l f = 0 := by rw [harg, if_neg (fun k => k he2)]
        have hlk := look_ok hz
        obtain ⟨i, hi⟩ : ∃ i, i = idxZ (fun e : Qi × Qi => decide (0 ≤ cmpQ e.1 f)) l := ⟨_, rfl⟩
        have hge := idxZ_ge (fun e : Qi × Qi => decide (0 ≤ cmpQ e.1 f)) l
        rw [← hi] at hlk hge
        have hi2 : idxZ (fun x : {e : Qi × Qi // FitC e.1 L ∧ FitC e.2 L} => decide (0 ≤ cmpQ x.1.1 f)) m = i := by rw [hi, hm, idxZ_map]
        refine T_skip ?_
        refine T_seq ?_
        refine T_region ?_
        refine R_op rfl rfl rfl (OpTy.imp (op_move (Has.t rfl)) (slT_of (Us := m.map fun x => EntT x.1) (by rw [hm]; simp [List.map_map, Function.comp_def]))) ?_
        refine R_op rfl rfl rfl (op_clos (γ := {e : Qi × Qi // FitC e.1 L ∧ FitC e.2 L}) (Ts := fun x => [EntT x.1]) (U := fun x => BoolT (decide (0 ≤ cmpQ x.1.1 f))) Tryz.call111 (fun x => haveI := x.2.1; c_Lookup1 (L := L) (M := L) (by omega)) ⟨(Has.t rfl), trivial⟩) ?_
        refine R_op rfl rfl rfl (op_call Tryz.call110 (Fun.imp (c_IndexEnt (l := m) (T := fun x => EntT x.1) (p := fun x => decide (0 ≤ cmpQ x.1.1 f)) hml) (int_of hi2)) ⟨(Has.t rfl), (Has.t rfl), trivial⟩) ?_
        refine R_op rfl rfl rfl (op_assign (Has.t rfl)) ?_
        refine R_nil ?_
        refine T_seq ?_
        refine T_block ?_
        refine T_seq ?_
        refine T_region ?_
        refine R_op rfl rfl rfl (op_move (Has.t rfl)) ?_
        refine R_op rfl rfl rfl (op_lss (Has.t rfl) Has.c) ?_
        refine R_op rfl rfl rfl (op_assign (Has.t rfl)) ?_
        refine R_nil ?_
        refine T_cond (Has.t rfl) (fun hg => ?_) (fun hg => ?_)
        · have hg2 : i < 0 := by simpa using hg
          refine T_seq ?_
          refine T_region ?_
          refine R_op rfl rfl rfl (OpTy.imp (bld_49_ ) num_zero) ?_
          refine R_stA Tryz.sizeOf49 (Has.t rfl) (Has.t rfl) rfl (i := 0) rfl (Nat.le_of_ble_eq_true rfl) rfl rfl ?_
          refine R_op rfl rfl rfl (op_assign (Has.cN 5)) ?_
          refine R_nil ?_
          refine T_ret2 rfl (rv_to (rv_cell Tryz.isAgg49 Tryz.sizeOf49 rfl (i := 0) rfl rfl) ?_) (rv_to (rv_tmp rfl) ?_)
          · exact (num_of (by rw [hlk, at_none hg2]))
          · exact (int_of (by rw [hlk, at_none hg2]; rfl))
        · have hg2 : ¬ i < 0 := by simpa using hg
          obtain ⟨q, rfl⟩ : ∃ q : Nat, i = (q : Int) := ⟨i.toNat, by omega⟩
          have hq := idxZ_lt hi
          haveI f1 : FitC (eF l q) L := (hl.get hL1 q).1
          haveI f2 : FitC (eF l (q - 1)) L := (hl.get hL1 (q - 1)).1
          haveI f3 : FitC (eV l q) L := (hl.get hL1 q).2
          haveI f4 : FitC (eV l (q - 1)) L := (hl.get hL1 (q - 1)).2
          refine T_seq ?_
          refine D_start (m := 6) ?_
          refine D_step (Ei := [(0, _)]) rfl rfl (Srcs.cons (Src.pre rfl rfl) Srcs.nil) (S_plain rfl (op_move (Has.t rfl))) ?_
          refine D_step (Ei := [(8, _)]) rfl rfl (Srcs.cons (Src.pre rfl rfl) Srcs.nil) (S_plain rfl (op_move (Has.t rfl))) ?_
          refine D_step (Ei := [(66, _), (67, _)]) rfl rfl (Srcs.cons (Src.op 0 rfl rfl) (Srcs.cons (Src.op 1 rfl rfl) Srcs.nil)) (S_plain rfl (op_idx Tryz.runUnderlying81 Tryz.sizeOf88 (Has.t rfl) (Has.t rfl) rfl (map_get (getD_some (d := (Qi.zero, Qi.zero)) hq)))) ?_
          refine D_step (Ei := [(68, _)]) rfl rfl (Srcs.cons (Src.op 2 rfl rfl) Srcs.nil) (S_plain rfl (op_fld (s := 5) fa_88_0 (Has.t rfl) rfl)) ?_
          refine D_step (Ei := [(69, _)]) rfl rfl (Srcs.cons (Src.op 3 rfl rfl) Srcs.nil) (S_plain rfl (op_ld Tryz.isAgg49 Tryz.sizeOf49 (Has.t rfl))) ?_
          refine D_step (Ei := [(3, _)]) rfl rfl (Srcs.cons (Src.pre rfl rfl) Srcs.nil) (S_plain rfl (op_ld Tryz.isAgg49 Tryz.sizeOf49 (Has.t rfl))) ?_
          refine D_done mixed rfl (by kernel_rfl) (F_val (F_val (F_val (F_val (F_val (F_val (F_nil ?_)))))))
          refine R_op rfl rfl rfl (op_call Tryz.call27 (c_Same (x := eF l q) (y := f) (L := L) (M := L) (by omega) (by omega)) ⟨(Has.t rfl), (Has.t rfl), trivial⟩) ?_
          refine R_op rfl rfl rfl (op_assign (Has.t rfl)) ?_
          refine R_nil ?_
          refine T_cond (Has.t rfl) (fun hs => ?_) (fun hs => ?_)
          · have hs2 : eF l q = f := by simpa using hs
            refine T_seq ?_
            refine T_region ?_
            refine R_op rfl rfl rfl (op_move (Has.t rfl)) ?_
            refine R_op rfl rfl rfl (op_move (Has.t rfl)) ?_
            refine R_op rfl rfl rfl (op_idx Tryz.runUnderlying81 Tryz.sizeOf88 (Has.t rfl) (Has.t rfl) rfl (map_get (getD_some (d := (Qi.zero, Qi.zero)) hq))) ?_
            refine R_op rfl rfl rfl (op_fld (s := 5) fa_88_1 (Has.t rfl) rfl) ?_
            refine R_op rfl rfl rfl (op_ld Tryz.isAgg49 Tryz.sizeOf49 (Has.t rfl)) ?_
            refine R_stA Tryz.sizeOf49 (Has.t rfl) (Has.t rfl) rfl (i := 0) rfl (Nat.le_of_ble_eq_true rfl) rfl rfl ?_
            refine R_op rfl rfl rfl (op_assign (Has.cN 0)) ?_
            refine R_nil ?_
            refine T_ret2 rfl (rv_to (rv_cell Tryz.isAgg49 Tryz.sizeOf49 rfl (i := 0) rfl rfl) ?_) (rv_to (rv_tmp rfl) ?_)
            · exact (num_of (by rw [hlk, at_same hs2]))
            · exact (int_of (by rw [hlk, at_same hs2]; rfl))
          · have hs2 : ¬ eF l q = f := by simpa using hs
            refine T_seq ?_
            refine T_region ?_
            refine R_op rfl rfl rfl (op_move (Has.t rfl)) ?_
            refine R_op rfl rfl rfl (op_eqlN (Has.t rfl) (Has.cN 0)) ?_
            refine R_op rfl rfl rfl (op_assign (Has.t rfl)) ?_
            refine R_nil ?_
            refine T_cond (Has.t rfl) (fun hu => ?_) (fun hu => ?_)
            · have hu2 : q = 0 := by simpa using hu
              subst hu2
              refine T_seq ?_
              refine T_region ?_
              refine R_op rfl rfl rfl (OpTy.imp (bld_49_ ) num_zero) ?_
              refine R_stA Tryz.sizeOf49 (Has.t rfl) (Has.t rfl) rfl (i := 0) rfl (Nat.le_of_ble_eq_true rfl) rfl rfl ?_
              refine R_op rfl rfl rfl (op_assign (Has.cN 5)) ?_
              refine R_nil ?_
              refine T_ret2 rfl (rv_to (rv_cell Tryz.isAgg49 Tryz.sizeOf49 rfl (i := 0) rfl rfl) ?_) (rv_to (rv_tmp rfl) ?_)
              · exact (num_of (by rw [hlk, at_zero hs2]))
              · exact (int_of (by rw [hlk, at_zero hs2]; rfl))
            · have hu2 : ¬ q = 0 := by simpa using hu
              have hmid := at_mid hs2 hu2
              refine T_skip ?_
              refine T_blk ?_
              refine T_seq ?_
              refine Y.D_start (m := 12) [] ?_
              refine Y.D_hide (Ei := [(0, _)]) rfl rfl (Y.Srcs.cons (Y.Src.pre rfl rfl) Y.Srcs.nil) rfl rfl (S_plain rfl (op_move (Has.t rfl))) ?_
              refine Y.D_hide (Ei := [(8, _)]) rfl rfl (Y.Srcs.cons (Y.Src.pre rfl rfl) Y.Srcs.nil) rfl rfl (S_plain rfl (op_move (Has.t rfl))) ?_
              refine Y.D_hide (Ei := [(83, _)]) rfl rfl (Y.Srcs.cons (Y.Src.op 1 rfl rfl) Y.Srcs.nil) rfl rfl (S_plain rfl (op_subN (Has.t rfl) (Has.cN 1) (by omega) (by show _ < 9223372036854775808; first | omega | (simp only [lim]; omega)))) ?_
              refine Y.D_hide (Ei := [(82, _), (84, _)]) rfl rfl (Y.Srcs.cons (Y.Src.op 0 rfl rfl) (Y.Srcs.cons (Y.Src.op 2 rfl rfl) Y.Srcs.nil)) rfl rfl (S_plain rfl (op_idx Tryz.runUnderlying81 Tryz.sizeOf88 (Has.t rfl) (Has.t rfl) rfl (map_get (getD_some (d := (Qi.zero, Qi.zero)) (by omega))))) ?_
              refine Y.D_hide (Ei := [(85, _)]) rfl rfl (Y.Srcs.cons (Y.Src.op 3 rfl rfl) Y.Srcs.nil) rfl rfl (S_plain rfl (op_ld Tryz.isAgg88 Tryz.sizeOf88 (Has.t rfl))) ?_
              refine Y.D_hide (Ei := [(0, _)]) rfl rfl (Y.Srcs.cons (Y.Src.pre rfl rfl) Y.Srcs.nil) rfl rfl (S_plain rfl (op_move (Has.t rfl))) ?_
              refine Y.D_hide (Ei := [(8, _)]) rfl rfl (Y.Srcs.cons (Y.Src.pre rfl rfl) Y.Srcs.nil) rfl rfl (S_plain rfl (op_move (Has.t rfl))) ?_
              refine Y.D_hide (Ei := [(87, _), (88, _)]) rfl rfl (Y.Srcs.cons (Y.Src.op 5 rfl rfl) (Y.Srcs.cons (Y.Src.op 6 rfl rfl) Y.Srcs.nil)) rfl rfl (S_plain rfl (op_idx Tryz.runUnderlying81 Tryz.sizeOf88 (Has.t rfl) (Has.t rfl) rfl (map_get (getD_some (d := (Qi.zero, Qi.zero)) hq)))) ?_
              refine Y.D_hide (Ei := [(89, _)]) rfl rfl (Y.Srcs.cons (Y.Src.op 7 rfl rfl) Y.Srcs.nil) rfl rfl (S_plain rfl (op_ld Tryz.isAgg88 Tryz.sizeOf88 (Has.t rfl))) ?_
              refine Y.D_newp (Ei := []) (fun bb => box bb 88 [BoolT (decide ((eF l (q - 1)).a < 0)), NatT (eF l (q - 1)).a.natAbs, BoolT (decide ((eF l (q - 1)).b < 0)), NatT (eF l (q - 1)).b.natAbs, NatT (du (eF l (q - 1))), BoolT (decide ((eV l (q - 1)).a < 0)), NatT (eV l (q - 1)).a.natAbs, BoolT (decide ((eV l (q - 1)).b < 0)), NatT (eV l (q - 1)).b.natAbs, NatT (du (eV l (q - 1)))]) 11 rfl rfl rfl Y.Srcs.nil rfl rfl (by kernel_rfl) (new_alloc (Ts := [Is (.bool false), Is (.slice none 0 0), Is (.bool false), Is (.slice none 0 0), Is (.slice none 0 0), Is (.bool false), Is (.slice none 0 0), Is (.bool false), Is (.slice none 0 0), Is (.slice none 0 0)]) Tryz.zeroValue88 rfl (fun V => Cells.cons' ⟨rfl, trivial⟩ (Cells.cons' ⟨rfl, trivial⟩ (Cells.cons' ⟨rfl, trivial⟩ (Cells.cons' ⟨rfl, trivial⟩ (Cells.cons' ⟨rfl, trivial⟩ (Cells.cons' ⟨rfl, trivial⟩ (Cells.cons' ⟨rfl, trivial⟩ (Cells.cons' ⟨rfl, trivial⟩ (Cells.cons' ⟨rfl, trivial⟩ (Cells.cons' ⟨rfl, trivial⟩ (Cells.nil)))))))))))) ?_
              refine Y.D_new (Ei := []) rfl rfl rfl Y.Srcs.nil rfl rfl (new_alloc (Ts := [Is (.bool false), Is (.slice none 0 0), Is (.bool false), Is (.slice none 0 0), Is (.slice none 0 0), Is (.bool false), Is (.slice none 0 0), Is (.bool false), Is (.slice none 0 0), Is (.slice none 0 0)]) Tryz.zeroValue88 rfl (fun V => Cells.cons' ⟨rfl, trivial⟩ (Cells.cons' ⟨rfl, trivial⟩ (Cells.cons' ⟨rfl, trivial⟩ (Cells.cons' ⟨rfl, trivial⟩ (Cells.cons' ⟨rfl, trivial⟩ (Cells.cons' ⟨rfl, trivial⟩ (Cells.cons' ⟨rfl, trivial⟩ (Cells.cons' ⟨rfl, trivial⟩ (Cells.cons' ⟨rfl, trivial⟩ (Cells.cons' ⟨rfl, trivial⟩ (Cells.nil)))))))))))) ?_
              refine Y.D_putN (Ei := [(86, _)]) 9 rfl rfl rfl rfl rfl rfl (Y.Srcs.cons (Y.Src.op 4 rfl rfl) Y.Srcs.nil) (fun bb => P_stA Tryz.sizeOf88 (Has.t rfl) (Has.t rfl) rfl (i := 0) rfl (Nat.le_of_ble_eq_true rfl) rfl rfl) ?_
              refine Y.D_done mixed rfl (by kernel_rfl) rfl (by simp [Y.okP]) rfl rfl (Y.F_val (Y.F_val (Y.F_val (Y.F_val (Y.F_val (Y.F_val (Y.F_val (Y.F_val (Y.F_val (Y.F_newp (fun B9 => Y.F_new (fun B10 => Y.F_putN (Y.F_nil ?_)))))))))))))
              refine R_stA Tryz.sizeOf88 (Has.t rfl) (Has.t rfl) rfl (i := 2) rfl (Nat.le_of_ble_eq_true rfl) rfl rfl ?_
              refine R_nil ?_
              refine T_seq ?_
              have tok := tab_ok hz
              have hdn : eF l q - eF l (q - 1) ≠ Qi.zero := Qi.sub_ne (fun e => by have := tok.up q (by omega) hq; rw [e] at this; exact Rat.lt_irrefl this)
              have g1 : FitC (f - eF l (q - 1)) (L + L + 1) := inferInstance
              have g2 : FitC (eF l q - eF l (q - 1)) (L + L + 1) := inferInstance
              haveI g3 : FitC ((f - eF l (q - 1)) / (eF l q - eF l (q - 1))) ((L + L + 1) + 3 * (L + L + 1) + 2) := ⟨g1.fit.div g2.fit hdn⟩
              refine D_start (m := 18) ?_
              refine D_step (Ei := [(9, _)]) rfl rfl (Srcs.cons (Src.pre rfl rfl) Srcs.nil) (S_plain rfl (op_fldB fa_88_1 (Has.t rfl) rfl)) ?_
              refine D_step (Ei := [(91, _)]) rfl rfl (Srcs.cons (Src.op 0 rfl rfl) Srcs.nil) (S_plain rfl (op_ldBA Tryz.isAgg49 Tryz.sizeOf49 (Has.t rfl) (i := 1) rfl rfl rfl)) ?_
              refine D_step (Ei := [(10, _)]) rfl rfl (Srcs.cons (Src.pre rfl rfl) Srcs.nil) (S_plain rfl (op_fldB fa_88_1 (Has.t rfl) rfl)) ?_
              refine D_step (Ei := [(93, _)]) rfl rfl (Srcs.cons (Src.op 2 rfl rfl) Srcs.nil) (S_plain rfl (op_ldBA Tryz.isAgg49 Tryz.sizeOf49 (Has.t rfl) (i := 2) rfl rfl rfl)) ?_
              refine D_step (Ei := [(9, _)]) rfl rfl (Srcs.cons (Src.pre rfl rfl) Srcs.nil) (S_plain rfl (op_fldB fa_88_1 (Has.t rfl) rfl)) ?_
              refine D_step (Ei := [(95, _)]) rfl rfl (Srcs.cons (Src.op 4 rfl rfl) Srcs.nil) (S_plain rfl (op_ldBA Tryz.isAgg49 Tryz.sizeOf49 (Has.t rfl) (i := 1) rfl rfl rfl)) ?_
              refine D_step (Ei := [(94, _), (96, _)]) rfl rfl (Srcs.cons (Src.op 3 rfl rfl) (Srcs.cons (Src.op 5 rfl rfl) Srcs.nil)) (S_plain rfl (op_call Tryz.call58 (c_Sub (x := eV l q) (y := eV l (q - 1)) (L := L) (M := L) (by omega)) ⟨(Has.t rfl), (Has.t rfl), trivial⟩)) ?_
              refine D_step (Ei := [(3, _)]) rfl rfl (Srcs.cons (Src.pre rfl rfl) Srcs.nil) (S_plain rfl (op_ld Tryz.isAgg49 Tryz.sizeOf49 (Has.t rfl))) ?_
              refine D_step (Ei := [(9, _)]) rfl rfl (Srcs.cons (Src.pre rfl rfl) Srcs.nil) (S_plain rfl (op_fldB fa_88_0 (Has.t rfl) rfl)) ?_
              refine D_step (Ei := [(99, _)]) rfl rfl (Srcs.cons (Src.op 8 rfl rfl) Srcs.nil) (S_plain rfl (op_ldBA Tryz.isAgg49 Tryz.sizeOf49 (Has.t rfl) (i := 1) rfl rfl rfl)) ?_
              refine D_step (Ei := [(98, _), (100, _)]) rfl rfl (Srcs.cons (Src.op 7 rfl rfl) (Srcs.cons (Src.op 9 rfl rfl) Srcs.nil)) (S_plain rfl (op_call Tryz.call58 (c_Sub (x := f) (y := eF l (q - 1)) (L := L) (M := L) (by omega)) ⟨(Has.t rfl), (Has.t rfl), trivial⟩)) ?_
              refine D_step (Ei := [(10, _)]) rfl rfl (Srcs.cons (Src.pre rfl rfl) Srcs.nil) (S_plain rfl (op_fldB fa_88_0 (Has.t rfl) rfl)) ?_
              refine D_step (Ei := [(102, _)]) rfl rfl (Srcs.cons (Src.op 11 rfl rfl) Srcs.nil) (S_plain rfl (op_ldBA Tryz.isAgg49 Tryz.sizeOf49 (Has.t rfl) (i := 2) rfl rfl rfl)) ?_
              refine D_step (Ei := [(9, _)]) rfl rfl (Srcs.cons (Src.pre rfl rfl) Srcs.nil) (S_plain rfl (op_fldB fa_88_0 (Has.t rfl) rfl)) ?_
              refine D_step (Ei := [(104, _)]) rfl rfl (Srcs.cons (Src.op 13 rfl rfl) Srcs.nil) (S_plain rfl (op_ldBA Tryz.isAgg49 Tryz.sizeOf49 (Has.t rfl) (i := 1) rfl rfl rfl)) ?_
              refine D_step (Ei := [(103, _), (105, _)]) rfl rfl (Srcs.cons (Src.op 12 rfl rfl) (Srcs.cons (Src.op 14 rfl rfl) Srcs.nil)) (S_plain rfl (op_call Tryz.call58 (c_Sub (x := eF l q) (y := eF l (q - 1)) (L := L) (M := L) (by omega)) ⟨(Has.t rfl), (Has.t rfl), trivial⟩)) ?_
              refine D_step (Ei := [(101, _), (106, _)]) rfl rfl (Srcs.cons (Src.op 10 rfl rfl) (Srcs.cons (Src.op 15 rfl rfl) Srcs.nil)) (S_plain rfl (op_call Tryz.call112 (c_ratio (x := f - eF l (q - 1)) (y := eF l q - eF l (q - 1)) (L := L + L + 1) (M := L + L + 1) (by omega)) ⟨(Has.t rfl), (Has.t rfl), trivial⟩)) ?_
              refine D_step (Ei := [(97, _), (107, _)]) rfl rfl (Srcs.cons (Src.op 6 rfl rfl) (Srcs.cons (Src.op 16 rfl rfl) Srcs.nil)) (S_plain rfl (op_call Tryz.call56 (c_Mul (x := eV l q - eV l (q - 1)) (y := (f - eF l (q - 1)) / (eF l q - eF l (q - 1))) (by omega)) ⟨(Has.t rfl), (Has.t rfl), trivial⟩)) ?_
              refine D_done mixed rfl (by kernel_rfl) (F_val (F_val (F_val (F_val (F_val (F_val (F_val (F_val (F_val (F_val (F_val (F_val (F_val (F_val (F_val (F_val (F_val (F_val (F_nil ?_)))))))))))))))))))
              refine R_op rfl rfl rfl (op_call Tryz.call59 (c_Add (x := eV l (q - 1)) (y := (eV l q - eV l (q - 1)) * ((f - eF l (q - 1)) / (eF l q - eF l (q - 1)))) (by omega)) ⟨(Has.t rfl), (Has.t rfl), trivial⟩) ?_
              refine R_stA Tryz.sizeOf49 (Has.t rfl) (Has.t rfl) rfl (i := 0) rfl (Nat.le_of_ble_eq_true rfl) rfl rfl ?_
              refine R_op rfl rfl rfl (op_assign (Has.cN 0)) ?_
              refine R_nil ?_
              refine T_ret2 rfl (rv_to (rv_cell Tryz.isAgg49 Tryz.sizeOf49 rfl (i := 0) rfl rfl) ?_) (rv_to (rv_tmp rfl) ?_)
              · exact (num_of (by rw [hlk, hmid]; rfl))
              · exact (int_of (by rw [hlk, hmid]; rfl))
set_option maxRecDepth 20000 in
theorem c_entries {l : List (Rt × Rt)} (hl : l.length ≤ 1000) : Fun Tryz.prog 34 [LEntsT l] (TupT [EntsT (qe l), REntsT (qe l)]) := by
  refine Fun.intro Tryz.func34 rfl Tryz.ntmps34 rfl (fun cx => ?_)
  refine T_seq ?_
  refine T_region ?_
  refine R_op rfl rfl rfl (op_assign Has.c) ?_
  refine R_op rfl rfl rfl (op_assign Has.c) ?_
  refine R_nil ?_
  refine T_seq ?_
  refine T_region ?_
  refine R_op rfl rfl rfl (op_assign Has.c) ?_
  refine R_nil ?_
  refine T_seq ?_
  refine T_region ?_
  refine R_op rfl rfl rfl (op_assign Has.c) ?_
  refine R_nil ?_
  refine T_seq ?_
  refine T_seq ?_
  refine T_region ?_
  refine R_op rfl rfl rfl (op_move (Has.t rfl)) ?_
  refine R_op rfl rfl rfl (op_len Tryz.runUnderlying80 (Has.t rfl) len_map) ?_
  refine R_op rfl rfl rfl (op_move (Has.cN 0)) ?_
  refine R_nil ?_
  refine T_block ?_
  refine T_row 88 10 ?_
  refine T_row 173 10 ?_
  refine T_loop4 (fun (k : Nat) (out : List (Qi × Qi)) (v : Value) (u : Value) => k ≤ l.length ∧ out = (qe l).take k) (fun (k : Nat) (out : List (Qi × Qi)) (v : Value) (u : Value) => l.length - k) (fun (k : Nat) (out : List (Qi × Qi)) (v : Value) (u : Value) => [(4, Is v), (5, Is u), (8, LEntsT l), (9, NT .i64 l.length), (10, NT .i64 k)]) (fun (k : Nat) (out : List (Qi × Qi)) (v : Value) (u : Value) => [rowO 88 10 v (out.map EntT), rowO 173 10 u (out.map REntT)]) 0 [] (.slice none 0 0) (.slice none 0 0) ⟨Nat.zero_le _, rfl⟩
    (Sub.cons rfl (Sub.cons rfl (Sub.cons rfl (Sub.cons rfl (Sub.cons rfl Sub.nil))))) (HSub.refl _) (fun k out v u ⟨hk, ho⟩ => ?_)
  refine T_seq ?_
  refine T_region ?_
  refine R_op rfl rfl rfl (op_lssN (Has.t rfl) (Has.t rfl)) ?_
  refine R_nil ?_
  refine T_seq ?_
  refine T_cond (Has.t rfl) (fun hd => ?_) (fun hd => ?_)
  · simp only [decide_eq_true_eq] at hd
    have hol : out.length ≤ 1000 := by rw [ho, List.length_take]; omega
    refine T_skip ?_
    refine T_seq ?_
    refine T_block ?_
    refine T_seq ?_
    refine T_region ?_
    refine R_op rfl rfl rfl (op_idx Tryz.runUnderlying80 Tryz.sizeOf171 (Has.t rfl) (Has.t rfl) rfl (map_get (getD_some (d := default) hd))) ?_
    refine R_op rfl rfl rfl (op_ld Tryz.isAgg171 Tryz.sizeOf171 (Has.t rfl)) ?_
    refine R_new rfl rfl rfl (new_alloc (Ts := [Is (.int .i64 0), Is (.int .i64 0), Is (.int .i64 0), Is (.int .i64 0), Is (.int .i64 0), Is (.int .i64 0)]) Tryz.zeroValue171 rfl (fun V => Cells.cons' ⟨rfl, trivial⟩ (Cells.cons' ⟨rfl, trivial⟩ (Cells.cons' ⟨rfl, trivial⟩ (Cells.cons' ⟨rfl, trivial⟩ (Cells.cons' ⟨rfl, trivial⟩ (Cells.cons' ⟨rfl, trivial⟩ (Cells.nil)))))))) (fun B7 => ?_)
    refine R_stA Tryz.sizeOf171 (Has.t rfl) (Has.t rfl) rfl (i := 2) rfl (Nat.le_of_ble_eq_true rfl) rfl rfl ?_
    refine R_nil ?_
    refine T_seq ?_
    refine D_start (m := 9) ?_
    refine D_step (Ei := [(4, _)]) rfl rfl (Srcs.cons (Src.pre rfl rfl) Srcs.nil) (S_plain rfl (op_move (Has.t rfl))) ?_
    refine D_step (Ei := [(7, _)]) rfl rfl (Srcs.cons (Src.pre rfl rfl) Srcs.nil) (S_plain rfl (op_fldB fa_171_0 (Has.t rfl) rfl)) ?_
    refine D_step (Ei := [(15, _)]) rfl rfl (Srcs.cons (Src.op 1 rfl rfl) Srcs.nil) (S_plain rfl (op_ldBA Tryz.isAgg27 Tryz.sizeOf27 (Has.t rfl) (i := 2) rfl rfl rfl)) ?_
    refine D_step (Ei := [(16, _)]) rfl rfl (Srcs.cons (Src.op 2 rfl rfl) Srcs.nil) (S_plain rfl (op_call Tryz.call18 (c_lawOf (r := (l.getD k default).1)) ⟨(Has.t rfl), trivial⟩)) ?_
    refine D_step (Ei := [(7, _)]) rfl rfl (Srcs.cons (Src.pre rfl rfl) Srcs.nil) (S_plain rfl (op_fldB fa_171_1 (Has.t rfl) rfl)) ?_
    refine D_step (Ei := [(18, _)]) rfl rfl (Srcs.cons (Src.op 4 rfl rfl) Srcs.nil) (S_plain rfl (op_ldBA Tryz.isAgg27 Tryz.sizeOf27 (Has.t rfl) (i := 2) rfl rfl rfl)) ?_
    refine D_step (Ei := [(19, _)]) rfl rfl (Srcs.cons (Src.op 5 rfl rfl) Srcs.nil) (S_plain rfl (op_call Tryz.call18 (c_lawOf (r := (l.getD k default).2)) ⟨(Has.t rfl), trivial⟩)) ?_
    refine D_step (Ei := [(17, _), (20, _)]) rfl rfl (Srcs.cons (Src.op 3 rfl rfl) (Srcs.cons (Src.op 6 rfl rfl) Srcs.nil)) (S_plain rfl (bld_88_0_1 (Has.t rfl) (Has.t rfl))) ?_
    refine D_step (Ei := [(21, _)]) rfl rfl (Srcs.cons (Src.op 7 rfl rfl) Srcs.nil) (S_plain rfl (op_bslice (xs := [.tmp 21]) Tryz.runUnderlying81 Tryz.sizeOf88 Tryz.zeroValue88 (Elems.cons (Has.t rfl) Elems.nil) rfl rfl rfl)) ?_
    refine D_done mixed rfl (by kernel_rfl) (F_val (F_val (F_val (F_val (F_val (F_val (F_val (F_val (F_val (F_nil ?_))))))))))
    refine R_append (inf := Tryz.t88) und_81 info_88 rfl rfl rfl (Has.t rfl) (Has.t rfl) (i := 0) rfl (by simp) (fun T hT => by simp at hT; subst hT; exact El.ag rfl) (by show _ * 176 ≤ _; simp only [List.length_map, tab_len, List.length_cons, List.length_nil]; omega) (by simp only [List.length_map, tab_len, List.length_cons, List.length_nil]; omega) rfl (fun v2 => ?_)
    refine R_op rfl rfl rfl (op_assign (Has.t rfl)) ?_
    refine R_nil ?_
    refine D_start (m := 9) ?_
    refine D_step (Ei := [(5, _)]) rfl rfl (Srcs.cons (Src.pre rfl rfl) Srcs.nil) (S_plain rfl (op_move (Has.t rfl))) ?_
    refine D_step (Ei := [(7, _)]) rfl rfl (Srcs.cons (Src.pre rfl rfl) Srcs.nil) (S_plain rfl (op_fldB fa_171_0 (Has.t rfl) rfl)) ?_
    refine D_step (Ei := [(25, _)]) rfl rfl (Srcs.cons (Src.op 1 rfl rfl) Srcs.nil) (S_plain rfl (op_ldBA Tryz.isAgg27 Tryz.sizeOf27 (Has.t rfl) (i := 2) rfl rfl rfl)) ?_
    refine D_step (Ei := [(26, _)]) rfl rfl (Srcs.cons (Src.op 2 rfl rfl) Srcs.nil) (S_plain rfl (op_call Tryz.call20 (c_rOf (r := (l.getD k default).1)) ⟨(Has.t rfl), trivial⟩)) ?_
    refine D_step (Ei := [(7, _)]) rfl rfl (Srcs.cons (Src.pre rfl rfl) Srcs.nil) (S_plain rfl (op_fldB fa_171_1 (Has.t rfl) rfl)) ?_
    refine D_step (Ei := [(28, _)]) rfl rfl (Srcs.cons (Src.op 4 rfl rfl) Srcs.nil) (S_plain rfl (op_ldBA Tryz.isAgg27 Tryz.sizeOf27 (Has.t rfl) (i := 2) rfl rfl rfl)) ?_
    refine D_step (Ei := [(29, _)]) rfl rfl (Srcs.cons (Src.op 5 rfl rfl) Srcs.nil) (S_plain rfl (op_call Tryz.call20 (c_rOf (r := (l.getD k default).2)) ⟨(Has.t rfl), trivial⟩)) ?_
    refine D_step (Ei := [(27, _), (30, _)]) rfl rfl (Srcs.cons (Src.op 3 rfl rfl) (Srcs.cons (Src.op 6 rfl rfl) Srcs.nil)) (S_plain rfl (bld_173_0_1 (Has.t rfl) (Has.t rfl))) ?_
    refine D_step (Ei := [(31, _)]) rfl rfl (Srcs.cons (Src.op 7 rfl rfl) Srcs.nil) (S_plain rfl (op_bslice (xs := [.tmp 31]) Tryz.runUnderlying82 Tryz.sizeOf173 Tryz.zeroValue173 (Elems.cons (Has.t rfl) Elems.nil) rfl rfl rfl)) ?_
    refine D_done mixed rfl (by kernel_rfl) (F_val (F_val (F_val (F_val (F_val (F_val (F_val (F_val (F_val (F_nil ?_))))))))))
    refine R_append (inf := Tryz.t173) und_82 info_173 rfl rfl rfl (Has.t rfl) (Has.t rfl) (i := 1) rfl (by simp) (fun T hT => by simp at hT; subst hT; exact El.ag rfl) (by show _ * 176 ≤ _; simp only [List.length_map, tab_len, List.length_cons, List.length_nil]; omega) (by simp only [List.length_map, tab_len, List.length_cons, List.length_nil]; omega) rfl (fun u2 => ?_)
    refine R_op rfl rfl rfl (op_assign (Has.t rfl)) ?_
    refine R_nil ?_
    refine T_blk ?_
    refine T_region ?_
    refine R_op rfl rfl rfl (op_addN (Has.t rfl) (Has.cN 1) (by show _ < 9223372036854775808; first | omega | (simp only [lim]; omega))) ?_
    refine R_op rfl rfl rfl (op_move (Has.t rfl)) ?_
    refine R_nil ?_
    refine T_keep [0, 1] rfl (by decide) ?_
    refine T_again (k + 1, out ++ [(((l.getD k default).1.q, (l.getD k default).2.q) : Qi × Qi)], v2, u2) ⟨by omega, take_nextD (g := fun e : Rt × Rt => (e.1.q, e.2.q)) hd ho⟩ (by dsimp only; omega) (Sub.cons rfl (Sub.cons rfl (Sub.cons rfl (Sub.cons rfl (Sub.cons rfl Sub.nil))))) (HSub.cons (rowO_of (app_mapF EntT out (((l.getD k default).1.q, (l.getD k default).2.q) : Qi × Qi))) (HSub.cons (rowO_of (app_mapF REntT out (((l.getD k default).1.q, (l.getD k default).2.q) : Qi × Qi))) HSub.nil))
  · simp only [decide_eq_false_iff_not] at hd
    have hfin := take_fin ho (by simp only [List.length_map]; omega)
    refine T_exit rfl ?_
    refine T_freeze (i := 0) (tt := 4) rfl rfl frz_row ?_
    refine T_freeze (i := 1) (tt := 5) rfl rfl frz_row ?_
    refine T_seq ?_
    refine T_region ?_
    refine R_op rfl rfl rfl (op_move (Has.t rfl)) ?_
    refine R_op rfl rfl rfl (op_move (Has.t rfl)) ?_
    refine R_op rfl rfl rfl (op_assign (Has.t rfl)) ?_
    refine R_op rfl rfl rfl (op_assign (Has.t rfl)) ?_
    refine R_nil ?_
    refine T_ret2 rfl (rv_to (rv_tmp rfl) ?_) (rv_to (rv_tmp rfl) ?_)
    · exact (slT_of (by rw [hfin]))
    · exact (slT_of (by rw [hfin]))
end Go.Proofs.YtppibhcfaahgpaaGreat
namespace Go.Proofs.YtppibhcfaahgpaaGreat
open Go Go.RowKit
theorem fa_173_0 (a : Addr) (w : World) : (Instr.fieldAt 173 (.pointer (some a)) 0).run Tryz.prog w = .ok (.pointer (some (a.add 0))) w := by
  simp [Instr.fieldAt, Instr.sureAddr, fieldPlace, Sem.run_bind, Result.andThen, Tryz.runUnderlying173, Tryz.sizeOf57]
theorem fa_173_1 (a : Addr) (w : World) : (Instr.fieldAt 173 (.pointer (some a)) 1).run Tryz.prog w = .ok (.pointer (some (a.add 5))) w := by
  simp [Instr.fieldAt, Instr.sureAddr, fieldPlace, Sem.run_bind, Result.andThen, Tryz.runUnderlying173, Tryz.sizeOf57]
end Go.Proofs.YtppibhcfaahgpaaGreat
namespace Go.Proofs.YtppibhcfaahgpaaGreat
open Go Go.RowKit
set_option maxRecDepth 20000 in
theorem c_rCmp {x y : Qi} {L M : Nat} [hx : FitC x L] [hy : FitC y M] (h : L + M + 1 ≤ 17592186044415) : Fun Tryz.prog 114 [QT x, QT y] (IntT .i64 (rcmp x y)) := by
  refine Fun.intro Tryz.func114 rfl Tryz.ntmps114 rfl (fun cx => ?_)
  refine T_seq ?_
  refine T_region ?_
  refine R_new rfl rfl rfl (new_box (Has.t rfl)) (fun B2 => ?_)
  refine R_new rfl rfl rfl (new_box (Has.t rfl)) (fun B3 => ?_)
  refine R_op rfl rfl rfl (op_assign (Has.cN 0)) ?_
  refine R_nil ?_
  refine T_seq ?_
  refine T_region ?_
  refine R_op rfl rfl rfl (op_ldBA Tryz.isAgg57 Tryz.sizeOf57 (Has.t rfl) (i := 0) rfl rfl rfl) ?_
  refine R_op rfl rfl rfl (op_ldBA Tryz.isAgg57 Tryz.sizeOf57 (Has.t rfl) (i := 1) rfl rfl rfl) ?_
  refine R_op rfl rfl rfl (op_call Tryz.call88 (c_rSub (by omega)) ⟨(Has.t rfl), (Has.t rfl), trivial⟩) ?_
  refine R_new rfl rfl rfl (new_alloc (Ts := [Is (.bool false), Is (.slice none 0 0), Is (.bool false), Is (.slice none 0 0), Is (.slice none 0 0)]) Tryz.zeroValue57 rfl (fun V => Cells.cons' ⟨rfl, trivial⟩ (Cells.cons' ⟨rfl, trivial⟩ (Cells.cons' ⟨rfl, trivial⟩ (Cells.cons' ⟨rfl, trivial⟩ (Cells.cons' ⟨rfl, trivial⟩ (Cells.nil))))))) (fun B5 => ?_)
  refine R_stA Tryz.sizeOf57 (Has.t rfl) (Has.t rfl) rfl (i := 2) rfl (Nat.le_of_ble_eq_true rfl) rfl rfl ?_
  refine R_nil ?_
  refine T_seq ?_
  refine T_seq ?_
  refine T_region ?_
  refine R_op rfl rfl rfl (op_ldBA Tryz.isAgg57 Tryz.sizeOf57 (Has.t rfl) (i := 2) rfl rfl rfl) ?_
  refine R_op rfl rfl rfl (op_call Tryz.call85 c_rSign ⟨(Has.t rfl), trivial⟩) ?_
  refine R_op rfl rfl rfl (op_assign (Has.t rfl)) ?_
  refine R_nil ?_
  refine T_seq ?_
  refine T_region ?_
  refine R_op rfl rfl rfl (op_move (Has.t rfl)) ?_
  refine R_op rfl rfl rfl (op_neq (Has.t rfl) Has.c) ?_
  refine R_nil ?_
  refine T_cond (Has.t rfl) (fun hb => ?_) (fun hb => ?_)
  · have hb2 : cmpI (x - y).a 0 ≠ 0 := by simpa using hb
    refine T_seq ?_
    refine T_region ?_
    refine R_op rfl rfl rfl (op_move (Has.t rfl)) ?_
    refine R_op rfl rfl rfl (op_assign (Has.t rfl)) ?_
    refine R_nil ?_
    refine T_ret1 rfl (rv_to (rv_tmp rfl) ?_)
    exact (int_of (by rw [rcmp, if_pos hb2]))
  · have hb2 : ¬ cmpI (x - y).a 0 ≠ 0 := by simpa using hb
    refine T_skip ?_
    refine T_seq ?_
    refine T_region ?_
    refine R_op rfl rfl rfl (op_ldBA Tryz.isAgg57 Tryz.sizeOf57 (Has.t rfl) (i := 2) rfl rfl rfl) ?_
    refine R_op rfl rfl rfl (op_call Tryz.call155 (c_rIm (L := L + M + 1) (by omega)) ⟨(Has.t rfl), trivial⟩) ?_
    refine R_op rfl rfl rfl (op_call Tryz.call85 c_rSign ⟨(Has.t rfl), trivial⟩) ?_
    refine R_op rfl rfl rfl (op_assign (Has.t rfl)) ?_
    refine R_nil ?_
    refine T_ret1 rfl (rv_to (rv_tmp rfl) ?_)
    exact (int_of (by rw [rcmp, if_neg hb2]))
set_option maxHeartbeats 1000000 in
set_option maxRecDepth 20000 in
theorem c_rLookup {l : List (Qi × Qi)} {f : Qi} {L : Nat} (hl : FitE l L) (hf : FitC f L) (hL1 : 1 ≤ L) (hL : L ≤ 1000000) (hn : l.length ≤ 1000000) : Fun Tryz.prog 36 [REntsT l, QT f] (TupT [QT (lookR l f).1, IntT .i64 (lookR l f).2]) := by
  haveI := hf
  refine Fun.intro Tryz.func36 rfl Tryz.ntmps36 rfl (fun cx => ?_)
  refine T_seq ?_
  refine T_region ?_
  refine R_new rfl rfl rfl (new_box (Has.t rfl)) (fun B3 => ?_)
  refine R_new rfl rfl rfl (new_alloc (Ts := [Is (.bool false), Is (.slice none 0 0), Is (.bool false), Is (.slice none 0 0), Is (.slice none 0 0)]) Tryz.zeroValue57 rfl (fun V => Cells.cons' ⟨rfl, trivial⟩ (Cells.cons' ⟨rfl, trivial⟩ (Cells.cons' ⟨rfl, trivial⟩ (Cells.cons' ⟨rfl, trivial⟩ (Cells.cons' ⟨rfl, trivial⟩ (Cells.nil))))))) (fun B4 => ?_)
  refine R_op rfl rfl rfl (op_assign (Has.cN 0)) ?_
  refine R_nil ?_
  refine T_seq ?_
  refine T_seq ?_
  refine T_region ?_
  refine R_op rfl rfl rfl (op_move (Has.t rfl)) ?_
  refine R_op rfl rfl rfl (op_len Tryz.runUnderlying82 (Has.t rfl) len_map) ?_
  refine R_op rfl rfl rfl (op_lssN (Has.t rfl) (Has.cN 1)) ?_
  refine R_op rfl rfl rfl (op_move (Has.t rfl)) ?_
  refine R_step rfl rfl (S_when rfl rfl (Has.t rfl) (fun h => op_move (Has.t rfl))) ?_
  refine R_step rfl rfl (S_when rfl rfl (Has.t rfl) (fun h => op_len Tryz.runUnderlying82 (Has.w rfl h) len_map)) ?_
  refine R_step rfl rfl (S_when rfl rfl (Has.t rfl) (fun h => op_gtrN (Has.w rfl h) (Has.cN 1024))) ?_
  refine R_op rfl rfl rfl (op_or (Has.t rfl) (fun h => (Has.w rfl h))) ?_
  refine R_nil ?_
  refine T_cond (Has.t rfl) (fun hb => ?_) (fun hb => ?_)
  · have he : tabErr l f = 4 := tab_size (by simp only [Bool.or_eq_true, decide_eq_true_eq] at hb; omega)
    refine T_seq ?_
    refine T_region ?_
    refine R_op rfl rfl rfl (op_call Tryz.call86 (c_rWhole (n := 0) (by decide) (by decide)) ⟨(Has.cN 0), trivial⟩) ?_
    refine R_stA Tryz.sizeOf57 (Has.t rfl) (Has.t rfl) rfl (i := 1) rfl (Nat.le_of_ble_eq_true rfl) rfl rfl ?_
    refine R_op rfl rfl rfl (op_assign (Has.cN 4)) ?_
    refine R_nil ?_
    refine T_ret2 rfl (rv_to (rv_cell Tryz.isAgg57 Tryz.sizeOf57 rfl (i := 1) rfl rfl) ?_) (rv_to (rv_tmp rfl) ?_)
    · exact (q_of (by rw [look_err he (by decide)]; rfl))
    · exact (int_of (by rw [look_err he (by decide)]; rfl))
  · have hne : ¬ (l.length = 0 ∨ 1024 < l.length) := by simp only [Bool.or_eq_false_iff, decide_eq_false_iff_not] at hb; omega
    refine T_skip ?_
    refine T_seq ?_
    refine T_seq ?_
    refine T_region ?_
    refine R_op rfl rfl rfl (op_assign (Has.cN 0)) ?_
    refine R_nil ?_
    refine T_block ?_
    refine T_loop (fun (k : Nat) => k ≤ l.length ∧ ∀ i, i < k → entErr l i = 0) (fun (k : Nat) => l.length - k) (fun (k : Nat) => [(0, REntsT l), (3, PtrB B3 0), (4, PtrB B4 0), (6, NT .i64 k)]) (fun (k : Nat) => [box B3 57 [BoolT (decide (f.a < 0)), NatT f.a.natAbs, BoolT (decide (f.b < 0)), NatT f.b.natAbs, NatT f.den], box B4 57 [Is (.bool false), Is (.slice none 0 0), Is (.bool false), Is (.slice none 0 0), Is (.slice none 0 0)]]) 0 ⟨Nat.zero_le _, fun i h => by omega⟩
      (Sub.cons rfl (Sub.cons rfl (Sub.cons rfl (Sub.cons rfl Sub.nil)))) (HSub.refl _) (fun k ⟨hk, h0⟩ => ?_)
    refine T_seq ?_
    refine T_seq ?_
    refine T_region ?_
    refine R_op rfl rfl rfl (op_move (Has.t rfl)) ?_
    refine R_op rfl rfl rfl (op_move (Has.t rfl)) ?_
    refine R_op rfl rfl rfl (op_len Tryz.runUnderlying82 (Has.t rfl) len_map) ?_
    refine R_op rfl rfl rfl (op_lssN (Has.t rfl) (Has.t rfl)) ?_
    refine R_nil ?_
    refine T_cond (Has.t rfl) (fun hc => ?_) (fun hc => ?_)
    · simp only [decide_eq_true_eq] at hc
      haveI f1 : FitC (eF l k) L := (hl.get hL1 k).1
      haveI f2 : FitC (eF l (k - 1)) L := (hl.get hL1 (k - 1)).1
      haveI f3 : FitC (eV l k) L := (hl.get hL1 k).2
      refine T_skip ?_
      refine T_seq ?_
      refine T_block ?_
      refine T_seq ?_
      refine T_seq ?_
      refine T_region ?_
      refine R_op rfl rfl rfl (op_move (Has.t rfl)) ?_
      refine R_op rfl rfl rfl (op_move (Has.t rfl)) ?_
      refine R_op rfl rfl rfl (op_idx Tryz.runUnderlying82 Tryz.sizeOf173 (Has.t rfl) (Has.t rfl) rfl (map_get (getD_some (d := (Qi.zero, Qi.zero)) hc))) ?_
      refine R_op rfl rfl rfl (op_fld (s := 5) fa_173_0 (Has.t rfl) rfl) ?_
      refine R_op rfl rfl rfl (op_ld Tryz.isAgg57 Tryz.sizeOf57 (Has.t rfl)) ?_
      refine R_op rfl rfl rfl (op_call Tryz.call113 (c_rPositive (x := eF l k) (L := L) (by omega)) ⟨(Has.t rfl), trivial⟩) ?_
      refine R_op rfl rfl rfl (op_not (Has.t rfl)) ?_
      refine R_op rfl rfl rfl (op_move (Has.t rfl)) ?_
      refine R_step rfl rfl (S_when rfl rfl (Has.t rfl) (fun h => op_move (Has.t rfl))) ?_
      refine R_step rfl rfl (S_when rfl rfl (Has.t rfl) (fun h => op_move (Has.t rfl))) ?_
      refine R_step rfl rfl (S_when rfl rfl (Has.t rfl) (fun h => op_idx Tryz.runUnderlying82 Tryz.sizeOf173 (Has.w rfl h) (Has.w rfl h) rfl (map_get (getD_some (d := (Qi.zero, Qi.zero)) hc)))) ?_
      refine R_step rfl rfl (S_when rfl rfl (Has.t rfl) (fun h => op_fld (s := 5) fa_173_1 (Has.w rfl h) rfl)) ?_
      refine R_step rfl rfl (S_when rfl rfl (Has.t rfl) (fun h => op_ld Tryz.isAgg57 Tryz.sizeOf57 (Has.w rfl h))) ?_
      refine R_step rfl rfl (S_when rfl rfl (Has.t rfl) (fun h => op_call Tryz.call84 (c_rSide (x := eV l k) (L := L) (by omega)) ⟨(Has.w rfl h), trivial⟩)) ?_
      refine R_step rfl rfl (S_when rfl rfl (Has.t rfl) (fun h => op_neq (Has.w rfl h) Has.c)) ?_
      refine R_op rfl rfl rfl (op_or (Has.t rfl) (fun h => (Has.w rfl h))) ?_
      refine R_nil ?_
      refine T_cond (Has.t rfl) (fun hd => ?_) (fun hd => ?_)
      · have hd2 : (!posQ (eF l k) || !decide ((eV l k).b = 0)) = true := by simpa only [cmpI_zero] using hd
        have he : tabErr l f = 1 := tab_ent hne hc h0 (ent_one hd2) (by decide)
        refine T_seq ?_
        refine T_region ?_
        refine R_op rfl rfl rfl (op_call Tryz.call86 (c_rWhole (n := 0) (by decide) (by decide)) ⟨(Has.cN 0), trivial⟩) ?_
        refine R_stA Tryz.sizeOf57 (Has.t rfl) (Has.t rfl) rfl (i := 1) rfl (Nat.le_of_ble_eq_true rfl) rfl rfl ?_
        refine R_op rfl rfl rfl (op_assign (Has.cN 1)) ?_
        refine R_nil ?_
        refine T_ret2 rfl (rv_to (rv_cell Tryz.isAgg57 Tryz.sizeOf57 rfl (i := 1) rfl rfl) ?_) (rv_to (rv_tmp rfl) ?_)
        · exact (q_of (by rw [look_err he (by decide)]; rfl))
        · exact (int_of (by rw [look_err he (by decide)]; rfl))
      · have hok := ent_ok (l := l) (k := k) (by simpa only [cmpI_zero] using hd)
        have hrl : 0 < k → (eF l (k - 1)).b = 0 := fun h => posQ_b (entErr_zero (h0 (k - 1) (by omega))).1.1
        refine T_skip ?_
        refine T_seq ?_
        refine D_start (m := 14) ?_
        refine D_step (Ei := [(6, _)]) rfl rfl (Srcs.cons (Src.pre rfl rfl) Srcs.nil) (S_plain rfl (op_move (Has.t rfl))) ?_
        refine D_step (Ei := [(44, _)]) rfl rfl (Srcs.cons (Src.op 0 rfl rfl) Srcs.nil) (S_plain rfl (op_gtrN (Has.t rfl) (Has.cN 0))) ?_
        refine D_step (Ei := [(45, _)]) rfl rfl (Srcs.cons (Src.op 1 rfl rfl) Srcs.nil) (S_plain rfl (op_move (Has.t rfl))) ?_
        refine D_step (Ei := [(0, _), (46, _)]) rfl rfl (Srcs.cons (Src.pre rfl rfl) (Srcs.cons (Src.op 2 rfl rfl) Srcs.nil)) (S_when rfl rfl (Has.t rfl) (fun h => op_move (Has.t rfl))) ?_
        refine D_step (Ei := [(6, _), (46, _)]) rfl rfl (Srcs.cons (Src.pre rfl rfl) (Srcs.cons (Src.op 2 rfl rfl) Srcs.nil)) (S_when rfl rfl (Has.t rfl) (fun h => op_move (Has.t rfl))) ?_
        refine D_step (Ei := [(47, _), (48, _), (46, _)]) rfl rfl (Srcs.cons (Src.op 3 rfl rfl) (Srcs.cons (Src.op 4 rfl rfl) (Srcs.cons (Src.op 2 rfl rfl) Srcs.nil))) (S_when rfl rfl (Has.t rfl) (fun h => op_idx Tryz.runUnderlying82 Tryz.sizeOf173 (Has.w rfl h) (Has.w rfl h) rfl (map_get (getD_some (d := (Qi.zero, Qi.zero)) hc)))) ?_
        refine D_step (Ei := [(49, _), (46, _)]) rfl rfl (Srcs.cons (Src.op 5 rfl rfl) (Srcs.cons (Src.op 2 rfl rfl) Srcs.nil)) (S_when rfl rfl (Has.t rfl) (fun h => op_fld (s := 5) fa_173_0 (Has.w rfl h) rfl)) ?_
        refine D_step (Ei := [(50, _), (46, _)]) rfl rfl (Srcs.cons (Src.op 6 rfl rfl) (Srcs.cons (Src.op 2 rfl rfl) Srcs.nil)) (S_when rfl rfl (Has.t rfl) (fun h => op_ld Tryz.isAgg57 Tryz.sizeOf57 (Has.w rfl h))) ?_
        refine D_step (Ei := [(0, _), (46, _)]) rfl rfl (Srcs.cons (Src.pre rfl rfl) (Srcs.cons (Src.op 2 rfl rfl) Srcs.nil)) (S_when rfl rfl (Has.t rfl) (fun h => op_move (Has.t rfl))) ?_
        refine D_step (Ei := [(6, _), (46, _)]) rfl rfl (Srcs.cons (Src.pre rfl rfl) (Srcs.cons (Src.op 2 rfl rfl) Srcs.nil)) (S_when rfl rfl (Has.t rfl) (fun h => op_move (Has.t rfl))) ?_
        refine D_step (Ei := [(53, _), (46, _)]) rfl rfl (Srcs.cons (Src.op 9 rfl rfl) (Srcs.cons (Src.op 2 rfl rfl) Srcs.nil)) (S_when rfl rfl (Has.t rfl) (fun h => op_subN (Has.w rfl h) (Has.cN 1) (by first | omega | (simp at h; omega)) (by show _ < 9223372036854775808; first | omega | (simp at h; omega)))) ?_
        refine D_step (Ei := [(52, _), (54, _), (46, _)]) rfl rfl (Srcs.cons (Src.op 8 rfl rfl) (Srcs.cons (Src.op 10 rfl rfl) (Srcs.cons (Src.op 2 rfl rfl) Srcs.nil))) (S_when rfl rfl (Has.t rfl) (fun h => op_idx Tryz.runUnderlying82 Tryz.sizeOf173 (Has.w rfl h) (Has.w rfl h) rfl (map_get (getD_some (d := (Qi.zero, Qi.zero)) (by simp at h; omega))))) ?_
        refine D_step (Ei := [(55, _), (46, _)]) rfl rfl (Srcs.cons (Src.op 11 rfl rfl) (Srcs.cons (Src.op 2 rfl rfl) Srcs.nil)) (S_when rfl rfl (Has.t rfl) (fun h => op_fld (s := 5) fa_173_0 (Has.w rfl h) rfl)) ?_
        refine D_step (Ei := [(56, _), (46, _)]) rfl rfl (Srcs.cons (Src.op 12 rfl rfl) (Srcs.cons (Src.op 2 rfl rfl) Srcs.nil)) (S_when rfl rfl (Has.t rfl) (fun h => op_ld Tryz.isAgg57 Tryz.sizeOf57 (Has.w rfl h))) ?_
        refine D_done mixed rfl (by kernel_rfl) (F_val (F_val (F_val (F_val (F_val (F_val (F_val (F_val (F_val (F_val (F_val (F_val (F_val (F_val (F_nil ?_)))))))))))))))
        refine R_step rfl rfl (S_when rfl rfl (Has.t rfl) (fun h => op_call Tryz.call114 (c_rCmp (x := eF l k) (y := eF l (k - 1)) (L := L) (M := L) (by omega)) ⟨(Has.w rfl h), (Has.w rfl h), trivial⟩)) ?_
        refine R_step rfl rfl (S_when rfl rfl (Has.t rfl) (fun h => op_leq (Has.w rfl h) Has.c)) ?_
        refine R_op rfl rfl rfl (op_and (Has.t rfl) (fun h => (Has.w rfl h))) ?_
        refine R_nil ?_
        refine T_cond (Has.t rfl) (fun hg => ?_) (fun hg => ?_)
        · have hg2 : 0 < k ∧ rcmp (eF l k) (eF l (k - 1)) ≤ 0 := by simpa using hg
          rw [rcmp_real (posQ_b hok.1) (hrl hg2.1)] at hg2
          have he : tabErr l f = 7 := tab_ent hne hc h0 (by rw [ent_order hok, if_pos hg2]) (by decide)
          refine T_seq ?_
          refine T_region ?_
          refine R_op rfl rfl rfl (op_call Tryz.call86 (c_rWhole (n := 0) (by decide) (by decide)) ⟨(Has.cN 0), trivial⟩) ?_
          refine R_stA Tryz.sizeOf57 (Has.t rfl) (Has.t rfl) rfl (i := 1) rfl (Nat.le_of_ble_eq_true rfl) rfl rfl ?_
          refine R_op rfl rfl rfl (op_assign (Has.cN 7)) ?_
          refine R_nil ?_
          refine T_ret2 rfl (rv_to (rv_cell Tryz.isAgg57 Tryz.sizeOf57 rfl (i := 1) rfl rfl) ?_) (rv_to (rv_tmp rfl) ?_)
          · exact (q_of (by rw [look_err he (by decide)]; rfl))
          · exact (int_of (by rw [look_err he (by decide)]; rfl))
        · have hg2 : ¬ (0 < k ∧ rcmp (eF l k) (eF l (k - 1)) ≤ 0) := by simpa using hg
          have hk0 : entErr l k = 0 := by
            rw [ent_order hok, if_neg]
            rintro ⟨p1, p2⟩
            exact hg2 ⟨p1, by rw [rcmp_real (posQ_b hok.1) (hrl p1)]; exact p2⟩
          refine T_skip ?_
          refine T_blk ?_
          refine T_region ?_
          refine R_op rfl rfl rfl (op_move (Has.t rfl)) ?_
          refine R_op rfl rfl rfl (op_addN (Has.t rfl) (Has.cN 1) (by show _ < 9223372036854775808; first | omega | (simp only [lim]; omega))) ?_
          refine R_op rfl rfl rfl (op_assign (Has.t rfl)) ?_
          refine R_nil ?_
          refine T_again (k + 1) ⟨hc, fun i h => by
              by_cases e : i = k
              · rw [e]; exact hk0
              · exact h0 i (by omega)⟩ (by omega) (Sub.cons rfl (Sub.cons rfl (Sub.cons rfl (Sub.cons rfl Sub.nil)))) (HSub.refl _)
    · simp only [decide_eq_false_iff_not] at hc
      have harg := tab_arg (f := f) hne (fun i h => h0 i (by omega))
      refine T_exit rfl ?_
      refine T_seq ?_
      refine T_seq ?_
      refine T_region ?_
      refine R_op rfl rfl rfl (op_ldBA Tryz.isAgg57 Tryz.sizeOf57 (Has.t rfl) (i := 0) rfl rfl rfl) ?_
      refine R_op rfl rfl rfl (op_call Tryz.call84 (c_rSide (x := f) (L := L) (by omega)) ⟨(Has.t rfl), trivial⟩) ?_
      refine R_op rfl rfl rfl (op_neq (Has.t rfl) Has.c) ?_
      refine R_nil ?_
      refine T_cond (Has.t rfl) (fun he => ?_) (fun he => ?_)
      · have he2 : ¬ f.b = 0 := by simp only [Bool.not_eq_true', decide_eq_false_iff_not, cmpI_zero] at he; exact he
        have he : tabErr l f = 1 := by rw [harg, if_pos he2]
        refine T_seq ?_
        refine T_region ?_
        refine R_op rfl rfl rfl (op_call Tryz.call86 (c_rWhole (n := 0) (by decide) (by decide)) ⟨(Has.cN 0), trivial⟩) ?_
        refine R_stA Tryz.sizeOf57 (Has.t rfl) (Has.t rfl) rfl (i := 1) rfl (Nat.le_of_ble_eq_true rfl) rfl rfl ?_
        refine R_op rfl rfl rfl (op_assign (Has.cN 1)) ?_
        refine R_nil ?_
        refine T_ret2 rfl (rv_to (rv_cell Tryz.isAgg57 Tryz.sizeOf57 rfl (i := 1) rfl rfl) ?_) (rv_to (rv_tmp rfl) ?_)
        · exact (q_of (by rw [look_err he (by decide)]; rfl))
        · exact (int_of (by rw [look_err he (by decide)]; rfl))
      · have he2 : f.b = 0 := by simp only [Bool.not_eq_false', decide_eq_true_eq, cmpI_zero] at he; exact he
        have hz : tabErr l f = 0 := by rw [harg, if_neg (fun k => k he2)]
        have tok := tab_ok hz
        refine T_skip ?_
        refine T_seq ?_
        refine T_seq ?_
        refine T_region ?_
        refine R_op rfl rfl rfl (op_assign (Has.cN 0)) ?_
        refine R_nil ?_
        refine T_block ?_
        refine T_loop (fun (k : Nat) => k ≤ l.length ∧ ∀ i, i < k → eF l i ≠ f ∧ (0 < i → cmpR (eF l (i - 1)) f < 0 → ¬ cmpR f (eF l i) < 0)) (fun (k : Nat) => l.length - k) (fun (k : Nat) => [(0, REntsT l), (3, PtrB B3 0), (4, PtrB B4 0), (7, NT .i64 k)]) (fun (k : Nat) => [box B3 57 [BoolT (decide (f.a < 0)), NatT f.a.natAbs, BoolT (decide (f.b < 0)), NatT f.b.natAbs, NatT f.den], box B4 57 [Is (.bool false), Is (.slice none 0 0), Is (.bool false), Is (.slice none 0 0), Is (.slice none 0 0)]]) 0 ⟨Nat.zero_le _, fun i h => by omega⟩
          (Sub.cons rfl (Sub.cons rfl (Sub.cons rfl (Sub.cons rfl Sub.nil)))) (HSub.refl _) (fun k ⟨hk, h1⟩ => ?_)
        refine T_seq ?_
        refine T_seq ?_
        refine T_region ?_
        refine R_op rfl rfl rfl (op_move (Has.t rfl)) ?_
        refine R_op rfl rfl rfl (op_move (Has.t rfl)) ?_
        refine R_op rfl rfl rfl (op_len Tryz.runUnderlying82 (Has.t rfl) len_map) ?_
        refine R_op rfl rfl rfl (op_lssN (Has.t rfl) (Has.t rfl)) ?_
        refine R_nil ?_
        refine T_cond (Has.t rfl) (fun hc2 => ?_) (fun hc2 => ?_)
        · simp only [decide_eq_true_eq] at hc2
          haveI f1 : FitC (eF l k) L := (hl.get hL1 k).1
          haveI f2 : FitC (eF l (k - 1)) L := (hl.get hL1 (k - 1)).1
          haveI f3 : FitC (eV l k) L := (hl.get hL1 k).2
          haveI f4 : FitC (eV l (k - 1)) L := (hl.get hL1 (k - 1)).2
          refine T_skip ?_
          refine T_seq ?_
          refine T_block ?_
          refine T_seq ?_
          refine T_seq ?_
          refine D_start (m := 6) ?_
          refine D_step (Ei := [(0, _)]) rfl rfl (Srcs.cons (Src.pre rfl rfl) Srcs.nil) (S_plain rfl (op_move (Has.t rfl))) ?_
          refine D_step (Ei := [(7, _)]) rfl rfl (Srcs.cons (Src.pre rfl rfl) Srcs.nil) (S_plain rfl (op_move (Has.t rfl))) ?_
          refine D_step (Ei := [(72, _), (73, _)]) rfl rfl (Srcs.cons (Src.op 0 rfl rfl) (Srcs.cons (Src.op 1 rfl rfl) Srcs.nil)) (S_plain rfl (op_idx Tryz.runUnderlying82 Tryz.sizeOf173 (Has.t rfl) (Has.t rfl) rfl (map_get (getD_some (d := (Qi.zero, Qi.zero)) hc2)))) ?_
          refine D_step (Ei := [(74, _)]) rfl rfl (Srcs.cons (Src.op 2 rfl rfl) Srcs.nil) (S_plain rfl (op_fld (s := 5) fa_173_0 (Has.t rfl) rfl)) ?_
          refine D_step (Ei := [(75, _)]) rfl rfl (Srcs.cons (Src.op 3 rfl rfl) Srcs.nil) (S_plain rfl (op_ld Tryz.isAgg57 Tryz.sizeOf57 (Has.t rfl))) ?_
          refine D_step (Ei := [(3, _)]) rfl rfl (Srcs.cons (Src.pre rfl rfl) Srcs.nil) (S_plain rfl (op_ldBA Tryz.isAgg57 Tryz.sizeOf57 (Has.t rfl) (i := 0) rfl rfl rfl)) ?_
          refine D_done mixed rfl (by kernel_rfl) (F_val (F_val (F_val (F_val (F_val (F_val (F_nil ?_)))))))
          refine R_op rfl rfl rfl (op_call Tryz.call40 (c_rSame (x := eF l k) (y := f) (L := L) (M := L) (by omega) (by omega)) ⟨(Has.t rfl), (Has.t rfl), trivial⟩) ?_
          refine R_nil ?_
          refine T_cond (Has.t rfl) (fun hs => ?_) (fun hs => ?_)
          · have hs2 : eF l k = f := by simpa using hs
            have hlk := look_same hz hc2 hs2
            refine T_seq ?_
            refine T_region ?_
            refine R_op rfl rfl rfl (op_move (Has.t rfl)) ?_
            refine R_op rfl rfl rfl (op_move (Has.t rfl)) ?_
            refine R_op rfl rfl rfl (op_idx Tryz.runUnderlying82 Tryz.sizeOf173 (Has.t rfl) (Has.t rfl) rfl (map_get (getD_some (d := (Qi.zero, Qi.zero)) hc2))) ?_
            refine R_op rfl rfl rfl (op_fld (s := 5) fa_173_1 (Has.t rfl) rfl) ?_
            refine R_op rfl rfl rfl (op_ld Tryz.isAgg57 Tryz.sizeOf57 (Has.t rfl)) ?_
            refine R_stA Tryz.sizeOf57 (Has.t rfl) (Has.t rfl) rfl (i := 1) rfl (Nat.le_of_ble_eq_true rfl) rfl rfl ?_
            refine R_op rfl rfl rfl (op_assign (Has.cN 0)) ?_
            refine R_nil ?_
            refine T_ret2 rfl (rv_to (rv_cell Tryz.isAgg57 Tryz.sizeOf57 rfl (i := 1) rfl rfl) ?_) (rv_to (rv_tmp rfl) ?_)
            · exact (q_of (by rw [hlk]))
            · exact (int_of (by rw [hlk]; rfl))
          · have hs2 : ¬ eF l k = f := by simpa using hs
            refine T_skip ?_
            refine T_seq ?_
            refine D_start (m := 20) ?_
            refine D_step (Ei := [(7, _)]) rfl rfl (Srcs.cons (Src.pre rfl rfl) Srcs.nil) (S_plain rfl (op_move (Has.t rfl))) ?_
            refine D_step (Ei := [(84, _)]) rfl rfl (Srcs.cons (Src.op 0 rfl rfl) Srcs.nil) (S_plain rfl (op_gtrN (Has.t rfl) (Has.cN 0))) ?_
            refine D_step (Ei := [(85, _)]) rfl rfl (Srcs.cons (Src.op 1 rfl rfl) Srcs.nil) (S_plain rfl (op_move (Has.t rfl))) ?_
            refine D_step (Ei := [(0, _), (86, _)]) rfl rfl (Srcs.cons (Src.pre rfl rfl) (Srcs.cons (Src.op 2 rfl rfl) Srcs.nil)) (S_when rfl rfl (Has.t rfl) (fun h => op_move (Has.t rfl))) ?_
            refine D_step (Ei := [(7, _), (86, _)]) rfl rfl (Srcs.cons (Src.pre rfl rfl) (Srcs.cons (Src.op 2 rfl rfl) Srcs.nil)) (S_when rfl rfl (Has.t rfl) (fun h => op_move (Has.t rfl))) ?_
            refine D_step (Ei := [(88, _), (86, _)]) rfl rfl (Srcs.cons (Src.op 4 rfl rfl) (Srcs.cons (Src.op 2 rfl rfl) Srcs.nil)) (S_when rfl rfl (Has.t rfl) (fun h => op_subN (Has.w rfl h) (Has.cN 1) (by first | omega | (simp at h; omega)) (by show _ < 9223372036854775808; first | omega | (simp at h; omega)))) ?_
            refine D_step (Ei := [(87, _), (89, _), (86, _)]) rfl rfl (Srcs.cons (Src.op 3 rfl rfl) (Srcs.cons (Src.op 5 rfl rfl) (Srcs.cons (Src.op 2 rfl rfl) Srcs.nil))) (S_when rfl rfl (Has.t rfl) (fun h => op_idx Tryz.runUnderlying82 Tryz.sizeOf173 (Has.w rfl h) (Has.w rfl h) rfl (map_get (getD_some (d := (Qi.zero, Qi.zero)) (by simp at h; omega))))) ?_
            refine D_step (Ei := [(90, _), (86, _)]) rfl rfl (Srcs.cons (Src.op 6 rfl rfl) (Srcs.cons (Src.op 2 rfl rfl) Srcs.nil)) (S_when rfl rfl (Has.t rfl) (fun h => op_fld (s := 5) fa_173_0 (Has.w rfl h) rfl)) ?_
            refine D_step (Ei := [(91, _), (86, _)]) rfl rfl (Srcs.cons (Src.op 7 rfl rfl) (Srcs.cons (Src.op 2 rfl rfl) Srcs.nil)) (S_when rfl rfl (Has.t rfl) (fun h => op_ld Tryz.isAgg57 Tryz.sizeOf57 (Has.w rfl h))) ?_
            refine D_step (Ei := [(3, _), (86, _)]) rfl rfl (Srcs.cons (Src.pre rfl rfl) (Srcs.cons (Src.op 2 rfl rfl) Srcs.nil)) (S_when rfl rfl (Has.t rfl) (fun h => op_ldBA Tryz.isAgg57 Tryz.sizeOf57 (Has.t rfl) (i := 0) rfl rfl rfl)) ?_
            refine D_step (Ei := [(92, _), (93, _), (86, _)]) rfl rfl (Srcs.cons (Src.op 8 rfl rfl) (Srcs.cons (Src.op 9 rfl rfl) (Srcs.cons (Src.op 2 rfl rfl) Srcs.nil))) (S_when rfl rfl (Has.t rfl) (fun h => op_call Tryz.call114 (c_rCmp (x := eF l (k - 1)) (y := f) (L := L) (M := L) (by omega)) ⟨(Has.w rfl h), (Has.w rfl h), trivial⟩)) ?_
            refine D_step (Ei := [(94, _), (86, _)]) rfl rfl (Srcs.cons (Src.op 10 rfl rfl) (Srcs.cons (Src.op 2 rfl rfl) Srcs.nil)) (S_when rfl rfl (Has.t rfl) (fun h => op_lss (Has.w rfl h) Has.c)) ?_
            refine D_step (Ei := [(86, _), (95, _)]) rfl rfl (Srcs.cons (Src.op 2 rfl rfl) (Srcs.cons (Src.op 11 rfl rfl) Srcs.nil)) (S_plain rfl (op_and (Has.t rfl) (fun h => (Has.w rfl h)))) ?_
            refine D_step (Ei := [(96, _)]) rfl rfl (Srcs.cons (Src.op 12 rfl rfl) Srcs.nil) (S_plain rfl (op_move (Has.t rfl))) ?_
            refine D_step (Ei := [(3, _), (97, _)]) rfl rfl (Srcs.cons (Src.pre rfl rfl) (Srcs.cons (Src.op 13 rfl rfl) Srcs.nil)) (S_when rfl rfl (Has.t rfl) (fun h => op_ldBA Tryz.isAgg57 Tryz.sizeOf57 (Has.t rfl) (i := 0) rfl rfl rfl)) ?_
            refine D_step (Ei := [(0, _), (97, _)]) rfl rfl (Srcs.cons (Src.pre rfl rfl) (Srcs.cons (Src.op 13 rfl rfl) Srcs.nil)) (S_when rfl rfl (Has.t rfl) (fun h => op_move (Has.t rfl))) ?_
            refine D_step (Ei := [(7, _), (97, _)]) rfl rfl (Srcs.cons (Src.pre rfl rfl) (Srcs.cons (Src.op 13 rfl rfl) Srcs.nil)) (S_when rfl rfl (Has.t rfl) (fun h => op_move (Has.t rfl))) ?_
            refine D_step (Ei := [(99, _), (100, _), (97, _)]) rfl rfl (Srcs.cons (Src.op 15 rfl rfl) (Srcs.cons (Src.op 16 rfl rfl) (Srcs.cons (Src.op 13 rfl rfl) Srcs.nil))) (S_when rfl rfl (Has.t rfl) (fun h => op_idx Tryz.runUnderlying82 Tryz.sizeOf173 (Has.w rfl h) (Has.w rfl h) rfl (map_get (getD_some (d := (Qi.zero, Qi.zero)) hc2)))) ?_
            refine D_step (Ei := [(101, _), (97, _)]) rfl rfl (Srcs.cons (Src.op 17 rfl rfl) (Srcs.cons (Src.op 13 rfl rfl) Srcs.nil)) (S_when rfl rfl (Has.t rfl) (fun h => op_fld (s := 5) fa_173_0 (Has.w rfl h) rfl)) ?_
            refine D_step (Ei := [(102, _), (97, _)]) rfl rfl (Srcs.cons (Src.op 18 rfl rfl) (Srcs.cons (Src.op 13 rfl rfl) Srcs.nil)) (S_when rfl rfl (Has.t rfl) (fun h => op_ld Tryz.isAgg57 Tryz.sizeOf57 (Has.w rfl h))) ?_
            refine D_done mixed rfl (by kernel_rfl) (F_val (F_val (F_val (F_val (F_val (F_val (F_val (F_val (F_val (F_val (F_val (F_val (F_val (F_val (F_val (F_val (F_val (F_val (F_val (F_val (F_nil ?_)))))))))))))))))))))
            refine R_step rfl rfl (S_when rfl rfl (Has.t rfl) (fun h => op_call Tryz.call114 (c_rCmp (x := f) (y := eF l k) (L := L) (M := L) (by omega)) ⟨(Has.w rfl h), (Has.w rfl h), trivial⟩)) ?_
            refine R_step rfl rfl (S_when rfl rfl (Has.t rfl) (fun h => op_lss (Has.w rfl h) Has.c)) ?_
            refine R_op rfl rfl rfl (op_and (Has.t rfl) (fun h => (Has.w rfl h))) ?_
            refine R_nil ?_
            refine T_cond (Has.t rfl) (fun hg => ?_) (fun hg => ?_)
            · have hg2 : (0 < k ∧ rcmp (eF l (k - 1)) f < 0) ∧ rcmp f (eF l k) < 0 := by simpa using hg
              rw [rcmp_real (tok.real _ (by omega)).1 he2, rcmp_real he2 (tok.real _ hc2).1] at hg2
              have hlk := look_mid hz hg2.1.1 hc2 hg2.1.2 hg2.2
              have hk0 := hg2.1.1
              refine T_seq ?_
              refine D_start (m := 17) ?_
              refine D_step (Ei := [(3, _)]) rfl rfl (Srcs.cons (Src.pre rfl rfl) Srcs.nil) (S_plain rfl (op_ldBA Tryz.isAgg57 Tryz.sizeOf57 (Has.t rfl) (i := 0) rfl rfl rfl)) ?_
              refine D_step (Ei := [(0, _)]) rfl rfl (Srcs.cons (Src.pre rfl rfl) Srcs.nil) (S_plain rfl (op_move (Has.t rfl))) ?_
              refine D_step (Ei := [(7, _)]) rfl rfl (Srcs.cons (Src.pre rfl rfl) Srcs.nil) (S_plain rfl (op_move (Has.t rfl))) ?_
              refine D_step (Ei := [(109, _)]) rfl rfl (Srcs.cons (Src.op 2 rfl rfl) Srcs.nil) (S_plain rfl (op_subN (Has.t rfl) (Has.cN 1) (by omega) (by show _ < 9223372036854775808; first | omega | (simp only [lim]; omega)))) ?_
              refine D_step (Ei := [(108, _), (110, _)]) rfl rfl (Srcs.cons (Src.op 1 rfl rfl) (Srcs.cons (Src.op 3 rfl rfl) Srcs.nil)) (S_plain rfl (op_idx Tryz.runUnderlying82 Tryz.sizeOf173 (Has.t rfl) (Has.t rfl) rfl (map_get (getD_some (d := (Qi.zero, Qi.zero)) (by omega))))) ?_
              refine D_step (Ei := [(111, _)]) rfl rfl (Srcs.cons (Src.op 4 rfl rfl) Srcs.nil) (S_plain rfl (op_fld (s := 5) fa_173_0 (Has.t rfl) rfl)) ?_
              refine D_step (Ei := [(112, _)]) rfl rfl (Srcs.cons (Src.op 5 rfl rfl) Srcs.nil) (S_plain rfl (op_ld Tryz.isAgg57 Tryz.sizeOf57 (Has.t rfl))) ?_
              refine D_step (Ei := [(107, _), (113, _)]) rfl rfl (Srcs.cons (Src.op 0 rfl rfl) (Srcs.cons (Src.op 6 rfl rfl) Srcs.nil)) (S_plain rfl (op_call Tryz.call88 (c_rSub (x := f) (y := eF l (k - 1)) (L := L) (M := L) (by omega)) ⟨(Has.t rfl), (Has.t rfl), trivial⟩)) ?_
              refine D_step (Ei := [(0, _)]) rfl rfl (Srcs.cons (Src.pre rfl rfl) Srcs.nil) (S_plain rfl (op_move (Has.t rfl))) ?_
              refine D_step (Ei := [(7, _)]) rfl rfl (Srcs.cons (Src.pre rfl rfl) Srcs.nil) (S_plain rfl (op_move (Has.t rfl))) ?_
              refine D_step (Ei := [(115, _), (116, _)]) rfl rfl (Srcs.cons (Src.op 8 rfl rfl) (Srcs.cons (Src.op 9 rfl rfl) Srcs.nil)) (S_plain rfl (op_idx Tryz.runUnderlying82 Tryz.sizeOf173 (Has.t rfl) (Has.t rfl) rfl (map_get (getD_some (d := (Qi.zero, Qi.zero)) hc2)))) ?_
              refine D_step (Ei := [(117, _)]) rfl rfl (Srcs.cons (Src.op 10 rfl rfl) Srcs.nil) (S_plain rfl (op_fld (s := 5) fa_173_0 (Has.t rfl) rfl)) ?_
              refine D_step (Ei := [(118, _)]) rfl rfl (Srcs.cons (Src.op 11 rfl rfl) Srcs.nil) (S_plain rfl (op_ld Tryz.isAgg57 Tryz.sizeOf57 (Has.t rfl))) ?_
              refine D_step (Ei := [(3, _)]) rfl rfl (Srcs.cons (Src.pre rfl rfl) Srcs.nil) (S_plain rfl (op_ldBA Tryz.isAgg57 Tryz.sizeOf57 (Has.t rfl) (i := 0) rfl rfl rfl)) ?_
              refine D_step (Ei := [(119, _), (120, _)]) rfl rfl (Srcs.cons (Src.op 12 rfl rfl) (Srcs.cons (Src.op 13 rfl rfl) Srcs.nil)) (S_plain rfl (op_call Tryz.call88 (c_rSub (x := eF l k) (y := f) (L := L) (M := L) (by omega)) ⟨(Has.t rfl), (Has.t rfl), trivial⟩)) ?_
              refine D_new (Ei := []) rfl rfl rfl Srcs.nil (new_alloc (Ts := [Is (.bool false), Is (.slice none 0 0), Is (.bool false), Is (.slice none 0 0), Is (.slice none 0 0)]) Tryz.zeroValue57 rfl (fun V => Cells.cons' ⟨rfl, trivial⟩ (Cells.cons' ⟨rfl, trivial⟩ (Cells.cons' ⟨rfl, trivial⟩ (Cells.cons' ⟨rfl, trivial⟩ (Cells.cons' ⟨rfl, trivial⟩ (Cells.nil))))))) ?_
              refine D_new (Ei := []) rfl rfl rfl Srcs.nil (new_alloc (Ts := [Is (.bool false), Is (.slice none 0 0), Is (.bool false), Is (.slice none 0 0), Is (.slice none 0 0)]) Tryz.zeroValue57 rfl (fun V => Cells.cons' ⟨rfl, trivial⟩ (Cells.cons' ⟨rfl, trivial⟩ (Cells.cons' ⟨rfl, trivial⟩ (Cells.cons' ⟨rfl, trivial⟩ (Cells.cons' ⟨rfl, trivial⟩ (Cells.nil))))))) ?_
              refine D_done mixed rfl (by kernel_rfl) (F_val (F_val (F_val (F_val (F_val (F_val (F_val (F_val (F_val (F_val (F_val (F_val (F_val (F_val (F_val (F_new (fun B8 => F_new (fun B9 => F_nil ?_))))))))))))))))))
              refine R_stA Tryz.sizeOf57 (Has.t rfl) (Has.t rfl) rfl (i := 2) rfl (Nat.le_of_ble_eq_true rfl) rfl rfl ?_
              refine R_stA Tryz.sizeOf57 (Has.t rfl) (Has.t rfl) rfl (i := 3) rfl (Nat.le_of_ble_eq_true rfl) rfl rfl ?_
              refine R_nil ?_
              refine T_seq ?_
              refine Y.D_start (m := 25) [] ?_
              refine Y.D_hide (Ei := [(0, _)]) rfl rfl (Y.Srcs.cons (Y.Src.pre rfl rfl) Y.Srcs.nil) rfl rfl (S_plain rfl (op_move (Has.t rfl))) ?_
              refine Y.D_hide (Ei := [(7, _)]) rfl rfl (Y.Srcs.cons (Y.Src.pre rfl rfl) Y.Srcs.nil) rfl rfl (S_plain rfl (op_move (Has.t rfl))) ?_
              refine Y.D_hide (Ei := [(124, _)]) rfl rfl (Y.Srcs.cons (Y.Src.op 1 rfl rfl) Y.Srcs.nil) rfl rfl (S_plain rfl (op_subN (Has.t rfl) (Has.cN 1) (by omega) (by show _ < 9223372036854775808; first | omega | (simp only [lim]; omega)))) ?_
              refine Y.D_hide (Ei := [(123, _), (125, _)]) rfl rfl (Y.Srcs.cons (Y.Src.op 0 rfl rfl) (Y.Srcs.cons (Y.Src.op 2 rfl rfl) Y.Srcs.nil)) rfl rfl (S_plain rfl (op_idx Tryz.runUnderlying82 Tryz.sizeOf173 (Has.t rfl) (Has.t rfl) rfl (map_get (getD_some (d := (Qi.zero, Qi.zero)) (by omega))))) ?_
              refine Y.D_hide (Ei := [(126, _)]) rfl rfl (Y.Srcs.cons (Y.Src.op 3 rfl rfl) Y.Srcs.nil) rfl rfl (S_plain rfl (op_fld (s := 5) fa_173_1 (Has.t rfl) rfl)) ?_
              refine Y.D_hide (Ei := [(127, _)]) rfl rfl (Y.Srcs.cons (Y.Src.op 4 rfl rfl) Y.Srcs.nil) rfl rfl (S_plain rfl (op_ld Tryz.isAgg57 Tryz.sizeOf57 (Has.t rfl))) ?_
              refine Y.D_hide (Ei := [(9, _)]) rfl rfl (Y.Srcs.cons (Y.Src.pre rfl rfl) Y.Srcs.nil) rfl rfl (S_plain rfl (op_ldBA Tryz.isAgg57 Tryz.sizeOf57 (Has.t rfl) (i := 3) rfl rfl rfl)) ?_
              refine Y.D_hide (Ei := [(128, _), (129, _)]) rfl rfl (Y.Srcs.cons (Y.Src.op 5 rfl rfl) (Y.Srcs.cons (Y.Src.op 6 rfl rfl) Y.Srcs.nil)) rfl rfl (S_plain rfl (op_call Tryz.call87 (c_rMul (x := eV l (k - 1)) (y := eF l k - f) (by omega)) ⟨(Has.t rfl), (Has.t rfl), trivial⟩)) ?_
              refine Y.D_hide (Ei := [(0, _)]) rfl rfl (Y.Srcs.cons (Y.Src.pre rfl rfl) Y.Srcs.nil) rfl rfl (S_plain rfl (op_move (Has.t rfl))) ?_
              refine Y.D_hide (Ei := [(7, _)]) rfl rfl (Y.Srcs.cons (Y.Src.pre rfl rfl) Y.Srcs.nil) rfl rfl (S_plain rfl (op_move (Has.t rfl))) ?_
              refine Y.D_hide (Ei := [(131, _), (132, _)]) rfl rfl (Y.Srcs.cons (Y.Src.op 8 rfl rfl) (Y.Srcs.cons (Y.Src.op 9 rfl rfl) Y.Srcs.nil)) rfl rfl (S_plain rfl (op_idx Tryz.runUnderlying82 Tryz.sizeOf173 (Has.t rfl) (Has.t rfl) rfl (map_get (getD_some (d := (Qi.zero, Qi.zero)) hc2)))) ?_
              refine Y.D_hide (Ei := [(133, _)]) rfl rfl (Y.Srcs.cons (Y.Src.op 10 rfl rfl) Y.Srcs.nil) rfl rfl (S_plain rfl (op_fld (s := 5) fa_173_1 (Has.t rfl) rfl)) ?_
              refine Y.D_hide (Ei := [(134, _)]) rfl rfl (Y.Srcs.cons (Y.Src.op 11 rfl rfl) Y.Srcs.nil) rfl rfl (S_plain rfl (op_ld Tryz.isAgg57 Tryz.sizeOf57 (Has.t rfl))) ?_
              refine Y.D_hide (Ei := [(8, _)]) rfl rfl (Y.Srcs.cons (Y.Src.pre rfl rfl) Y.Srcs.nil) rfl rfl (S_plain rfl (op_ldBA Tryz.isAgg57 Tryz.sizeOf57 (Has.t rfl) (i := 2) rfl rfl rfl)) ?_
              refine Y.D_hide (Ei := [(135, _), (136, _)]) rfl rfl (Y.Srcs.cons (Y.Src.op 12 rfl rfl) (Y.Srcs.cons (Y.Src.op 13 rfl rfl) Y.Srcs.nil)) rfl rfl (S_plain rfl (op_call Tryz.call87 (c_rMul (x := eV l k) (y := f - eF l (k - 1)) (by omega)) ⟨(Has.t rfl), (Has.t rfl), trivial⟩)) ?_
              refine Y.D_hide (Ei := [(130, _), (137, _)]) rfl rfl (Y.Srcs.cons (Y.Src.op 7 rfl rfl) (Y.Srcs.cons (Y.Src.op 14 rfl rfl) Y.Srcs.nil)) rfl rfl (S_plain rfl (op_call Tryz.call92 (c_rAdd (x := eV l (k - 1) * (eF l k - f)) (y := eV l k * (f - eF l (k - 1))) (by omega)) ⟨(Has.t rfl), (Has.t rfl), trivial⟩)) ?_
              refine Y.D_hide (Ei := [(8, _)]) rfl rfl (Y.Srcs.cons (Y.Src.pre rfl rfl) Y.Srcs.nil) rfl rfl (S_plain rfl (op_ldBA Tryz.isAgg57 Tryz.sizeOf57 (Has.t rfl) (i := 2) rfl rfl rfl)) ?_
              refine Y.D_hide (Ei := [(9, _)]) rfl rfl (Y.Srcs.cons (Y.Src.pre rfl rfl) Y.Srcs.nil) rfl rfl (S_plain rfl (op_ldBA Tryz.isAgg57 Tryz.sizeOf57 (Has.t rfl) (i := 3) rfl rfl rfl)) ?_
              refine Y.D_hide (Ei := [(139, _), (140, _)]) rfl rfl (Y.Srcs.cons (Y.Src.op 16 rfl rfl) (Y.Srcs.cons (Y.Src.op 17 rfl rfl) Y.Srcs.nil)) rfl rfl (S_plain rfl (op_call Tryz.call92 (c_rAdd (x := f - eF l (k - 1)) (y := eF l k - f) (by omega)) ⟨(Has.t rfl), (Has.t rfl), trivial⟩)) ?_
              refine Y.D_hide (Ei := [(138, _), (141, _)]) rfl rfl (Y.Srcs.cons (Y.Src.op 15 rfl rfl) (Y.Srcs.cons (Y.Src.op 18 rfl rfl) Y.Srcs.nil)) rfl rfl (S_plain rfl (op_call Tryz.call91 (c_rQDiv (x := eV l (k - 1) * (eF l k - f) + eV l k * (f - eF l (k - 1))) (y := f - eF l (k - 1) + (eF l k - f)) (by omega)) ⟨(Has.t rfl), (Has.t rfl), trivial⟩)) ?_
              refine Y.D_hide (Ei := [(142, _)]) rfl rfl (Y.Srcs.cons (Y.Src.op 19 rfl rfl) Y.Srcs.nil) rfl rfl (S_plain rfl (op_move (Has.t rfl))) ?_
              refine Y.D_hide (Ei := [(122, _)]) rfl rfl (Y.Srcs.cons (Y.Src.op 20 rfl rfl) Y.Srcs.nil) rfl rfl (S_plain rfl (op_extract (Has.t rfl) rfl)) ?_
              refine Y.D_hide (Ei := [(122, _)]) rfl rfl (Y.Srcs.cons (Y.Src.op 20 rfl rfl) Y.Srcs.nil) rfl rfl (S_plain rfl (op_extract (Has.t rfl) rfl)) ?_
              refine Y.D_newp (Ei := []) (fun bb => box bb 57 [BoolT (decide ((lerp2 l f k).a < 0)), NatT (lerp2 l f k).a.natAbs, BoolT (decide ((lerp2 l f k).b < 0)), NatT (lerp2 l f k).b.natAbs, NatT (lerp2 l f k).den]) 24 rfl rfl rfl Y.Srcs.nil rfl rfl (by kernel_rfl) (new_alloc (Ts := [Is (.bool false), Is (.slice none 0 0), Is (.bool false), Is (.slice none 0 0), Is (.slice none 0 0)]) Tryz.zeroValue57 rfl (fun V => Cells.cons' ⟨rfl, trivial⟩ (Cells.cons' ⟨rfl, trivial⟩ (Cells.cons' ⟨rfl, trivial⟩ (Cells.cons' ⟨rfl, trivial⟩ (Cells.cons' ⟨rfl, trivial⟩ (Cells.nil))))))) ?_
              refine Y.D_putN (Ei := [(143, _)]) 23 rfl rfl rfl rfl rfl rfl (Y.Srcs.cons (Y.Src.op 21 rfl rfl) Y.Srcs.nil) (fun bb => P_stA Tryz.sizeOf57 (Has.t rfl) (Has.t rfl) rfl (i := 0) rfl (Nat.le_of_ble_eq_true rfl) rfl rfl) ?_
              refine Y.D_done mixed rfl (by kernel_rfl) rfl (by simp [Y.okP]) rfl rfl (Y.F_val (Y.F_val (Y.F_val (Y.F_val (Y.F_val (Y.F_val (Y.F_val (Y.F_val (Y.F_val (Y.F_val (Y.F_val (Y.F_val (Y.F_val (Y.F_val (Y.F_val (Y.F_val (Y.F_val (Y.F_val (Y.F_val (Y.F_val (Y.F_val (Y.F_val (Y.F_val (Y.F_newp (fun B10 => Y.F_putN (Y.F_nil ?_))))))))))))))))))))))))))
              refine R_op rfl rfl rfl (op_assign (Has.t rfl)) ?_
              refine R_nil ?_
              refine T_seq ?_
              refine T_region ?_
              refine R_op rfl rfl rfl (op_ldBA Tryz.isAgg57 Tryz.sizeOf57 (Has.t rfl) (i := 4) rfl rfl rfl) ?_
              refine R_stA Tryz.sizeOf57 (Has.t rfl) (Has.t rfl) rfl (i := 1) rfl (Nat.le_of_ble_eq_true rfl) rfl rfl ?_
              refine R_op rfl rfl rfl (op_assign (Has.cN 0)) ?_
              refine R_nil ?_
              refine T_ret2 rfl (rv_to (rv_cell Tryz.isAgg57 Tryz.sizeOf57 rfl (i := 1) rfl rfl) ?_) (rv_to (rv_tmp rfl) ?_)
              · exact (q_of (by rw [hlk]))
              · exact (int_of (by rw [hlk]; rfl))
            · have hg2 : 0 < k → cmpR (eF l (k - 1)) f < 0 → ¬ cmpR f (eF l k) < 0 := fun p1 p2 p3 => by
                rw [← rcmp_real (tok.real (k - 1) (by omega)).1 he2] at p2
                rw [← rcmp_real he2 (tok.real k hc2).1] at p3
                simp [p1, p2, p3] at hg
              refine T_skip ?_
              refine T_blk ?_
              refine T_region ?_
              refine R_op rfl rfl rfl (op_move (Has.t rfl)) ?_
              refine R_op rfl rfl rfl (op_addN (Has.t rfl) (Has.cN 1) (by show _ < 9223372036854775808; first | omega | (simp only [lim]; omega))) ?_
              refine R_op rfl rfl rfl (op_assign (Has.t rfl)) ?_
              refine R_nil ?_
              refine T_again (k + 1) ⟨hc2, fun i h => by
                  by_cases e : i = k
                  · rw [e]; exact ⟨hs2, hg2⟩
                  · exact h1 i (by omega)⟩ (by omega) (Sub.cons rfl (Sub.cons rfl (Sub.cons rfl (Sub.cons rfl Sub.nil)))) (HSub.refl _)
        · simp only [decide_eq_false_iff_not] at hc2
          have hlk := look_none hz (fun i h => (h1 i (by omega)).1) (fun i p h => (h1 i (by omega)).2 p)
          refine T_exit rfl ?_
          refine T_seq ?_
          refine T_region ?_
          refine R_op rfl rfl rfl (op_call Tryz.call86 (c_rWhole (n := 0) (by decide) (by decide)) ⟨(Has.cN 0), trivial⟩) ?_
          refine R_stA Tryz.sizeOf57 (Has.t rfl) (Has.t rfl) rfl (i := 1) rfl (Nat.le_of_ble_eq_true rfl) rfl rfl ?_
          refine R_op rfl rfl rfl (op_assign (Has.cN 5)) ?_
          refine R_nil ?_
          refine T_ret2 rfl (rv_to (rv_cell Tryz.isAgg57 Tryz.sizeOf57 rfl (i := 1) rfl rfl) ?_) (rv_to (rv_tmp rfl) ?_)
          · exact (q_of (by rw [hlk]; rfl))
          · exact (int_of (by rw [hlk]; rfl))
set_option maxHeartbeats 1000000 in
set_option maxRecDepth 20000 in
theorem c_NoiseTables {l : List (Rt × Rt)} {f : Rt} {a : Nat} (ha : a < 256) : Fun Tryz.prog 6 [LEntsT l, RatT f, NT .u8 a] (BoolT true) := by
  refine Fun.intro Tryz.func6 rfl Tryz.ntmps6 rfl (fun cx => ?_)
  refine T_seq ?_
  refine T_region ?_
  refine R_new rfl rfl rfl (new_box (Has.t rfl)) (fun B4 => ?_)
  refine R_op rfl rfl rfl (op_assign Has.c) ?_
  refine R_nil ?_
  refine T_seq ?_
  refine T_seq ?_
  refine T_region ?_
  refine R_op rfl rfl rfl (op_move (Has.t rfl)) ?_
  refine R_op rfl rfl rfl (op_len Tryz.runUnderlying80 (Has.t rfl) len_map) ?_
  refine R_op rfl rfl rfl (op_gtrN (Has.t rfl) (Has.cN 40)) ?_
  refine R_nil ?_
  refine T_cond (Has.t rfl) (fun hb => ?_) (fun hb => ?_)
  · refine T_seq ?_
    refine T_region ?_
    refine R_op rfl rfl rfl (op_call Tryz.call15 c_awake trivial) ?_
    refine R_op rfl rfl rfl (op_assign (Has.t rfl)) ?_
    refine R_nil ?_
    exact T_ret1 rfl (rv_tmp rfl)
  · have hn : l.length ≤ 40 := by simp only [decide_eq_false_iff_not] at hb; omega
    have hfe : FitE (qe l) 2 := fun e he => by obtain ⟨r, _, rfl⟩ := List.mem_map.1 he; exact ⟨fitRt, fitRt⟩
    have hql : (qe l).length = l.length := List.length_map _
    have hff : FitC f.q 2 := inferInstance
    have hfit := lookR_fit hfe hff (by decide)
    refine T_skip ?_
    refine T_seq ?_
    refine T_region ?_
    refine R_op rfl rfl rfl (op_move (Has.t rfl)) ?_
    refine R_op rfl rfl rfl (op_call Tryz.call34 (c_entries (by omega)) ⟨(Has.t rfl), trivial⟩) ?_
    refine R_op rfl rfl rfl (op_move (Has.t rfl)) ?_
    refine R_op rfl rfl rfl (op_extract (Has.t rfl) rfl) ?_
    refine R_op rfl rfl rfl (op_extract (Has.t rfl) rfl) ?_
    refine R_op rfl rfl rfl (op_assign (Has.t rfl)) ?_
    refine R_op rfl rfl rfl (op_assign (Has.t rfl)) ?_
    refine R_nil ?_
    refine T_seq ?_
    refine T_region ?_
    refine R_op rfl rfl rfl (op_move (Has.t rfl)) ?_
    refine R_op rfl rfl rfl (op_ldBA Tryz.isAgg27 Tryz.sizeOf27 (Has.t rfl) (i := 0) rfl rfl rfl) ?_
    refine R_op rfl rfl rfl (op_call Tryz.call18 c_lawOf ⟨(Has.t rfl), trivial⟩) ?_
    refine R_op rfl rfl rfl (op_call Tryz.call35 (c_Lookup (l := qe l) (f := f.q) (L := 2) hfe hff (by decide) (by decide) (by omega)) ⟨(Has.t rfl), (Has.t rfl), trivial⟩) ?_
    refine R_op rfl rfl rfl (op_move (Has.t rfl)) ?_
    refine R_op rfl rfl rfl (op_extract (Has.t rfl) rfl) ?_
    refine R_op rfl rfl rfl (op_extract (Has.t rfl) rfl) ?_
    refine R_new rfl rfl rfl (new_alloc (Ts := [Is (.bool false), Is (.slice none 0 0), Is (.bool false), Is (.slice none 0 0), Is (.slice none 0 0)]) Tryz.zeroValue49 rfl (fun V => Cells.cons' ⟨rfl, trivial⟩ (Cells.cons' ⟨rfl, trivial⟩ (Cells.cons' ⟨rfl, trivial⟩ (Cells.cons' ⟨rfl, trivial⟩ (Cells.cons' ⟨rfl, trivial⟩ (Cells.nil))))))) (fun B9 => ?_)
    refine R_stA Tryz.sizeOf49 (Has.t rfl) (Has.t rfl) rfl (i := 1) rfl (Nat.le_of_ble_eq_true rfl) rfl rfl ?_
    refine R_op rfl rfl rfl (op_assign (Has.t rfl)) ?_
    refine R_nil ?_
    refine T_seq ?_
    refine T_region ?_
    refine R_op rfl rfl rfl (op_move (Has.t rfl)) ?_
    refine R_op rfl rfl rfl (op_ldBA Tryz.isAgg27 Tryz.sizeOf27 (Has.t rfl) (i := 0) rfl rfl rfl) ?_
    refine R_op rfl rfl rfl (op_call Tryz.call20 c_rOf ⟨(Has.t rfl), trivial⟩) ?_
    refine R_op rfl rfl rfl (op_call Tryz.call36 (c_rLookup (l := qe l) (f := f.q) (L := 2) hfe hff (by decide) (by decide) (by omega)) ⟨(Has.t rfl), (Has.t rfl), trivial⟩) ?_
    refine R_op rfl rfl rfl (op_move (Has.t rfl)) ?_
    refine R_op rfl rfl rfl (op_extract (Has.t rfl) rfl) ?_
    refine R_op rfl rfl rfl (op_extract (Has.t rfl) rfl) ?_
    refine R_new rfl rfl rfl (new_alloc (Ts := [Is (.bool false), Is (.slice none 0 0), Is (.bool false), Is (.slice none 0 0), Is (.slice none 0 0)]) Tryz.zeroValue57 rfl (fun V => Cells.cons' ⟨rfl, trivial⟩ (Cells.cons' ⟨rfl, trivial⟩ (Cells.cons' ⟨rfl, trivial⟩ (Cells.cons' ⟨rfl, trivial⟩ (Cells.cons' ⟨rfl, trivial⟩ (Cells.nil))))))) (fun B11 => ?_)
    refine R_stA Tryz.sizeOf57 (Has.t rfl) (Has.t rfl) rfl (i := 2) rfl (Nat.le_of_ble_eq_true rfl) rfl rfl ?_
    refine R_op rfl rfl rfl (op_assign (Has.t rfl)) ?_
    refine R_nil ?_
    refine T_seq ?_
    refine T_seq ?_
    refine T_region ?_
    refine R_op rfl rfl rfl (op_move (Has.t rfl)) ?_
    refine R_op rfl rfl rfl (op_move (Has.t rfl)) ?_
    refine R_op rfl rfl rfl (op_neq (Has.t rfl) (Has.t rfl)) ?_
    refine R_op rfl rfl rfl (op_move (Has.t rfl)) ?_
    refine R_step rfl rfl (S_when rfl rfl (Has.t rfl) (fun h => op_ldBA Tryz.isAgg49 Tryz.sizeOf49 (Has.t rfl) (i := 1) rfl rfl rfl)) ?_
    refine R_step rfl rfl (S_when rfl rfl (Has.t rfl) (fun h => op_ldBA Tryz.isAgg57 Tryz.sizeOf57 (Has.t rfl) (i := 2) rfl rfl rfl)) ?_
    refine R_step rfl rfl (S_when rfl rfl (Has.t rfl) (fun h => op_call Tryz.call21 (c_lawIs (x := (lookR (qe l) f.q).1) (y := (lookR (qe l) f.q).1) (hx := hfit) (hy := hfit) (by decide) (by decide)) ⟨(Has.w rfl h), (Has.w rfl h), trivial⟩)) ?_
    refine R_step rfl rfl (S_when rfl rfl (Has.t rfl) (fun h => op_not (Has.w rfl h))) ?_
    refine R_op rfl rfl rfl (op_or (Has.t rfl) (fun h => (Has.w rfl h))) ?_
    refine R_nil ?_
    refine T_condF (Has.t rfl) (by simp) ?_
    refine T_skip ?_
    refine T_seq ?_
    refine T_seq ?_
    refine T_region ?_
    refine R_op rfl rfl rfl (op_move (Has.t rfl)) ?_
    refine R_op rfl rfl rfl (op_len Tryz.runUnderlying80 (Has.t rfl) len_map) ?_
    refine R_op rfl rfl rfl (op_gtrN (Has.t rfl) (Has.cN 0)) ?_
    refine R_nil ?_
    refine T_cond (Has.t rfl) (fun hc => ?_) (fun hc => ?_)
    · simp only [decide_eq_true_eq] at hc
      have hm : a % l.length < (qe l).length := by rw [hql]; exact Nat.mod_lt _ hc
      haveI f1 : FitC (eF (qe l) (a % l.length)) 2 := (hfe.get (by decide) _).1
      haveI f2 : FitC (eV (qe l) (a % l.length)) 2 := (hfe.get (by decide) _).2
      have hfit2 := lookR_fit hfe f1 (by decide)
      haveI := hfit2
      have hsame := look_back (l := qe l) (k := a % l.length) hm
      refine T_seq ?_
      refine T_region ?_
      refine R_op rfl rfl rfl (op_move (Has.t rfl)) ?_
      refine R_op rfl rfl rfl (op_convN Tryz.runUnderlying5 Tryz.runUnderlying3 (Has.t rfl) (by show _ < 9223372036854775808; first | omega | (simp only [lim]; omega))) ?_
      refine R_op rfl rfl rfl (op_move (Has.t rfl)) ?_
      refine R_op rfl rfl rfl (op_len Tryz.runUnderlying80 (Has.t rfl) len_map) ?_
      refine R_op rfl rfl rfl (op_remN (Has.t rfl) (Has.t rfl) (by omega)) ?_
      refine R_op rfl rfl rfl (op_assign (Has.t rfl)) ?_
      refine R_nil ?_
      refine T_seq ?_
      refine T_region ?_
      refine R_op rfl rfl rfl (op_move (Has.t rfl)) ?_
      refine R_op rfl rfl rfl (op_move (Has.t rfl)) ?_
      refine R_op rfl rfl rfl (op_move (Has.t rfl)) ?_
      refine R_op rfl rfl rfl (op_idx Tryz.runUnderlying81 Tryz.sizeOf88 (Has.t rfl) (Has.t rfl) rfl (map_get (getD_some (d := (Qi.zero, Qi.zero)) hm))) ?_
      refine R_op rfl rfl rfl (op_fld (s := 5) fa_88_0 (Has.t rfl) rfl) ?_
      refine R_op rfl rfl rfl (op_ld Tryz.isAgg49 Tryz.sizeOf49 (Has.t rfl)) ?_
      refine R_op rfl rfl rfl (op_call Tryz.call35 (c_Lookup (l := qe l) (f := eF (qe l) (a % l.length)) (L := 2) hfe f1 (by decide) (by decide) (by omega)) ⟨(Has.t rfl), (Has.t rfl), trivial⟩) ?_
      refine R_op rfl rfl rfl (op_move (Has.t rfl)) ?_
      refine R_op rfl rfl rfl (op_extract (Has.t rfl) rfl) ?_
      refine R_op rfl rfl rfl (op_extract (Has.t rfl) rfl) ?_
      refine R_new rfl rfl rfl (new_alloc (Ts := [Is (.bool false), Is (.slice none 0 0), Is (.bool false), Is (.slice none 0 0), Is (.slice none 0 0)]) Tryz.zeroValue49 rfl (fun V => Cells.cons' ⟨rfl, trivial⟩ (Cells.cons' ⟨rfl, trivial⟩ (Cells.cons' ⟨rfl, trivial⟩ (Cells.cons' ⟨rfl, trivial⟩ (Cells.cons' ⟨rfl, trivial⟩ (Cells.nil))))))) (fun B14 => ?_)
      refine R_stA Tryz.sizeOf49 (Has.t rfl) (Has.t rfl) rfl (i := 3) rfl (Nat.le_of_ble_eq_true rfl) rfl rfl ?_
      refine R_op rfl rfl rfl (op_assign (Has.t rfl)) ?_
      refine R_nil ?_
      refine T_seq ?_
      refine D_start (m := 9) ?_
      refine D_step (Ei := [(15, _)]) rfl rfl (Srcs.cons (Src.pre rfl rfl) Srcs.nil) (S_plain rfl (op_move (Has.t rfl))) ?_
      refine D_step (Ei := [(66, _)]) rfl rfl (Srcs.cons (Src.op 0 rfl rfl) Srcs.nil) (S_plain rfl (op_eql (Has.t rfl) Has.c)) ?_
      refine D_step (Ei := [(67, _)]) rfl rfl (Srcs.cons (Src.op 1 rfl rfl) Srcs.nil) (S_plain rfl (op_move (Has.t rfl))) ?_
      refine D_step (Ei := [(14, _), (68, _)]) rfl rfl (Srcs.cons (Src.pre rfl rfl) (Srcs.cons (Src.op 2 rfl rfl) Srcs.nil)) (S_when rfl rfl (Has.t rfl) (fun h => op_ldBA Tryz.isAgg49 Tryz.sizeOf49 (Has.t rfl) (i := 3) rfl rfl rfl)) ?_
      refine D_step (Ei := [(7, _), (68, _)]) rfl rfl (Srcs.cons (Src.pre rfl rfl) (Srcs.cons (Src.op 2 rfl rfl) Srcs.nil)) (S_when rfl rfl (Has.t rfl) (fun h => op_move (Has.t rfl))) ?_
      refine D_step (Ei := [(13, _), (68, _)]) rfl rfl (Srcs.cons (Src.pre rfl rfl) (Srcs.cons (Src.op 2 rfl rfl) Srcs.nil)) (S_when rfl rfl (Has.t rfl) (fun h => op_move (Has.t rfl))) ?_
      refine D_step (Ei := [(70, _), (71, _), (68, _)]) rfl rfl (Srcs.cons (Src.op 4 rfl rfl) (Srcs.cons (Src.op 5 rfl rfl) (Srcs.cons (Src.op 2 rfl rfl) Srcs.nil))) (S_when rfl rfl (Has.t rfl) (fun h => op_idx Tryz.runUnderlying81 Tryz.sizeOf88 (Has.w rfl h) (Has.w rfl h) rfl (map_get (getD_some (d := (Qi.zero, Qi.zero)) hm)))) ?_
      refine D_step (Ei := [(72, _), (68, _)]) rfl rfl (Srcs.cons (Src.op 6 rfl rfl) (Srcs.cons (Src.op 2 rfl rfl) Srcs.nil)) (S_when rfl rfl (Has.t rfl) (fun h => op_fld (s := 5) fa_88_1 (Has.w rfl h) rfl)) ?_
      refine D_step (Ei := [(73, _), (68, _)]) rfl rfl (Srcs.cons (Src.op 7 rfl rfl) (Srcs.cons (Src.op 2 rfl rfl) Srcs.nil)) (S_when rfl rfl (Has.t rfl) (fun h => op_ld Tryz.isAgg49 Tryz.sizeOf49 (Has.w rfl h))) ?_
      refine D_done mixed rfl (by kernel_rfl) (F_val (F_val (F_val (F_val (F_val (F_val (F_val (F_val (F_val (F_nil ?_))))))))))
      refine R_step rfl rfl (S_when rfl rfl (Has.t rfl) (fun h => op_call Tryz.call27 (c_Same (x := (lookR (qe l) (eF (qe l) (a % l.length))).1) (y := eV (qe l) (a % l.length)) (L := 60) (M := 2) (hx := hfit2) (hy := f2) (by decide) (by decide)) ⟨(Has.w rfl h), (Has.w rfl h), trivial⟩)) ?_
      refine R_step rfl rfl (S_when rfl rfl (Has.t rfl) (fun h => op_not (Has.w rfl h))) ?_
      refine R_op rfl rfl rfl (op_and (Has.t rfl) (fun h => (Has.w rfl h))) ?_
      refine R_nil ?_
      refine T_condF (Has.t rfl) (by by_cases h0 : (lookR (qe l) (eF (qe l) (a % l.length))).2 = 0; rw [hsame h0]; simp; simp [h0]) ?_
      refine T_skip ?_
      refine T_seq ?_
      refine T_region ?_
      refine R_op rfl rfl rfl (op_call Tryz.call15 c_awake trivial) ?_
      refine R_op rfl rfl rfl (op_assign (Has.t rfl)) ?_
      refine R_nil ?_
      exact T_ret1 rfl (rv_tmp rfl)
    · refine T_skip ?_
      refine T_seq ?_
      refine T_region ?_
      refine R_op rfl rfl rfl (op_call Tryz.call15 c_awake trivial) ?_
      refine R_op rfl rfl rfl (op_assign (Has.t rfl)) ?_
      refine R_nil ?_
      exact T_ret1 rfl (rv_tmp rfl)
end Go.Proofs.YtppibhcfaahgpaaGreat
namespace Go.Proofs.YtppibhcfaahgpaaGreat
open Go Go.ChangeShapes Go.WideShapes Go.ChangeAt Go.RowKit Go.Deep
section
variable {H : Type} {enc : TypeId × Value → H} {W : World} {base : Nat} {sp : Nat → Bool} {held : Bool}
theorem trod_struct2 {P : Program} {t : TypeId} {f0 f1 : Field} {fuel : Nat} {cs : List Value} {x : DataW H × List MemPlace} (ht : P.underlying t = some (.struct #[f0, f1])) (h : DataW.trod enc P W base sp held fuel t cs = some x) :
    ∃ y0 y1 n, cs.length = P.cellsOf t ∧ DataW.trod enc P W base sp held n f0.type ((cs.drop f0.offset).take (P.cellsOf f0.type)) = some y0 ∧
      DataW.trod enc P W base sp held n f1.type ((cs.drop f1.offset).take (P.cellsOf f1.type)) = some y1 := by
  obtain ⟨xs, n, _, rfl, hl, hlen, hf⟩ := DataW.trod_struct ht h
  match xs, hlen with
  | [y0, y1], _ => exact ⟨y0, y1, n, hl, by simpa using hf 0 f0 rfl, by simpa using hf 1 f1 rfl⟩
set_option maxRecDepth 100000 in
theorem c171 : Tryz.prog.cellsOf 171 = 6 := by kernel_rfl
set_option maxRecDepth 100000 in
theorem c27 : Tryz.prog.cellsOf 27 = 3 := by kernel_rfl
theorem six {α : Type} {cs : List α} (h : cs.length = 6) : ∃ a b c d e f, cs = [a, b, c, d, e, f] := by
  match cs, h with
  | [a, b, c, d, e, f], _ => exact ⟨a, b, c, d, e, f, rfl⟩
set_option maxRecDepth 100000 in
theorem open_ent {n : Nat} {cs : List Value} {y : DataW H × List MemPlace} (h : DataW.trod enc Tryz.prog W base sp held n 171 cs = some y) : ∃ (e : Rt × Rt) (x : Value), x.cells.toList = cs ∧ (LEntT e).p x (hv W) := by
  obtain ⟨y0, y1, m, hl, h0, h1⟩ := trod_struct2 Tryz.underlying171 h
  rw [c171] at hl
  obtain ⟨a, b, c, d, e, f, rfl⟩ := six hl
  have h0' : DataW.trod enc Tryz.prog W base sp held m 27 (List.take (Tryz.prog.cellsOf 27) ([a, b, c, d, e, f].drop 0)) = some y0 := h0
  have h1' : DataW.trod enc Tryz.prog W base sp held m 27 (List.take (Tryz.prog.cellsOf 27) ([a, b, c, d, e, f].drop 3)) = some y1 := h1
  rw [c27] at h0' h1'
  obtain ⟨r, hr⟩ := open_rt s27 Tryz.underlying2 h0'
  obtain ⟨q, hq⟩ := open_rt s27 Tryz.underlying2 h1'
  simp only [List.drop_zero, List.take_succ_cons, List.take_zero, List.drop_succ_cons, List.cons.injEq, and_true] at hr hq
  obtain ⟨rfl, rfl, rfl⟩ := hr
  obtain ⟨rfl, rfl, rfl⟩ := hq
  exact ⟨(r, q), .agg #[.int .i64 r.re, .int .i64 r.im, .int .i64 r.den, .int .i64 q.re, .int .i64 q.im, .int .i64 q.den], rfl, _, rfl,
    Cells.cons' ⟨rfl, trivial⟩ (Cells.cons' ⟨rfl, trivial⟩ (Cells.cons' ⟨rfl, trivial⟩ (Cells.cons' ⟨rfl, trivial⟩ (Cells.cons' ⟨rfl, trivial⟩ (Cells.cons' ⟨rfl, trivial⟩ Cells.nil)))))⟩
set_option maxRecDepth 100000 in
theorem open_ents {n : Nat} {cs : List Value} {y : DataW H × List MemPlace} (h : DataW.trod enc Tryz.prog W base sp held n 80 cs = some y) : ∃ (v : Value) (l : List (Rt × Rt)), cs = [v] ∧ (LEntsT l).p v (hv W) :=
  open_sl (F := LEntT) Tryz.underlying80 c171 (by decide) (fun n cs y h => open_ent h) h
set_option maxRecDepth 100000 in
theorem trod_entsT {b0 : Nat} {v : Value} {d : DataW H} {p : List MemPlace} (ho : Value.okWide Tryz.prog W .any b0 80 v) (h : DataW.Trod enc Tryz.prog W base sp held 80 v d p) : ∃ l : List (Rt × Rt), (LEntsT l).p v (hv W) := by
  obtain ⟨a, n, k, rfl⟩ := okWide_slice Tryz.underlying80 ho
  obtain ⟨m, hm⟩ := h
  obtain ⟨v, l, e, hl⟩ := open_ents hm
  have : [Value.slice a n k] = [v] := e
  simp only [List.cons.injEq, and_true] at this
  subst this
  exact ⟨l, hl⟩
end
end Go.Proofs.YtppibhcfaahgpaaGreat
