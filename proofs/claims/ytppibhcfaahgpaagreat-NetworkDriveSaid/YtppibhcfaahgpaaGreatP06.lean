/- What functions of the program compute, proved by walks over their code, and the plain mathematics of it; a part of the proof in the last text. -/
import Derived.Test.YtppibhcfaahgpaaGreatP05
set_option linter.unusedVariables false
set_option linter.unusedSimpArgs false
namespace Go.Proofs.YtppibhcfaahgpaaGreat
open Go Go.RowKit
set_option maxRecDepth 20000 in
theorem c_dot {x : Qi} {l m : List Qi} {L M n : Nat} (hx : FitC x M) (hl : FitL l L) (hm : FitL m L) (hL : 1 ≤ L) (hll : l.length = n) (hml : m.length = n) (hn : n ≤ 1000) (hb : M + n * (2 * L + 2) ≤ 17592186044415) : Fun Tryz.prog 144 [NumT x, NumsT l, NumsT m] (NumT (dotF x l m n)) := by
  refine Fun.intro Tryz.func144 rfl Tryz.ntmps144 rfl (fun cx => ?_)
  refine T_seq ?_
  refine T_region ?_
  refine R_new rfl rfl rfl (new_box (Has.t rfl)) (fun B3 => ?_)
  refine R_new rfl rfl rfl (new_alloc (Ts := [Is (.bool false), Is (.slice none 0 0), Is (.bool false), Is (.slice none 0 0), Is (.slice none 0 0)]) Tryz.zeroValue49 rfl (fun V => Cells.cons' ⟨rfl, trivial⟩ (Cells.cons' ⟨rfl, trivial⟩ (Cells.cons' ⟨rfl, trivial⟩ (Cells.cons' ⟨rfl, trivial⟩ (Cells.cons' ⟨rfl, trivial⟩ (Cells.nil))))))) (fun B6 => ?_)
  refine R_nil ?_
  refine T_seq ?_
  refine T_seq ?_
  refine T_region ?_
  refine R_op rfl rfl rfl (op_move (Has.t rfl)) ?_
  refine R_op rfl rfl rfl (op_len Tryz.runUnderlying30 (Has.t rfl) (by rw [List.length_map, hll])) ?_
  refine R_op rfl rfl rfl (op_move (Has.cN 0)) ?_
  refine R_nil ?_
  refine T_block ?_
  refine T_loop (fun (k : Nat) => k ≤ n) (fun (k : Nat) => n - k) (fun (k : Nat) => [(1, NumsT l), (2, NumsT m), (3, PtrB B3 0), (6, PtrB B6 0), (9, NT .i64 n), (10, NT .i64 k)]) (fun (k : Nat) => [box B3 49 [BoolT (decide ((dotF x l m k).a < 0)), NatT (dotF x l m k).a.natAbs, BoolT (decide ((dotF x l m k).b < 0)), NatT (dotF x l m k).b.natAbs, NatT (du (dotF x l m k))], box B6 49 [Is (.bool false), Is (.slice none 0 0), Is (.bool false), Is (.slice none 0 0), Is (.slice none 0 0)]]) 0 (Nat.zero_le _)
    (Sub.cons rfl (Sub.cons rfl (Sub.cons rfl (Sub.cons rfl (Sub.cons rfl (Sub.cons rfl Sub.nil)))))) (HSub.refl _) (fun k hk => ?_)
  refine T_seq ?_
  refine T_region ?_
  refine R_op rfl rfl rfl (op_lssN (Has.t rfl) (Has.t rfl)) ?_
  refine R_nil ?_
  refine T_seq ?_
  refine T_cond (Has.t rfl) (fun hd => ?_) (fun hd => ?_)
  · simp only [decide_eq_true_eq] at hd
    haveI f1 := dotF_fit hx hl hm hL k
    haveI f2 := hl.get hL k
    haveI f3 := hm.get hL k
    have hkn : (k + 1) * (2 * L + 2) ≤ n * (2 * L + 2) := Nat.mul_le_mul_right _ hd
    rw [Nat.add_mul] at hkn
    refine T_skip ?_
    refine T_seq ?_
    refine T_block ?_
    refine T_seq ?_
    refine T_region ?_
    refine R_op rfl rfl rfl (op_move (Has.t rfl)) ?_
    refine R_op rfl rfl rfl (op_assign (Has.t rfl)) ?_
    refine R_nil ?_
    refine D_start (m := 12) ?_
    refine D_step (Ei := [(3, _)]) rfl rfl (Srcs.cons (Src.pre rfl rfl) Srcs.nil) (S_plain rfl (op_ldBA Tryz.isAgg49 Tryz.sizeOf49 (Has.t rfl) (i := 0) rfl rfl rfl)) ?_
    refine D_step (Ei := [(13, _)]) rfl rfl (Srcs.cons (Src.op 0 rfl rfl) Srcs.nil) (S_plain rfl (op_iface mkif_49 (Has.t rfl))) ?_
    refine D_step (Ei := [(1, _)]) rfl rfl (Srcs.cons (Src.pre rfl rfl) Srcs.nil) (S_plain rfl (op_move (Has.t rfl))) ?_
    refine D_step (Ei := [(7, _)]) rfl rfl (Srcs.cons (Src.pre rfl rfl) Srcs.nil) (S_plain rfl (op_move (Has.t rfl))) ?_
    refine D_step (Ei := [(15, _), (16, _)]) rfl rfl (Srcs.cons (Src.op 2 rfl rfl) (Srcs.cons (Src.op 3 rfl rfl) Srcs.nil)) (S_plain rfl (op_idx Tryz.runUnderlying30 Tryz.sizeOf49 (Has.t rfl) (Has.t rfl) rfl (map_get (getD_some (d := Qi.zero) (by omega))))) ?_
    refine D_step (Ei := [(17, _)]) rfl rfl (Srcs.cons (Src.op 4 rfl rfl) Srcs.nil) (S_plain rfl (op_ld Tryz.isAgg49 Tryz.sizeOf49 (Has.t rfl))) ?_
    refine D_step (Ei := [(18, _)]) rfl rfl (Srcs.cons (Src.op 5 rfl rfl) Srcs.nil) (S_plain rfl (op_iface mkif_49 (Has.t rfl))) ?_
    refine D_step (Ei := [(2, _)]) rfl rfl (Srcs.cons (Src.pre rfl rfl) Srcs.nil) (S_plain rfl (op_move (Has.t rfl))) ?_
    refine D_step (Ei := [(7, _)]) rfl rfl (Srcs.cons (Src.pre rfl rfl) Srcs.nil) (S_plain rfl (op_move (Has.t rfl))) ?_
    refine D_step (Ei := [(20, _), (21, _)]) rfl rfl (Srcs.cons (Src.op 7 rfl rfl) (Srcs.cons (Src.op 8 rfl rfl) Srcs.nil)) (S_plain rfl (op_idx Tryz.runUnderlying30 Tryz.sizeOf49 (Has.t rfl) (Has.t rfl) rfl (map_get (getD_some (d := Qi.zero) (by omega))))) ?_
    refine D_step (Ei := [(22, _)]) rfl rfl (Srcs.cons (Src.op 9 rfl rfl) Srcs.nil) (S_plain rfl (op_ld Tryz.isAgg49 Tryz.sizeOf49 (Has.t rfl))) ?_
    refine D_step (Ei := [(19, _), (23, _)]) rfl rfl (Srcs.cons (Src.op 6 rfl rfl) (Srcs.cons (Src.op 10 rfl rfl) Srcs.nil)) (S_plain rfl (op_invoke meth_49_Mul Tryz.call56 (c_Mul (x := gv l k) (y := gv m k) (L := L) (M := L) (by omega)) (Has.t rfl) ⟨(Has.t rfl), trivial⟩)) ?_
    refine D_done mixed rfl (by kernel_rfl) (F_val (F_val (F_val (F_val (F_val (F_val (F_val (F_val (F_val (F_val (F_val (F_val (F_nil ?_)))))))))))))
    refine R_op rfl rfl rfl (op_invoke meth_49_Add Tryz.call59 (c_Add (x := dotF x l m k) (y := gv l k * gv m k) (L := M + k * (2 * L + 2)) (M := L + L + 1) (by omega)) (Has.t rfl) ⟨(Has.t rfl), trivial⟩) ?_
    refine R_stA Tryz.sizeOf49 (Has.t rfl) (Has.t rfl) rfl (i := 0) rfl (Nat.le_of_ble_eq_true rfl) rfl rfl ?_
    refine R_nil ?_
    refine T_blk ?_
    refine T_region ?_
    refine R_op rfl rfl rfl (op_addN (Has.t rfl) (Has.cN 1) (by show _ < 9223372036854775808; first | omega | (simp only [lim]; omega))) ?_
    refine R_op rfl rfl rfl (op_move (Has.t rfl)) ?_
    refine R_nil ?_
    refine T_again (k + 1) hd (by omega) (Sub.cons rfl (Sub.cons rfl (Sub.cons rfl (Sub.cons rfl (Sub.cons rfl (Sub.cons rfl Sub.nil)))))) (HSub.refl _)
  · simp only [decide_eq_false_iff_not] at hd
    obtain rfl : k = n := Nat.le_antisymm hk (by omega)
    refine T_exit rfl ?_
    refine T_seq ?_
    refine T_region ?_
    refine R_op rfl rfl rfl (op_ldBA Tryz.isAgg49 Tryz.sizeOf49 (Has.t rfl) (i := 0) rfl rfl rfl) ?_
    refine R_stA Tryz.sizeOf49 (Has.t rfl) (Has.t rfl) rfl (i := 1) rfl (Nat.le_of_ble_eq_true rfl) rfl rfl ?_
    refine R_nil ?_
    exact T_ret1 rfl (rv_cell Tryz.isAgg49 Tryz.sizeOf49 rfl (i := 1) rfl rfl)
set_option maxRecDepth 20000 in
theorem c_Drive {z a : List Qi} {s : List (List Qi)} {L : Nat} (hs : Shp s z.length z.length) (hf : FitM s L) (ha : FitL a L) (hL : 1 ≤ L) (hLb : L ≤ 1000000) (h1 : 1 ≤ z.length) (hl : z.length ≤ 1000) : Fun Tryz.prog 66 [NetT z s, NumsT a] (TupT [NumsT (okL (drvE z.length a.length) (drvX s a z.length)), IntT .i64 (drvE z.length a.length)]) := by
  have hsl := hs.1
  refine Fun.intro Tryz.func66 rfl Tryz.ntmps66 rfl (fun cx => ?_)
  refine T_seq ?_
  refine T_region ?_
  refine R_new rfl rfl rfl (new_box (Has.t rfl)) (fun B2 => ?_)
  refine R_op rfl rfl rfl (op_assign Has.c) ?_
  refine R_op rfl rfl rfl (op_assign (Has.cN 0)) ?_
  refine R_nil ?_
  refine T_seq ?_
  refine T_seq ?_
  refine T_region ?_
  refine R_op rfl rfl rfl (op_move (Has.t rfl)) ?_
  refine R_op rfl rfl rfl (op_len Tryz.runUnderlying30 (Has.t rfl) len_map) ?_
  refine R_op rfl rfl rfl (op_fldB fa_33_0 (Has.t rfl) rfl) ?_
  refine R_op rfl rfl rfl (op_ldB Tryz.isAgg30 Tryz.sizeOf30 (Has.t rfl) (i := 0) rfl rfl) ?_
  refine R_op rfl rfl rfl (op_len Tryz.runUnderlying30 (Has.t rfl) len_map) ?_
  refine R_op rfl rfl rfl (op_neqN (Has.t rfl) (Has.t rfl)) ?_
  refine R_nil ?_
  refine T_cond (Has.t rfl) (fun hb => ?_) (fun hb => ?_)
  · have hn : ¬ a.length = z.length := by simpa using hb
    have he : drvE z.length a.length = 4 := by rw [drvE, if_neg hn]
    refine T_seq ?_
    refine T_region ?_
    refine R_op rfl rfl rfl (op_assign Has.c) ?_
    refine R_op rfl rfl rfl (op_assign (Has.cN 4)) ?_
    refine R_nil ?_
    refine T_ret2 rfl (rv_to (rv_tmp rfl) ?_) (rv_to (rv_tmp rfl) ?_)
    · exact (fun v V h => by rw [he]; exact nil_slT v V h)
    · exact (int_of he.symm)
  · have hn : a.length = z.length := by simpa using hb
    have he : drvE z.length a.length = 0 := by rw [drvE, if_pos hn]
    refine T_skip ?_
    refine T_seq ?_
    refine T_region ?_
    refine R_op rfl rfl rfl (op_move (Has.t rfl)) ?_
    refine R_op rfl rfl rfl (op_len Tryz.runUnderlying30 (Has.t rfl) (by rw [List.length_map, hn])) ?_
    refine R_new rfl rfl rfl (new_makeO (T := NumT Qi.zero) (i := Tryz.t49) und_30 info_49 rfl rfl (Has.t rfl) rfl num_zero_p (El.ag rfl) (by show 88 * _ ≤ _; omega) (by omega)) (fun B17 => ?_)
    refine R_op rfl rfl rfl (op_assign (Has.t rfl)) ?_
    refine R_nil ?_
    refine T_seq ?_
    refine T_seq ?_
    refine T_region ?_
    refine R_op rfl rfl rfl (op_fldB fa_33_1 (Has.t rfl) rfl) ?_
    refine R_op rfl rfl rfl (op_ldB Tryz.isAgg31 Tryz.sizeOf31 (Has.t rfl) (i := 0) rfl rfl) ?_
    refine R_op rfl rfl rfl (op_len Tryz.runUnderlying31 (Has.t rfl) (by rw [List.length_map, hsl])) ?_
    refine R_op rfl rfl rfl (op_move (Has.cN 0)) ?_
    refine R_nil ?_
    refine T_block ?_
    refine T_loop (fun (i : Nat) => i ≤ z.length) (fun (i : Nat) => z.length - i) (fun (i : Nat) => [(1, NumsT a), (2, PtrB B2 0), (6, Is B17), (19, NumM s), (20, NT .i64 z.length), (21, NT .i64 i)]) (fun (i : Nat) => [box B2 33 [NumsT z, NumM s], rowO 49 5 B17 ((mixT (fun i => apF (s.getD i []) a z.length) Qi.zero z.length i).map NumT)]) 0 (Nat.zero_le _)
      (Sub.cons rfl (Sub.cons rfl (Sub.cons rfl (Sub.cons rfl (Sub.cons rfl (Sub.cons rfl Sub.nil)))))) (HSub.cons (box_of rfl) (HSub.cons (rowO_of (by rw [← mix_zero]; exact tab_rep NumT z.length)) HSub.nil)) (fun i hi => ?_)
    refine T_seq ?_
    refine T_region ?_
    refine R_op rfl rfl rfl (op_lssN (Has.t rfl) (Has.t rfl)) ?_
    refine R_nil ?_
    refine T_seq ?_
    refine T_cond (Has.t rfl) (fun hd => ?_) (fun hd => ?_)
    · simp only [decide_eq_true_eq] at hd
      have hsr := hs.row hd
      haveI f1 : FitC (gm s i 0) L := hf.get hL i 0
      haveI f2 : FitC (gv a 0) L := ha.get hL 0
      have hnl : (z.length - 1) * (2 * L + 2) ≤ 1000 * (2 * L + 2) := Nat.mul_le_mul_right _ (by omega)
      have hda := dot_ap (s.getD i []) a (z.length - 1)
      rw [show z.length - 1 + 1 = z.length by omega] at hda
      refine T_skip ?_
      refine T_seq ?_
      refine T_block ?_
      refine T_seq ?_
      refine T_region ?_
      refine R_op rfl rfl rfl (op_move (Has.t rfl)) ?_
      refine R_op rfl rfl rfl (op_idx Tryz.runUnderlying31 Tryz.sizeOf30 (Has.t rfl) (Has.t rfl) rfl (map_get (getD_some (d := []) (by omega)))) ?_
      refine R_op rfl rfl rfl (op_ld Tryz.isAgg30 Tryz.sizeOf30 (Has.t rfl)) ?_
      refine R_op rfl rfl rfl (op_assign (Has.t rfl)) ?_
      refine R_op rfl rfl rfl (op_assign (Has.t rfl)) ?_
      refine R_nil ?_
      refine D_start (m := 15) ?_
      refine D_step (Ei := [(6, _)]) rfl rfl (Srcs.cons (Src.pre rfl rfl) Srcs.nil) (S_plain rfl (op_move (Has.t rfl))) ?_
      refine D_step (Ei := [(7, _)]) rfl rfl (Srcs.cons (Src.pre rfl rfl) Srcs.nil) (S_plain rfl (op_move (Has.t rfl))) ?_
      refine D_step (Ei := [(8, _)]) rfl rfl (Srcs.cons (Src.pre rfl rfl) Srcs.nil) (S_plain rfl (op_move (Has.t rfl))) ?_
      refine D_step (Ei := [(28, _)]) rfl rfl (Srcs.cons (Src.op 2 rfl rfl) Srcs.nil) (S_plain rfl (op_idx Tryz.runUnderlying30 Tryz.sizeOf49 (Has.t rfl) (Has.cN 0) rfl (map_get (getD_some (d := Qi.zero) (by omega))))) ?_
      refine D_step (Ei := [(29, _)]) rfl rfl (Srcs.cons (Src.op 3 rfl rfl) Srcs.nil) (S_plain rfl (op_ld Tryz.isAgg49 Tryz.sizeOf49 (Has.t rfl))) ?_
      refine D_step (Ei := [(30, _)]) rfl rfl (Srcs.cons (Src.op 4 rfl rfl) Srcs.nil) (S_plain rfl (op_iface mkif_49 (Has.t rfl))) ?_
      refine D_step (Ei := [(1, _)]) rfl rfl (Srcs.cons (Src.pre rfl rfl) Srcs.nil) (S_plain rfl (op_move (Has.t rfl))) ?_
      refine D_step (Ei := [(32, _)]) rfl rfl (Srcs.cons (Src.op 6 rfl rfl) Srcs.nil) (S_plain rfl (op_idx Tryz.runUnderlying30 Tryz.sizeOf49 (Has.t rfl) (Has.cN 0) rfl (map_get (getD_some (d := Qi.zero) (by omega))))) ?_
      refine D_step (Ei := [(33, _)]) rfl rfl (Srcs.cons (Src.op 7 rfl rfl) Srcs.nil) (S_plain rfl (op_ld Tryz.isAgg49 Tryz.sizeOf49 (Has.t rfl))) ?_
      refine D_step (Ei := [(31, _), (34, _)]) rfl rfl (Srcs.cons (Src.op 5 rfl rfl) (Srcs.cons (Src.op 8 rfl rfl) Srcs.nil)) (S_plain rfl (op_invoke meth_49_Mul Tryz.call56 (c_Mul (x := gm s i 0) (y := gv a 0) (L := L) (M := L) (by omega)) (Has.t rfl) ⟨(Has.t rfl), trivial⟩)) ?_
      refine D_step (Ei := [(8, _)]) rfl rfl (Srcs.cons (Src.pre rfl rfl) Srcs.nil) (S_plain rfl (op_move (Has.t rfl))) ?_
      refine D_step (Ei := [(36, _)]) rfl rfl (Srcs.cons (Src.op 10 rfl rfl) Srcs.nil) (S_plain rfl (OpTy.imp (op_sliceLo Tryz.runUnderlying30 Tryz.sizeOf49 (Has.t rfl) (Has.cN 1) rfl (by rw [List.length_map]; omega)) (slT_of (Us := ((s.getD i []).drop 1).map NumT) (by rw [List.map_drop])))) ?_
      refine D_step (Ei := [(1, _)]) rfl rfl (Srcs.cons (Src.pre rfl rfl) Srcs.nil) (S_plain rfl (op_move (Has.t rfl))) ?_
      refine D_step (Ei := [(38, _)]) rfl rfl (Srcs.cons (Src.op 12 rfl rfl) Srcs.nil) (S_plain rfl (OpTy.imp (op_sliceLo Tryz.runUnderlying30 Tryz.sizeOf49 (Has.t rfl) (Has.cN 1) rfl (by rw [List.length_map]; omega)) (slT_of (Us := (a.drop 1).map NumT) (by rw [List.map_drop])))) ?_
      refine D_step (Ei := [(35, _), (37, _), (39, _)]) rfl rfl (Srcs.cons (Src.op 9 rfl rfl) (Srcs.cons (Src.op 11 rfl rfl) (Srcs.cons (Src.op 13 rfl rfl) Srcs.nil))) (S_plain rfl (op_call Tryz.call144 (Fun.imp (c_dot (x := gm s i 0 * gv a 0) (l := (s.getD i []).drop 1) (m := a.drop 1) (L := L) (M := L + L + 1) (n := z.length - 1) inferInstance (drop_fit (hf.row i)) (drop_fit ha) hL (by rw [List.length_drop]; omega) (by rw [List.length_drop]; omega) (by omega) (by omega)) (num_of hda)) ⟨(Has.t rfl), (Has.t rfl), (Has.t rfl), trivial⟩)) ?_
      refine D_done mixed rfl (by kernel_rfl) (F_val (F_val (F_val (F_val (F_val (F_val (F_val (F_val (F_val (F_val (F_val (F_val (F_val (F_val (F_val (F_nil ?_))))))))))))))))
      refine R_op rfl rfl rfl (op_idxO Tryz.runUnderlying30 Tryz.sizeOf49 (Has.t rfl) (Has.t rfl) rfl (i := 1) rfl (by rw [List.length_map, mix_len]; omega) rfl) ?_
      refine R_stO Tryz.sizeOf49 (Has.t rfl) (Has.t rfl) (El.ag rfl) (i := 1) rfl rfl (by rw [List.length_map, mix_len]; omega) rfl ?_
      refine R_nil ?_
      refine T_blk ?_
      refine T_region ?_
      refine R_op rfl rfl rfl (op_addN (Has.t rfl) (Has.cN 1) (by show _ < 9223372036854775808; first | omega | (simp only [lim]; omega))) ?_
      refine R_op rfl rfl rfl (op_move (Has.t rfl)) ?_
      refine R_nil ?_
      refine T_again (i + 1) hd (by omega) (Sub.cons rfl (Sub.cons rfl (Sub.cons rfl (Sub.cons rfl (Sub.cons rfl (Sub.cons rfl Sub.nil)))))) (HSub.cons (box_of rfl) (HSub.cons (rowO_of (by rw [set_mapF, ← mix_set (f := (fun i => apF (s.getD i []) a z.length))])) HSub.nil))
    · simp only [decide_eq_false_iff_not] at hd
      have hiz : i = z.length := Nat.le_antisymm hi (by omega)
      rw [hiz, mix_fin]
      refine T_exit rfl ?_
      refine T_freeze (i := 1) (tt := 6) rfl rfl frz_row ?_
      refine T_seq ?_
      refine T_region ?_
      refine R_op rfl rfl rfl (op_move (Has.t rfl)) ?_
      refine R_op rfl rfl rfl (op_assign (Has.t rfl)) ?_
      refine R_op rfl rfl rfl (op_assign (Has.cN 0)) ?_
      refine R_nil ?_
      refine T_ret2 rfl (rv_to (rv_tmp rfl) ?_) (rv_to (rv_tmp rfl) ?_)
      · exact (slT_of (by rw [he]; rfl))
      · exact (int_of he.symm)
set_option maxRecDepth 20000 in
theorem c_rApply {s : List (List Qi)} {a : List Qi} {n L : Nat} (hs : Shp s n n) (hal : a.length = n) (hf : FitM s L) (ha : FitL a L) (hL : 1 ≤ L) (hLb : L ≤ 1000000) (hl : n ≤ 1000) : Fun Tryz.prog 145 [QM s, QsT a] (QsT (drvX s a n)) := by
  have hsl := hs.1
  refine Fun.intro Tryz.func145 rfl Tryz.ntmps145 rfl (fun cx => ?_)
  refine T_seq ?_
  refine T_region ?_
  refine R_op rfl rfl rfl (op_assign Has.c) ?_
  refine R_nil ?_
  refine T_seq ?_
  refine T_region ?_
  refine R_op rfl rfl rfl (op_move (Has.t rfl)) ?_
  refine R_op rfl rfl rfl (op_len Tryz.runUnderlying37 (Has.t rfl) (by rw [List.length_map, hsl])) ?_
  refine R_new rfl rfl rfl (new_makeO (T := ZQ) (i := Tryz.t57) und_36 info_57 rfl rfl (Has.t rfl) rfl zq_p (El.ag rfl) (by show 88 * _ ≤ _; omega) (by omega)) (fun B10 => ?_)
  refine R_op rfl rfl rfl (op_assign (Has.t rfl)) ?_
  refine R_nil ?_
  refine T_seq ?_
  refine T_seq ?_
  refine T_region ?_
  refine R_op rfl rfl rfl (op_assign (Has.cN 0)) ?_
  refine R_nil ?_
  refine T_block ?_
  refine T_loop (fun (i : Nat) => i ≤ n) (fun (i : Nat) => n - i) (fun (i : Nat) => [(0, QM s), (1, QsT a), (5, Is B10), (6, NT .i64 i)]) (fun (i : Nat) => [rowO 57 5 B10 (mixT (fun i => QT (apF (s.getD i []) a n)) ZQ n i)]) 0 (Nat.zero_le _)
    (Sub.cons rfl (Sub.cons rfl (Sub.cons rfl (Sub.cons rfl Sub.nil)))) (HSub.cons (rowO_of (by rw [← mix_zero]; exact rep_tab _ _)) HSub.nil) (fun i hi => ?_)
  refine T_seq ?_
  refine T_seq ?_
  refine T_region ?_
  refine R_op rfl rfl rfl (op_move (Has.t rfl)) ?_
  refine R_op rfl rfl rfl (op_move (Has.t rfl)) ?_
  refine R_op rfl rfl rfl (op_len Tryz.runUnderlying37 (Has.t rfl) len_map) ?_
  refine R_op rfl rfl rfl (op_lssN (Has.t rfl) (Has.t rfl)) ?_
  refine R_nil ?_
  refine T_cond (Has.t rfl) (fun hd => ?_) (fun hd => ?_)
  · have hdn : i < n := by simp only [decide_eq_true_eq] at hd; omega
    have hsr := hs.row hdn
    refine T_skip ?_
    refine T_seq ?_
    refine T_block ?_
    refine T_seq ?_
    refine T_region ?_
    refine R_op rfl rfl rfl (op_move (Has.t rfl)) ?_
    refine R_op rfl rfl rfl (op_move (Has.t rfl)) ?_
    refine R_op rfl rfl rfl (op_call Tryz.call86 (c_rWhole (n := 0) (by decide) (by decide)) ⟨(Has.cN 0), trivial⟩) ?_
    refine R_op rfl rfl rfl (op_idxO Tryz.runUnderlying36 Tryz.sizeOf57 (Has.t rfl) (Has.t rfl) rfl (i := 0) rfl (by rw [mix_len]; omega) rfl) ?_
    refine R_stO Tryz.sizeOf57 (Has.t rfl) (Has.t rfl) (El.ag rfl) (i := 0) rfl rfl (by rw [mix_len]; omega) rfl ?_
    refine R_nil ?_
    refine T_seq ?_
    refine T_region ?_
    refine R_op rfl rfl rfl (op_assign (Has.cN 0)) ?_
    refine R_nil ?_
    refine T_block ?_
    refine T_loop (fun (k : Nat) => k ≤ n) (fun (k : Nat) => n - k) (fun (k : Nat) => [(0, QM s), (1, QsT a), (5, Is B10), (6, NT .i64 i), (7, NT .i64 k)]) (fun (k : Nat) => [rowO 57 5 B10 ((mixT (fun i => QT (apF (s.getD i []) a n)) ZQ n i).set i (QT (apF (s.getD i []) a k)))]) 0 (Nat.zero_le _)
      (Sub.cons rfl (Sub.cons rfl (Sub.cons rfl (Sub.cons rfl (Sub.cons rfl Sub.nil))))) (HSub.refl _) (fun k hk => ?_)
    refine T_seq ?_
    refine T_seq ?_
    refine T_region ?_
    refine R_op rfl rfl rfl (op_move (Has.t rfl)) ?_
    refine R_op rfl rfl rfl (op_move (Has.t rfl)) ?_
    refine R_op rfl rfl rfl (op_move (Has.t rfl)) ?_
    refine R_op rfl rfl rfl (op_idx Tryz.runUnderlying37 Tryz.sizeOf36 (Has.t rfl) (Has.t rfl) rfl (map_get (getD_some (d := []) (by omega)))) ?_
    refine R_op rfl rfl rfl (op_ld Tryz.isAgg36 Tryz.sizeOf36 (Has.t rfl)) ?_
    refine R_op rfl rfl rfl (op_len Tryz.runUnderlying36 (Has.t rfl) len_map) ?_
    refine R_op rfl rfl rfl (op_lssN (Has.t rfl) (Has.t rfl)) ?_
    refine R_nil ?_
    refine T_cond (Has.t rfl) (fun he => ?_) (fun he => ?_)
    · have hkn : k < n := by simp only [decide_eq_true_eq] at he; omega
      haveI f1 := apF_fit (hf.row i) ha hL k
      haveI f2 : FitC (gv (s.getD i []) k) L := (hf.row i).get hL k
      haveI f3 := ha.get hL k
      have hnl : k * (2 * L + 2) ≤ 1000 * (2 * L + 2) := Nat.mul_le_mul_right _ (by omega)
      refine T_skip ?_
      refine T_seq ?_
      refine T_block ?_
      refine D_start (m := 19) ?_
      refine D_step (Ei := [(5, _)]) rfl rfl (Srcs.cons (Src.pre rfl rfl) Srcs.nil) (S_plain rfl (op_move (Has.t rfl))) ?_
      refine D_step (Ei := [(6, _)]) rfl rfl (Srcs.cons (Src.pre rfl rfl) Srcs.nil) (S_plain rfl (op_move (Has.t rfl))) ?_
      refine D_step (Ei := [(5, _)]) rfl rfl (Srcs.cons (Src.pre rfl rfl) Srcs.nil) (S_plain rfl (op_move (Has.t rfl))) ?_
      refine D_step (Ei := [(6, _)]) rfl rfl (Srcs.cons (Src.pre rfl rfl) Srcs.nil) (S_plain rfl (op_move (Has.t rfl))) ?_
      refine D_step (Ei := [(32, _), (33, _)]) rfl rfl (Srcs.cons (Src.op 2 rfl rfl) (Srcs.cons (Src.op 3 rfl rfl) Srcs.nil)) (S_plain rfl (op_idxO Tryz.runUnderlying36 Tryz.sizeOf57 (Has.t rfl) (Has.t rfl) rfl (i := 0) rfl (by rw [List.length_set, mix_len]; omega) rfl)) ?_
      refine D_step (Ei := [(34, _)]) rfl rfl (Srcs.cons (Src.op 4 rfl rfl) Srcs.nil) (S_plain rfl (op_ldO Tryz.isAgg57 Tryz.sizeOf57 (Has.t rfl) (i := 0) rfl rfl (set_get (by rw [mix_len]; omega)))) ?_
      refine D_step (Ei := [(0, _)]) rfl rfl (Srcs.cons (Src.pre rfl rfl) Srcs.nil) (S_plain rfl (op_move (Has.t rfl))) ?_
      refine D_step (Ei := [(6, _)]) rfl rfl (Srcs.cons (Src.pre rfl rfl) Srcs.nil) (S_plain rfl (op_move (Has.t rfl))) ?_
      refine D_step (Ei := [(36, _), (37, _)]) rfl rfl (Srcs.cons (Src.op 6 rfl rfl) (Srcs.cons (Src.op 7 rfl rfl) Srcs.nil)) (S_plain rfl (op_idx Tryz.runUnderlying37 Tryz.sizeOf36 (Has.t rfl) (Has.t rfl) rfl (map_get (getD_some (d := []) (by omega))))) ?_
      refine D_step (Ei := [(38, _)]) rfl rfl (Srcs.cons (Src.op 8 rfl rfl) Srcs.nil) (S_plain rfl (op_ld Tryz.isAgg36 Tryz.sizeOf36 (Has.t rfl))) ?_
      refine D_step (Ei := [(7, _)]) rfl rfl (Srcs.cons (Src.pre rfl rfl) Srcs.nil) (S_plain rfl (op_move (Has.t rfl))) ?_
      refine D_step (Ei := [(39, _), (40, _)]) rfl rfl (Srcs.cons (Src.op 9 rfl rfl) (Srcs.cons (Src.op 10 rfl rfl) Srcs.nil)) (S_plain rfl (op_idx Tryz.runUnderlying36 Tryz.sizeOf57 (Has.t rfl) (Has.t rfl) rfl (map_get (getD_some (d := Qi.zero) (by omega))))) ?_
      refine D_step (Ei := [(41, _)]) rfl rfl (Srcs.cons (Src.op 11 rfl rfl) Srcs.nil) (S_plain rfl (op_ld Tryz.isAgg57 Tryz.sizeOf57 (Has.t rfl))) ?_
      refine D_step (Ei := [(1, _)]) rfl rfl (Srcs.cons (Src.pre rfl rfl) Srcs.nil) (S_plain rfl (op_move (Has.t rfl))) ?_
      refine D_step (Ei := [(7, _)]) rfl rfl (Srcs.cons (Src.pre rfl rfl) Srcs.nil) (S_plain rfl (op_move (Has.t rfl))) ?_
      refine D_step (Ei := [(43, _), (44, _)]) rfl rfl (Srcs.cons (Src.op 13 rfl rfl) (Srcs.cons (Src.op 14 rfl rfl) Srcs.nil)) (S_plain rfl (op_idx Tryz.runUnderlying36 Tryz.sizeOf57 (Has.t rfl) (Has.t rfl) rfl (map_get (getD_some (d := Qi.zero) (by omega))))) ?_
      refine D_step (Ei := [(45, _)]) rfl rfl (Srcs.cons (Src.op 15 rfl rfl) Srcs.nil) (S_plain rfl (op_ld Tryz.isAgg57 Tryz.sizeOf57 (Has.t rfl))) ?_
      refine D_step (Ei := [(42, _), (46, _)]) rfl rfl (Srcs.cons (Src.op 12 rfl rfl) (Srcs.cons (Src.op 16 rfl rfl) Srcs.nil)) (S_plain rfl (op_call Tryz.call87 (c_rMul (x := gv (s.getD i []) k) (y := gv a k) (L := L) (M := L) (by omega)) ⟨(Has.t rfl), (Has.t rfl), trivial⟩)) ?_
      refine D_step (Ei := [(35, _), (47, _)]) rfl rfl (Srcs.cons (Src.op 5 rfl rfl) (Srcs.cons (Src.op 17 rfl rfl) Srcs.nil)) (S_plain rfl (op_call Tryz.call92 (c_rAdd (x := apF (s.getD i []) a k) (y := gv (s.getD i []) k * gv a k) (L := 1 + k * (2 * L + 2)) (M := L + L + 1) (by omega)) ⟨(Has.t rfl), (Has.t rfl), trivial⟩)) ?_
      refine D_done mixed rfl (by kernel_rfl) (F_val (F_val (F_val (F_val (F_val (F_val (F_val (F_val (F_val (F_val (F_val (F_val (F_val (F_val (F_val (F_val (F_val (F_val (F_val (F_nil ?_))))))))))))))))))))
      refine R_op rfl rfl rfl (op_idxO Tryz.runUnderlying36 Tryz.sizeOf57 (Has.t rfl) (Has.t rfl) rfl (i := 0) rfl (by rw [List.length_set, mix_len]; omega) rfl) ?_
      refine R_stO Tryz.sizeOf57 (Has.t rfl) (Has.t rfl) (El.ag rfl) (i := 0) rfl rfl (by rw [List.length_set, mix_len]; omega) rfl ?_
      refine R_nil ?_
      refine T_blk ?_
      refine T_region ?_
      refine R_op rfl rfl rfl (op_move (Has.t rfl)) ?_
      refine R_op rfl rfl rfl (op_addN (Has.t rfl) (Has.cN 1) (by show _ < 9223372036854775808; first | omega | (simp only [lim]; omega))) ?_
      refine R_op rfl rfl rfl (op_assign (Has.t rfl)) ?_
      refine R_nil ?_
      refine T_again (k + 1) hkn (by omega) (Sub.cons rfl (Sub.cons rfl (Sub.cons rfl (Sub.cons rfl (Sub.cons rfl Sub.nil))))) (HSub.cons (rowO_of (List.set_set ..)) HSub.nil)
    · have hkn : k = n := by simp only [decide_eq_false_iff_not] at he; omega
      subst hkn
      refine T_exit rfl ?_
      refine T_blk ?_
      refine T_region ?_
      refine R_op rfl rfl rfl (op_move (Has.t rfl)) ?_
      refine R_op rfl rfl rfl (op_addN (Has.t rfl) (Has.cN 1) (by show _ < 9223372036854775808; first | omega | (simp only [lim]; omega))) ?_
      refine R_op rfl rfl rfl (op_assign (Has.t rfl)) ?_
      refine R_nil ?_
      refine T_again (i + 1) hdn (by omega) (Sub.cons rfl (Sub.cons rfl (Sub.cons rfl (Sub.cons rfl Sub.nil)))) (HSub.cons (rowO_of (mix_set (f := (fun i => QT (apF (s.getD i []) a k))))) HSub.nil)
  · have hin : i = n := by simp only [decide_eq_false_iff_not] at hd; omega
    subst hin
    rw [mix_fin]
    refine T_exit rfl ?_
    refine T_freeze (i := 0) (tt := 5) rfl rfl frz_row ?_
    refine T_seq ?_
    refine T_region ?_
    refine R_op rfl rfl rfl (op_move (Has.t rfl)) ?_
    refine R_op rfl rfl rfl (op_assign (Has.t rfl)) ?_
    refine R_nil ?_
    refine T_ret1 rfl (rv_to (rv_tmp rfl) ?_)
    exact (slT_of (by rw [drvX, tab_map]))
set_option maxRecDepth 20000 in
theorem c_rDrive {z a : List Qi} {s : List (List Qi)} {L : Nat} (hs : Shp s z.length z.length) (hf : FitM s L) (ha : FitL a L) (hL : 1 ≤ L) (hLb : L ≤ 1000000) (h1 : 1 ≤ z.length) (hl : z.length ≤ 1000) : Fun Tryz.prog 67 [RNetT z s, QsT a] (TupT [QsT (okL (drvE z.length a.length) (drvX s a z.length)), IntT .i64 (drvE z.length a.length)]) := by
  refine Fun.intro Tryz.func67 rfl Tryz.ntmps67 rfl (fun cx => ?_)
  refine T_seq ?_
  refine T_region ?_
  refine R_new rfl rfl rfl (new_box (Has.t rfl)) (fun B2 => ?_)
  refine R_op rfl rfl rfl (op_assign Has.c) ?_
  refine R_op rfl rfl rfl (op_assign (Has.cN 0)) ?_
  refine R_nil ?_
  refine T_seq ?_
  refine T_seq ?_
  refine T_region ?_
  refine R_op rfl rfl rfl (op_move (Has.t rfl)) ?_
  refine R_op rfl rfl rfl (op_len Tryz.runUnderlying36 (Has.t rfl) len_map) ?_
  refine R_op rfl rfl rfl (op_fldB fa_39_0 (Has.t rfl) rfl) ?_
  refine R_op rfl rfl rfl (op_ldB Tryz.isAgg36 Tryz.sizeOf36 (Has.t rfl) (i := 0) rfl rfl) ?_
  refine R_op rfl rfl rfl (op_len Tryz.runUnderlying36 (Has.t rfl) len_map) ?_
  refine R_op rfl rfl rfl (op_neqN (Has.t rfl) (Has.t rfl)) ?_
  refine R_nil ?_
  refine T_cond (Has.t rfl) (fun hb => ?_) (fun hb => ?_)
  · have hn : ¬ a.length = z.length := by simpa using hb
    have he : drvE z.length a.length = 4 := by rw [drvE, if_neg hn]
    refine T_seq ?_
    refine T_region ?_
    refine R_op rfl rfl rfl (op_assign Has.c) ?_
    refine R_op rfl rfl rfl (op_assign (Has.cN 4)) ?_
    refine R_nil ?_
    refine T_ret2 rfl (rv_to (rv_tmp rfl) ?_) (rv_to (rv_tmp rfl) ?_)
    · exact (fun v V h => by rw [he]; exact nil_slT v V h)
    · exact (int_of he.symm)
  · have hn : a.length = z.length := by simpa using hb
    have he : drvE z.length a.length = 0 := by rw [drvE, if_pos hn]
    refine T_skip ?_
    refine T_seq ?_
    refine T_region ?_
    refine R_op rfl rfl rfl (op_fldB fa_39_1 (Has.t rfl) rfl) ?_
    refine R_op rfl rfl rfl (op_ldB Tryz.isAgg37 Tryz.sizeOf37 (Has.t rfl) (i := 0) rfl rfl) ?_
    refine R_op rfl rfl rfl (op_move (Has.t rfl)) ?_
    refine R_op rfl rfl rfl (op_call Tryz.call145 (c_rApply hs hn hf ha hL hLb hl) ⟨(Has.t rfl), (Has.t rfl), trivial⟩) ?_
    refine R_op rfl rfl rfl (op_assign (Has.t rfl)) ?_
    refine R_op rfl rfl rfl (op_assign (Has.cN 0)) ?_
    refine R_nil ?_
    refine T_ret2 rfl (rv_to (rv_tmp rfl) ?_) (rv_to (rv_tmp rfl) ?_)
    · exact (slT_of (by rw [he]; rfl))
    · exact (int_of he.symm)
set_option maxRecDepth 20000 in
theorem c_AreAll {l : List Qi} {L : Nat} (hf : FitL l L) (hL1 : 1 ≤ L) (hL : L ≤ 8796093022208) (hl : l.length ≤ 1000) : Fun Tryz.prog 55 [NumsT l, QsT l] (BoolT true) := by
  refine Fun.intro Tryz.func55 rfl Tryz.ntmps55 rfl (fun cx => ?_)
  refine T_seq ?_
  refine T_region ?_
  refine R_op rfl rfl rfl (op_assign Has.c) ?_
  refine R_nil ?_
  refine T_seq ?_
  refine T_seq ?_
  refine T_region ?_
  refine R_op rfl rfl rfl (op_move (Has.t rfl)) ?_
  refine R_op rfl rfl rfl (op_len Tryz.runUnderlying30 (Has.t rfl) len_map) ?_
  refine R_op rfl rfl rfl (op_move (Has.t rfl)) ?_
  refine R_op rfl rfl rfl (op_len Tryz.runUnderlying36 (Has.t rfl) len_map) ?_
  refine R_op rfl rfl rfl (op_neqN (Has.t rfl) (Has.t rfl)) ?_
  refine R_nil ?_
  refine T_condF (Has.t rfl) (by simp) ?_
  refine T_skip ?_
  refine T_seq ?_
  refine T_seq ?_
  refine T_region ?_
  refine R_op rfl rfl rfl (op_move (Has.t rfl)) ?_
  refine R_op rfl rfl rfl (op_len Tryz.runUnderlying30 (Has.t rfl) len_map) ?_
  refine R_op rfl rfl rfl (op_move (Has.cN 0)) ?_
  refine R_nil ?_
  refine T_block ?_
  refine T_loop (fun (k : Nat) => k ≤ l.length) (fun (k : Nat) => l.length - k) (fun (k : Nat) => [(0, NumsT l), (1, QsT l), (12, NumsT l), (13, NT .i64 l.length), (14, NT .i64 k)]) (fun (k : Nat) => []) 0 (Nat.zero_le _)
    (Sub.cons rfl (Sub.cons rfl (Sub.cons rfl (Sub.cons rfl (Sub.cons rfl Sub.nil))))) HSub.nil (fun k hk => ?_)
  refine T_seq ?_
  refine T_region ?_
  refine R_op rfl rfl rfl (op_lssN (Has.t rfl) (Has.t rfl)) ?_
  refine R_nil ?_
  refine T_seq ?_
  refine T_cond (Has.t rfl) (fun hd => ?_) (fun hd => ?_)
  · simp only [decide_eq_true_eq] at hd
    haveI f1 : FitC (gv l k) L := hf.get hL1 k
    refine T_skip ?_
    refine T_seq ?_
    refine T_block ?_
    refine T_seq ?_
    refine T_region ?_
    refine R_op rfl rfl rfl (op_move (Has.t rfl)) ?_
    refine R_op rfl rfl rfl (op_idx Tryz.runUnderlying30 Tryz.sizeOf49 (Has.t rfl) (Has.t rfl) rfl (map_get (getD_some (d := Qi.zero) hd))) ?_
    refine R_op rfl rfl rfl (op_ld Tryz.isAgg49 Tryz.sizeOf49 (Has.t rfl)) ?_
    refine R_new rfl rfl rfl (new_alloc (Ts := [Is (.bool false), Is (.slice none 0 0), Is (.bool false), Is (.slice none 0 0), Is (.slice none 0 0)]) Tryz.zeroValue49 rfl (fun V => Cells.cons' ⟨rfl, trivial⟩ (Cells.cons' ⟨rfl, trivial⟩ (Cells.cons' ⟨rfl, trivial⟩ (Cells.cons' ⟨rfl, trivial⟩ (Cells.cons' ⟨rfl, trivial⟩ (Cells.nil))))))) (fun B6 => ?_)
    refine R_op rfl rfl rfl (op_assign (Has.t rfl)) ?_
    refine R_stA Tryz.sizeOf49 (Has.t rfl) (Has.t rfl) rfl (i := 0) rfl (Nat.le_of_ble_eq_true rfl) rfl rfl ?_
    refine R_nil ?_
    refine T_seq ?_
    refine D_start (m := 5) ?_
    refine D_step (Ei := [(6, _)]) rfl rfl (Srcs.cons (Src.pre rfl rfl) Srcs.nil) (S_plain rfl (op_ldBA Tryz.isAgg49 Tryz.sizeOf49 (Has.t rfl) (i := 0) rfl rfl rfl)) ?_
    refine D_step (Ei := [(1, _)]) rfl rfl (Srcs.cons (Src.pre rfl rfl) Srcs.nil) (S_plain rfl (op_move (Has.t rfl))) ?_
    refine D_step (Ei := [(5, _)]) rfl rfl (Srcs.cons (Src.pre rfl rfl) Srcs.nil) (S_plain rfl (op_move (Has.t rfl))) ?_
    refine D_step (Ei := [(20, _), (21, _)]) rfl rfl (Srcs.cons (Src.op 1 rfl rfl) (Srcs.cons (Src.op 2 rfl rfl) Srcs.nil)) (S_plain rfl (op_idx Tryz.runUnderlying36 Tryz.sizeOf57 (Has.t rfl) (Has.t rfl) rfl (map_get (getD_some (d := Qi.zero) hd)))) ?_
    refine D_step (Ei := [(22, _)]) rfl rfl (Srcs.cons (Src.op 3 rfl rfl) Srcs.nil) (S_plain rfl (op_ld Tryz.isAgg57 Tryz.sizeOf57 (Has.t rfl))) ?_
    refine D_done mixed rfl (by kernel_rfl) (F_val (F_val (F_val (F_val (F_val (F_nil ?_))))))
    refine R_op rfl rfl rfl (op_call Tryz.call21 (c_lawIs (x := gv l k) (y := gv l k) (L := L) (M := L) hL hL) ⟨(Has.t rfl), (Has.t rfl), trivial⟩) ?_
    refine R_op rfl rfl rfl (op_not (Has.t rfl)) ?_
    refine R_nil ?_
    refine T_condF (Has.t rfl) (by simp) ?_
    refine T_skip ?_
    refine T_blk ?_
    refine T_region ?_
    refine R_op rfl rfl rfl (op_addN (Has.t rfl) (Has.cN 1) (by show _ < 9223372036854775808; first | omega | (simp only [lim]; omega))) ?_
    refine R_op rfl rfl rfl (op_move (Has.t rfl)) ?_
    refine R_nil ?_
    refine T_keep [] rfl (by decide) ?_
    refine T_again (k + 1) hd (by omega) (Sub.cons rfl (Sub.cons rfl (Sub.cons rfl (Sub.cons rfl (Sub.cons rfl Sub.nil))))) HSub.nil
  · refine T_exit rfl ?_
    refine T_seq ?_
    refine T_region ?_
    refine R_op rfl rfl rfl (op_assign Has.c) ?_
    refine R_nil ?_
    exact T_ret1 rfl (rv_tmp rfl)
set_option maxRecDepth 20000 in
theorem c_small {r : Rt} : Fun Tryz.prog 187 [RatT r] (RatT (smR r)) := by
  have b1 := tm_bound r.den (b := 4) (by decide)
  refine Fun.intro Tryz.func187 rfl Tryz.ntmps187 rfl (fun cx => ?_)
  refine T_seq ?_
  refine T_region ?_
  refine R_new rfl rfl rfl (new_box (Has.t rfl)) (fun B1 => ?_)
  refine R_new rfl rfl rfl (new_alloc (Ts := [Is (.int .i64 0), Is (.int .i64 0), Is (.int .i64 0)]) Tryz.zeroValue27 rfl (fun V => Cells.cons' ⟨rfl, trivial⟩ (Cells.cons' ⟨rfl, trivial⟩ (Cells.cons' ⟨rfl, trivial⟩ (Cells.nil))))) (fun B2 => ?_)
  refine R_nil ?_
  refine T_seq ?_
  refine T_region ?_
  refine R_op rfl rfl rfl (op_fldB fa_27_2 (Has.t rfl) rfl) ?_
  refine R_op rfl rfl rfl (op_ldB Tryz.isAgg2 Tryz.sizeOf2 (Has.t rfl) (i := 0) rfl rfl) ?_
  refine R_op rfl rfl rfl (op_rem (Has.t rfl) Has.c (by decide) rfl) ?_
  refine R_op rfl rfl rfl (op_assign (Has.t rfl)) ?_
  refine R_nil ?_
  refine T_seq ?_
  refine T_join (fun (d : Int) => d = absI (r.den.tmod 4)) (fun (d : Int) => [(1, PtrB B1 0), (2, PtrB B2 0), (3, IntT .i64 d)]) (fun (d : Int) => [box B1 27 [IntT .i64 r.re, IntT .i64 r.im, IntT .i64 r.den], box B2 27 [Is (.int .i64 0), Is (.int .i64 0), Is (.int .i64 0)]]) ?_ (fun d hd => ?_)
  · refine T_seq ?_
    refine T_region ?_
    refine R_op rfl rfl rfl (op_move (Has.t rfl)) ?_
    refine R_op rfl rfl rfl (op_lss (Has.t rfl) Has.c) ?_
    refine R_nil ?_
    refine T_cond (Has.t rfl) (fun hb => ?_) (fun hb => ?_)
    · have hb2 : r.den.tmod 4 < 0 := of_decide_eq_true hb
      refine T_region ?_
      refine R_op rfl rfl rfl (op_move (Has.t rfl)) ?_
      refine R_op rfl rfl rfl (op_neg (Has.t rfl) (w64 (by omega))) ?_
      refine R_op rfl rfl rfl (op_assign (Has.t rfl)) ?_
      refine R_nil ?_
      refine T_joined (-(r.den.tmod 4)) (by rw [absI, if_pos hb2]) (Sub.cons rfl (Sub.cons rfl (Sub.cons rfl Sub.nil))) (HSub.refl _)
    · have hb2 : ¬ r.den.tmod 4 < 0 := of_decide_eq_false hb
      refine T_skip ?_
      refine T_joined (r.den.tmod 4) (by rw [absI, if_neg hb2]) (Sub.cons rfl (Sub.cons rfl (Sub.cons rfl Sub.nil))) (HSub.refl _)
  · have b2 := absI_b b1
    rw [← hd] at b2
    refine T_seq ?_
    refine T_region ?_
    refine R_op rfl rfl rfl (op_fldB fa_27_0 (Has.t rfl) rfl) ?_
    refine R_op rfl rfl rfl (op_ldB Tryz.isAgg2 Tryz.sizeOf2 (Has.t rfl) (i := 0) rfl rfl) ?_
    refine R_op rfl rfl rfl (op_rem (Has.t rfl) Has.c (by decide) rfl) ?_
    refine R_op rfl rfl rfl (op_fldB fa_27_1 (Has.t rfl) rfl) ?_
    refine R_op rfl rfl rfl (op_ldB Tryz.isAgg2 Tryz.sizeOf2 (Has.t rfl) (i := 0) rfl rfl) ?_
    refine R_op rfl rfl rfl (op_rem (Has.t rfl) Has.c (by decide) rfl) ?_
    refine R_op rfl rfl rfl (op_move (Has.t rfl)) ?_
    refine R_op rfl rfl rfl (op_add (Has.t rfl) Has.c (w64 (by omega))) ?_
    refine R_op rfl rfl rfl (bld_27_0_1_2 (Has.t rfl) (Has.t rfl) (Has.t rfl)) ?_
    refine R_stA Tryz.sizeOf27 (Has.t rfl) (Has.t rfl) rfl (i := 1) rfl (Nat.le_of_ble_eq_true rfl) rfl rfl ?_
    refine R_nil ?_
    refine T_ret1 rfl (rv_to (rv_cell Tryz.isAgg27 Tryz.sizeOf27 rfl (i := 1) rfl rfl) ?_)
    exact (fun v V h => by rw [hd] at h; exact h)
set_option maxRecDepth 20000 in
theorem c_imped {r : Rt} : Fun Tryz.prog 185 [RatT r] (RatT (imR r)) := by
  have b1 : -9 < (smR r).re ∧ (smR r).re < 9 := tm_bound r.re (b := 9) (by decide)
  refine Fun.intro Tryz.func185 rfl Tryz.ntmps185 rfl (fun cx => ?_)
  refine T_seq ?_
  refine T_region ?_
  refine R_new rfl rfl rfl (new_box (Has.t rfl)) (fun B1 => ?_)
  refine R_new rfl rfl rfl (new_alloc (Ts := [Is (.int .i64 0), Is (.int .i64 0), Is (.int .i64 0)]) Tryz.zeroValue27 rfl (fun V => Cells.cons' ⟨rfl, trivial⟩ (Cells.cons' ⟨rfl, trivial⟩ (Cells.cons' ⟨rfl, trivial⟩ (Cells.nil))))) (fun B2 => ?_)
  refine R_nil ?_
  refine T_seq ?_
  refine T_region ?_
  refine R_op rfl rfl rfl (op_ldBA Tryz.isAgg27 Tryz.sizeOf27 (Has.t rfl) (i := 0) rfl rfl rfl) ?_
  refine R_op rfl rfl rfl (op_call Tryz.call187 c_small ⟨(Has.t rfl), trivial⟩) ?_
  refine R_new rfl rfl rfl (new_alloc (Ts := [Is (.int .i64 0), Is (.int .i64 0), Is (.int .i64 0)]) Tryz.zeroValue27 rfl (fun V => Cells.cons' ⟨rfl, trivial⟩ (Cells.cons' ⟨rfl, trivial⟩ (Cells.cons' ⟨rfl, trivial⟩ (Cells.nil))))) (fun B3 => ?_)
  refine R_stA Tryz.sizeOf27 (Has.t rfl) (Has.t rfl) rfl (i := 2) rfl (Nat.le_of_ble_eq_true rfl) rfl rfl ?_
  refine R_nil ?_
  refine T_seq ?_
  refine T_join (fun (x : Int) => x = absI (smR r).re) (fun (x : Int) => [(1, PtrB B1 0), (2, PtrB B2 0), (3, PtrB B3 0)]) (fun (x : Int) => [box B1 27 [IntT .i64 r.re, IntT .i64 r.im, IntT .i64 r.den], box B2 27 [Is (.int .i64 0), Is (.int .i64 0), Is (.int .i64 0)], box B3 27 [IntT .i64 x, IntT .i64 (smR r).im, IntT .i64 (smR r).den]]) ?_ (fun x hx => ?_)
  · refine T_seq ?_
    refine T_region ?_
    refine R_op rfl rfl rfl (op_fldB fa_27_0 (Has.t rfl) rfl) ?_
    refine R_op rfl rfl rfl (op_ldB Tryz.isAgg2 Tryz.sizeOf2 (Has.t rfl) (i := 2) rfl rfl) ?_
    refine R_op rfl rfl rfl (op_lss (Has.t rfl) Has.c) ?_
    refine R_nil ?_
    refine T_cond (Has.t rfl) (fun hb => ?_) (fun hb => ?_)
    · have hb2 : (smR r).re < 0 := of_decide_eq_true hb
      refine T_region ?_
      refine R_op rfl rfl rfl (op_fldB fa_27_0 (Has.t rfl) rfl) ?_
      refine R_op rfl rfl rfl (op_ldB Tryz.isAgg2 Tryz.sizeOf2 (Has.t rfl) (i := 2) rfl rfl) ?_
      refine R_op rfl rfl rfl (op_neg (Has.t rfl) (w64 (by omega))) ?_
      refine R_op rfl rfl rfl (op_fldB fa_27_0 (Has.t rfl) rfl) ?_
      refine R_st Tryz.sizeOf2 (Has.t rfl) (Has.t rfl) (i := 2) rfl (Nat.le_of_ble_eq_true rfl) rfl ?_
      refine R_nil ?_
      refine T_joined (-((smR r).re)) (by rw [absI, if_pos hb2]) (Sub.cons rfl (Sub.cons rfl (Sub.cons rfl Sub.nil))) (HSub.refl _)
    · have hb2 : ¬ (smR r).re < 0 := of_decide_eq_false hb
      refine T_skip ?_
      refine T_joined ((smR r).re) (by rw [absI, if_neg hb2]) (Sub.cons rfl (Sub.cons rfl (Sub.cons rfl Sub.nil))) (HSub.refl _)
  · have b2 := absI_b b1
    rw [← hx] at b2
    refine T_seq ?_
    refine T_region ?_
    refine R_op rfl rfl rfl (op_fldB fa_27_0 (Has.t rfl) rfl) ?_
    refine R_op rfl rfl rfl (op_ldB Tryz.isAgg2 Tryz.sizeOf2 (Has.t rfl) (i := 2) rfl rfl) ?_
    refine R_op rfl rfl rfl (op_add (Has.t rfl) Has.c (w64 (by omega))) ?_
    refine R_op rfl rfl rfl (op_fldB fa_27_2 (Has.t rfl) rfl) ?_
    refine R_op rfl rfl rfl (op_ldB Tryz.isAgg2 Tryz.sizeOf2 (Has.t rfl) (i := 2) rfl rfl) ?_
    refine R_op rfl rfl rfl (bld_27_0_2 (Has.t rfl) (Has.t rfl)) ?_
    refine R_stA Tryz.sizeOf27 (Has.t rfl) (Has.t rfl) rfl (i := 1) rfl (Nat.le_of_ble_eq_true rfl) rfl rfl ?_
    refine R_nil ?_
    refine T_ret1 rfl (rv_to (rv_cell Tryz.isAgg27 Tryz.sizeOf27 rfl (i := 1) rfl rfl) ?_)
    exact (fun v V h => by rw [hx] at h; exact h)
set_option maxRecDepth 20000 in
theorem c_pick {l : List Rt} {i : Nat} : Fun Tryz.prog 186 [RatsT l, NT .i64 i] (RatT (pkR l i)) := by
  refine Fun.intro Tryz.func186 rfl Tryz.ntmps186 rfl (fun cx => ?_)
  refine T_seq ?_
  refine T_region ?_
  refine R_new rfl rfl rfl (new_alloc (Ts := [Is (.int .i64 0), Is (.int .i64 0), Is (.int .i64 0)]) Tryz.zeroValue27 rfl (fun V => Cells.cons' ⟨rfl, trivial⟩ (Cells.cons' ⟨rfl, trivial⟩ (Cells.cons' ⟨rfl, trivial⟩ (Cells.nil))))) (fun B4 => ?_)
  refine R_nil ?_
  refine T_seq ?_
  refine T_seq ?_
  refine T_region ?_
  refine R_op rfl rfl rfl (op_move (Has.t rfl)) ?_
  refine R_op rfl rfl rfl (op_len Tryz.runUnderlying22 (Has.t rfl) len_map) ?_
  refine R_op rfl rfl rfl (op_eqlN (Has.t rfl) (Has.cN 0)) ?_
  refine R_nil ?_
  refine T_cond (Has.t rfl) (fun hb => ?_) (fun hb => ?_)
  · have hb2 : l.length = 0 := by simpa only [decide_eq_true_eq] using hb
    refine T_seq ?_
    refine T_region ?_
    refine R_op rfl rfl rfl (bld_27_ ) ?_
    refine R_stA Tryz.sizeOf27 (Has.t rfl) (Has.t rfl) rfl (i := 0) rfl (Nat.le_of_ble_eq_true rfl) rfl rfl ?_
    refine R_nil ?_
    refine T_ret1 rfl (rv_to (rv_cell Tryz.isAgg27 Tryz.sizeOf27 rfl (i := 0) rfl rfl) ?_)
    exact (fun v V h => by rw [pkR, if_pos hb2]; exact h)
  · have hb2 : ¬ l.length = 0 := by simpa only [decide_eq_false_iff_not] using hb
    have hm := Nat.mod_lt i (Nat.pos_of_ne_zero hb2)
    refine T_skip ?_
    refine T_seq ?_
    refine T_region ?_
    refine R_op rfl rfl rfl (op_move (Has.t rfl)) ?_
    refine R_op rfl rfl rfl (op_move (Has.t rfl)) ?_
    refine R_op rfl rfl rfl (op_move (Has.t rfl)) ?_
    refine R_op rfl rfl rfl (op_len Tryz.runUnderlying22 (Has.t rfl) len_map) ?_
    refine R_op rfl rfl rfl (op_remN (Has.t rfl) (Has.t rfl) (by omega)) ?_
    refine R_op rfl rfl rfl (op_idx Tryz.runUnderlying22 Tryz.sizeOf27 (Has.t rfl) (Has.t rfl) rfl (map_get (getD_some (d := default) hm))) ?_
    refine R_op rfl rfl rfl (op_ld Tryz.isAgg27 Tryz.sizeOf27 (Has.t rfl)) ?_
    refine R_stA Tryz.sizeOf27 (Has.t rfl) (Has.t rfl) rfl (i := 0) rfl (Nat.le_of_ble_eq_true rfl) rfl rfl ?_
    refine R_nil ?_
    refine T_ret1 rfl (rv_to (rv_cell Tryz.isAgg27 Tryz.sizeOf27 rfl (i := 0) rfl rfl) ?_)
    exact (fun v V h => by rw [pkR, if_neg hb2]; exact h)
end Go.Proofs.YtppibhcfaahgpaaGreat
namespace Go.Proofs.YtppibhcfaahgpaaGreat
open Go Go.RowKit
namespace C
inductive Ob : Type 1 where
  | val (T : Ty)
  | new (γ : Type) (T : γ → Ty) (A : γ → SA)
  | cpy (t : Nat)
def Src (ops : List Oper) (m : Nat) (E0 : Env) (prev : List (Nat × Ob)) (o : Oper) (t : Nat) (T : Ty) : Prop :=
  (look E0 t = some T ∧ ((List.range m).all fun j => !(dstOf ops j == some t)) = true) ∨
  ∃ j, prev.reverse[j]? = some (t, .val T) ∧ (o.after.toList.any fun e => Nat.beq e.on j && Region.binds .any e) = true
theorem Src.pre {ops : List Oper} {m : Nat} {E0 : Env} {prev : List (Nat × Ob)} {o : Oper} {t : Nat} {T : Ty} (h : look E0 t = some T) (h' : ((List.range m).all fun j => !(dstOf ops j == some t)) = true) : Src ops m E0 prev o t T := .inl ⟨h, h'⟩
theorem Src.op {ops : List Oper} {m : Nat} {E0 : Env} {prev : List (Nat × Ob)} {o : Oper} {t : Nat} {T : Ty} (j : Nat) (h : prev.reverse[j]? = some (t, .val T)) (h' : (o.after.toList.any fun e => Nat.beq e.on j && Region.binds .any e) = true) : Src ops m E0 prev o t T := .inr ⟨j, h, h'⟩
def Srcs (ops : List Oper) (m : Nat) (E0 : Env) (prev : List (Nat × Ob)) (o : Oper) (Ei : Env) : Prop := ∀ t T, look Ei t = some T → Src ops m E0 prev o t T
theorem Srcs.nil {ops : List Oper} {m : Nat} {E0 : Env} {prev : List (Nat × Ob)} {o : Oper} : Srcs ops m E0 prev o [] := fun t T h => by cases h
theorem Srcs.cons {ops : List Oper} {m : Nat} {E0 Ei : Env} {prev : List (Nat × Ob)} {o : Oper} {t : Nat} {T : Ty} (h : Src ops m E0 prev o t T) (k : Srcs ops m E0 prev o Ei) : Srcs ops m E0 prev o ((t, T) :: Ei) := fun u U hl => by
  rw [look_cons] at hl
  by_cases e : t = u
  · subst e; rw [if_pos rfl] at hl; obtain rfl := Option.some.inj hl; exact h
  · rw [if_neg e] at hl; exact k u U hl
section
variable {P : Program} {R : Post} {cx : Cx} {n : Nat} {k : List It} {E : Env} {H : Hp}
def ObOk (P : Program) (n : Nat) (ops : List Oper) (m : Nat) (E0 : Env) (H : Hp) (prev : List (Nat × Ob)) (o : Oper) : Ob → Prop
  | .val T => ∃ Ei, Srcs ops m E0 prev o Ei ∧ StepTy P n ops.toArray Ei H o T
  | .new γ T A => o.guard = none ∧ ∃ Ei, Srcs ops m E0 prev o Ei ∧ NewTy P n Ei H o γ T A
  | .cpy t => o.guard = none ∧ (∃ j b, prev.reverse[j]? = some (t, b) ∧ (o.after.toList.any fun e => Nat.beq e.on j && Region.binds .any e) = true) ∧ ∀ a w, (execOp a o).run P w = .ok (.value (a (.tmp t))) w
def Obs (P : Program) (n : Nat) (ops : List Oper) (m : Nat) (E0 : Env) (H : Hp) : List (Nat × Ob) → Prop
  | [] => True
  | (d, b) :: prev => (∃ o, ops[prev.length]? = some o ∧ o.dst = some d ∧ d < n ∧ ObOk P n ops m E0 H prev o b) ∧ Obs P n ops m E0 H prev
def Dr (P : Program) (R : Post) (cx : Cx) (n : Nat) (ops : List Oper) (m : Nat) (k : List It) (E0 : Env) (H : Hp) (l : List Oper) (acc : List (Nat × Ob)) : Prop :=
  ops = (ops.take acc.length) ++ l → Obs P n ops m E0 H acc → ∀ id, Tr P R cx n (.code (.region id ops.toArray true) :: k) E0 H
def Fin' (P : Program) (R : Post) (cx : Cx) (n : Nat) (ops : Array Oper) (l : List Oper) (k : List It) : List (Nat × Ob) → Env → Hp → Prop
  | [], E, H => Rg P R cx n ops l k E H
  | (d, .val T) :: r, E, H => Fin' P R cx n ops l k r ((d, T) :: E) H
  | (d, .new γ T A) :: r, E, H => ∀ x : γ, Fin' P R cx n ops l k r ((d, T x) :: E) (H ++ [A x])
  | (d, .cpy t) :: r, E, H => ∀ T, look E t = some T → Fin' P R cx n ops l k r ((d, T) :: E) H
theorem D_start {ops : List Oper} {m : Nat} {id : Nat} (h : Dr P R cx n ops m k E H ops []) : Tr P R cx n (.code (.region id ops.toArray true) :: k) E H := h (by simp) trivial id
theorem D_step {ops l : List Oper} {m : Nat} {o : Oper} {acc : List (Nat × Ob)} {d : Nat} {T : Ty} {Ei : Env} (hd : o.dst = some d) (hn : Nat.blt d n = true) (hs : Srcs ops m E acc o Ei) (hst : StepTy P n ops.toArray Ei H o T)
    (h : Dr P R cx n ops m k E H l ((d, .val T) :: acc)) : Dr P R cx n ops m k E H (o :: l) acc := fun hops hobs => by
  have hlen : acc.length ≤ ops.length := by
    have := congrArg List.length hops
    simp at this; omega
  have ho : ops[acc.length]? = some o := by
    rw [hops, List.getElem?_append_right (by simp; omega)]
    simp [Nat.min_eq_left hlen]
  have hlt : acc.length < ops.length := (List.getElem?_eq_some_iff.1 ho).1
  refine h ?_ ⟨⟨o, ho, hd, Nat.le_of_ble_eq_true hn, Ei, hs, hst⟩, hobs⟩
  rw [List.length_cons, List.take_succ_eq_append_getElem hlt]
  have : ops[acc.length] = o := by simpa [hlt] using ho
  rw [this]
  simpa using hops
theorem D_new {ops l : List Oper} {m : Nat} {o : Oper} {acc : List (Nat × Ob)} {d : Nat} {γ : Type} {T : γ → Ty} {A : γ → SA} {Ei : Env} (hg : o.guard = none) (hd : o.dst = some d) (hn : Nat.blt d n = true) (hs : Srcs ops m E acc o Ei) (hst : NewTy P n Ei H o γ T A)
    (h : Dr P R cx n ops m k E H l ((d, .new γ T A) :: acc)) : Dr P R cx n ops m k E H (o :: l) acc := fun hops hobs => by
  have hlen : acc.length ≤ ops.length := by
    have := congrArg List.length hops
    simp at this; omega
  have ho : ops[acc.length]? = some o := by
    rw [hops, List.getElem?_append_right (by simp; omega)]
    simp [Nat.min_eq_left hlen]
  have hlt : acc.length < ops.length := (List.getElem?_eq_some_iff.1 ho).1
  refine h ?_ ⟨⟨o, ho, hd, Nat.le_of_ble_eq_true hn, hg, Ei, hs, hst⟩, hobs⟩
  rw [List.length_cons, List.take_succ_eq_append_getElem hlt]
  have : ops[acc.length] = o := by simpa [hlt] using ho
  rw [this]
  simpa using hops
theorem D_cpy {ops l : List Oper} {m : Nat} {o : Oper} {acc : List (Nat × Ob)} {d t : Nat} {b : Ob} (j : Nat) (hg : o.guard = none) (hd : o.dst = some d) (hn : Nat.blt d n = true) (hj : acc.reverse[j]? = some (t, b)) (he : (o.after.toList.any fun e => Nat.beq e.on j && Region.binds .any e) = true) (hx : ∀ a w, (execOp a o).run P w = .ok (.value (a (.tmp t))) w)
    (h : Dr P R cx n ops m k E H l ((d, .cpy t) :: acc)) : Dr P R cx n ops m k E H (o :: l) acc := fun hops hobs => by
  have hlen : acc.length ≤ ops.length := by
    have := congrArg List.length hops
    simp at this; omega
  have ho : ops[acc.length]? = some o := by
    rw [hops, List.getElem?_append_right (by simp; omega)]
    simp [Nat.min_eq_left hlen]
  have hlt : acc.length < ops.length := (List.getElem?_eq_some_iff.1 ho).1
  refine h ?_ ⟨⟨o, ho, hd, Nat.le_of_ble_eq_true hn, hg, ⟨j, b, hj, he⟩, hx⟩, hobs⟩
  rw [List.length_cons, List.take_succ_eq_append_getElem hlt]
  have : ops[acc.length] = o := by simpa [hlt] using ho
  rw [this]
  simpa using hops
def Took : Ob → Ty × SA → Prop
  | .val T, c => c = (T, SA.emp)
  | .new γ T A, c => ∃ x : γ, c = (T x, A x)
  | .cpy _, c => c.2 = SA.emp
theorem Obs.get {ops : List Oper} {m : Nat} : ∀ {acc : List (Nat × Ob)}, Obs P n ops m E H acc → ∀ {i : Nat} {d : Nat} {b : Ob}, acc.reverse[i]? = some (d, b) →
    ∃ o, ops[i]? = some o ∧ o.dst = some d ∧ d < n ∧ ObOk P n ops m E H ((acc.reverse.take i).reverse) o b
  | [], _, i, d, b, h => by simp at h
  | (d', b') :: prev, ⟨⟨o, h1, h2, h3, h4⟩, hp⟩, i, d, b, h => by
    rw [List.reverse_cons] at h
    by_cases e : i < prev.reverse.length
    · rw [List.getElem?_append_left e] at h
      obtain ⟨o', q1, q2, q3, q4⟩ := hp.get h
      refine ⟨o', q1, q2, q3, ?_⟩
      rw [List.reverse_cons, List.take_append_of_le_length (by omega)]; exact q4
    · have hi : i = prev.length := by
        have := (List.getElem?_eq_some_iff.1 h).1
        simp at this e; omega
      subst hi
      rw [List.getElem?_append_right (by simp)] at h
      simp at h
      obtain ⟨rfl, rfl⟩ := h
      refine ⟨o, h1, h2, h3, ?_⟩
      rw [List.reverse_cons, List.take_append_of_le_length (by simp), List.take_of_length_le (by simp), List.reverse_reverse]
      exact h4
theorem Obs.len {ops : List Oper} {m : Nat} : ∀ {acc : List (Nat × Ob)}, Obs P n ops m E H acc → ∀ i (h : i < acc.length), ∃ d b, acc.reverse[i]? = some (d, b) := fun {acc} _ i h =>
  ⟨_, _, by rw [List.getElem?_eq_getElem (by simpa using h)]⟩
theorem hG_next {r : List (Nat × Ob)} {d0 : Nat} {b0 : Ob} {E : Env} {C : Nat → Ty × SA} {i0 : Nat}
    (hG : ∀ (i d t : Nat), ((d0, b0) :: r)[i]? = some (d, .cpy t) → (∃ q b, q < i ∧ ((d0, b0) :: r)[q]? = some (t, b) ∧ (C (i0 + i)).1 = (C (i0 + q)).1 ∧ ∀ q' d' b', q < q' → q' < i → ((d0, b0) :: r)[q']? = some (d', b') → d' ≠ t) ∨ (look E t = some (C (i0 + i)).1 ∧ ∀ q' d' b', q' < i → ((d0, b0) :: r)[q']? = some (d', b') → d' ≠ t)) :
    ∀ (i d t : Nat), r[i]? = some (d, .cpy t) → (∃ q b, q < i ∧ r[q]? = some (t, b) ∧ (C (i0 + 1 + i)).1 = (C (i0 + 1 + q)).1 ∧ ∀ q' d' b', q < q' → q' < i → r[q']? = some (d', b') → d' ≠ t) ∨ (look ((d0, (C i0).1) :: E) t = some (C (i0 + 1 + i)).1 ∧ ∀ q' d' b', q' < i → r[q']? = some (d', b') → d' ≠ t) := fun i d t h => by
  have ei : i0 + (i + 1) = i0 + 1 + i := by omega
  rcases hG (i + 1) d t (by simpa using h) with ⟨q, b, h1, h2, h3, h4⟩ | ⟨h1, h2⟩
  · cases q with
    | zero =>
      simp at h2
      obtain ⟨rfl, rfl⟩ := h2
      right
      refine ⟨?_, fun q' d' b' hq hr => h4 (q' + 1) d' b' (by omega) (by omega) (by simpa using hr)⟩
      rw [look_cons, if_pos rfl, ← ei, h3, Nat.add_zero]
    | succ q =>
      left
      refine ⟨q, b, by omega, by simpa using h2, ?_, fun q' d' b' hq hq2 hr => h4 (q' + 1) d' b' (by omega) (by omega) (by simpa using hr)⟩
      rw [← ei, h3, show i0 + (q + 1) = i0 + 1 + q by omega]
  · right
    have h0 : d0 ≠ t := h2 0 d0 b0 (by omega) rfl
    refine ⟨?_, fun q' d' b' hq hr => h2 (q' + 1) d' b' (by omega) (by simpa using hr)⟩
    rw [look_cons, if_neg h0, h1, ei]
theorem wp_fin {ops : List Oper} {l : List Oper} : ∀ (r : List (Nat × Ob)) (E : Env) (H : Hp), Fin' P R cx n ops.toArray l k r E H → ∀ (C : Nat → Ty × SA) (i0 : Nat), (∀ (i d : Nat) (b : Ob), r[i]? = some (d, b) → Took b (C (i0 + i))) → (∀ (i d t : Nat), r[i]? = some (d, .cpy t) → (∃ q b, q < i ∧ r[q]? = some (t, b) ∧ (C (i0 + i)).1 = (C (i0 + q)).1 ∧ ∀ q' d' b', q < q' → q' < i → r[q']? = some (d', b') → d' ≠ t) ∨ (look E t = some (C (i0 + i)).1 ∧ ∀ q' d' b', q' < i → r[q']? = some (d', b') → d' ≠ t)) →
    ∃ E' H', Rg P R cx n ops.toArray l k E' H' ∧ (∀ t T, look E' t = some T → (look E t = some T ∧ ∀ (i d : Nat) (b : Ob), r[i]? = some (d, b) → d ≠ t) ∨ ∃ (i d : Nat) (b : Ob), r[i]? = some (d, b) ∧ d = t ∧ T = (C (i0 + i)).1) ∧
      List.Sublist H' (H ++ (List.range r.length).map fun i => (C (i0 + i)).2)
  | [], E, H, h, _, _, _, _ => ⟨E, H, h, fun t T hT => .inl ⟨hT, fun i d b hb => by simp at hb⟩, by simp⟩
  | (d, .val T0) :: r, E, H, h, C, i0, hC, hG => by
    have h0' : (C i0).1 = T0 := by rw [show C i0 = (T0, SA.emp) from hC 0 d (.val T0) rfl]
    obtain ⟨E', H', h1, h2, h3⟩ := wp_fin r _ H h C (i0 + 1) (fun i d b hb => by have := hC (i + 1) d b (by simpa using hb); rwa [show i0 + (i + 1) = i0 + 1 + i by omega] at this) (by rw [← h0']; exact hG_next hG)
    have h0 : C i0 = (T0, SA.emp) := hC 0 d (.val T0) rfl
    refine ⟨E', H', h1, fun t T hT => ?_, h3.trans ?_⟩
    · rcases h2 t T hT with ⟨q1, q2⟩ | ⟨i, d', b, q1, q2, q3⟩
      · rw [look_cons] at q1
        by_cases e : d = t
        · rw [if_pos e] at q1; obtain rfl := Option.some.inj q1
          exact .inr ⟨0, d, _, rfl, e, by rw [Nat.add_zero, h0]⟩
        · rw [if_neg e] at q1
          refine .inl ⟨q1, fun i d' b hb => ?_⟩
          cases i with
          | zero => simp at hb; exact hb.1 ▸ e
          | succ i => exact q2 i d' b (by simpa using hb)
      · exact .inr ⟨i + 1, d', b, by simpa using q1, q2, by rw [q3, show i0 + (i + 1) = i0 + 1 + i by omega]⟩
    · simp only [List.length_cons, List.range_succ_eq_map, List.map_cons, List.map_map]
      refine List.Sublist.append (List.Sublist.refl H) ?_
      refine List.Sublist.cons _ ?_
      have : (fun i => (C (i0 + 1 + i)).2) = ((fun i => (C (i0 + i)).2) ∘ Nat.succ) := by
        funext i; simp [show i0 + (i + 1) = i0 + 1 + i by omega]
      rw [this]; exact List.Sublist.refl _
  | (d, .cpy t0) :: r, E, H, h, C, i0, hC, hG => by
    have hl0 : look E t0 = some (C i0).1 := by
      rcases hG 0 d t0 rfl with ⟨q, _, hq, _⟩ | ⟨h1, _⟩
      · omega
      · simpa using h1
    obtain ⟨E', H', h1, h2, h3⟩ := wp_fin r _ H (h _ hl0) C (i0 + 1) (fun i d b hb => by have := hC (i + 1) d b (by simpa using hb); rwa [show i0 + (i + 1) = i0 + 1 + i by omega] at this) (hG_next hG)
    refine ⟨E', H', h1, fun t T hT => ?_, h3.trans ?_⟩
    · rcases h2 t T hT with ⟨q1, q2⟩ | ⟨i, d', b, q1, q2, q3⟩
      · rw [look_cons] at q1
        by_cases e : d = t
        · rw [if_pos e] at q1; obtain rfl := Option.some.inj q1
          exact .inr ⟨0, d, _, rfl, e, by rw [Nat.add_zero]⟩
        · rw [if_neg e] at q1
          refine .inl ⟨q1, fun i d' b hb => ?_⟩
          cases i with
          | zero => simp at hb; exact hb.1 ▸ e
          | succ i => exact q2 i d' b (by simpa using hb)
      · exact .inr ⟨i + 1, d', b, by simpa using q1, q2, by rw [q3, show i0 + (i + 1) = i0 + 1 + i by omega]⟩
    · simp only [List.length_cons, List.range_succ_eq_map, List.map_cons, List.map_map]
      refine List.Sublist.append (List.Sublist.refl H) ?_
      refine List.Sublist.cons _ ?_
      have : (fun i => (C (i0 + 1 + i)).2) = ((fun i => (C (i0 + i)).2) ∘ Nat.succ) := by
        funext i; simp [show i0 + (i + 1) = i0 + 1 + i by omega]
      rw [this]; exact List.Sublist.refl _
  | (d, .new γ T0 A0) :: r, E, H, h, C, i0, hC, hG => by
    obtain ⟨x, h0⟩ : ∃ x : γ, C i0 = (T0 x, A0 x) := hC 0 d (.new γ T0 A0) rfl
    obtain ⟨E', H', h1, h2, h3⟩ := wp_fin r _ _ (h x) C (i0 + 1) (fun i d b hb => by have := hC (i + 1) d b (by simpa using hb); rwa [show i0 + (i + 1) = i0 + 1 + i by omega] at this) (by rw [show T0 x = (C i0).1 by rw [h0]]; exact hG_next hG)
    refine ⟨E', H', h1, fun t T hT => ?_, h3.trans ?_⟩
    · rcases h2 t T hT with ⟨q1, q2⟩ | ⟨i, d', b, q1, q2, q3⟩
      · rw [look_cons] at q1
        by_cases e : d = t
        · rw [if_pos e] at q1; obtain rfl := Option.some.inj q1
          exact .inr ⟨0, d, _, rfl, e, by rw [Nat.add_zero, h0]⟩
        · rw [if_neg e] at q1
          refine .inl ⟨q1, fun i d' b hb => ?_⟩
          cases i with
          | zero => simp at hb; exact hb.1 ▸ e
          | succ i => exact q2 i d' b (by simpa using hb)
      · exact .inr ⟨i + 1, d', b, by simpa using q1, q2, by rw [q3, show i0 + (i + 1) = i0 + 1 + i by omega]⟩
    · simp only [List.length_cons, List.range_succ_eq_map, List.map_cons, List.map_map, List.append_assoc]
      refine List.Sublist.append (List.Sublist.refl H) ?_
      have : (fun i => (C (i0 + 1 + i)).2) = ((fun i => (C (i0 + i)).2) ∘ Nat.succ) := by
        funext i; simp [show i0 + (i + 1) = i0 + 1 + i by omega]
      rw [this]
      simp only [Nat.add_zero, h0]
      exact List.Sublist.refl _
theorem Obs.dst {ops : List Oper} {m : Nat} {acc : List (Nat × Ob)} (h : Obs P n ops m E H acc) {i d : Nat} {b : Ob} (hi : acc.reverse[i]? = some (d, b)) : dstOf ops i = some d := by
  obtain ⟨o, h1, h2, _⟩ := h.get hi
  simp [dstOf, h1, h2]
theorem mid_end {ops : List Oper} {m : Nat} {acc : List (Nat × Ob)} {E0 : Env} (hd : DOk ops m) (hlen : acc.length = m) (hobs : Obs P n ops m E0 H acc) (hfin : Fin' P R cx n ops.toArray (ops.drop m) k acc.reverse E0 H)
    {L : Nat → Bool} {a : Act} {w : World} {V : View} {C : Nat → Ty × SA} (hall : ∀ i, i < m → L i = true) (hC : ∀ (i d : Nat) (b : Ob), acc.reverse[i]? = some (d, b) → Took b (C i)) (hP : (∀ (i d t : Nat), acc.reverse[i]? = some (d, .cpy t) → ∃ q b, q < i ∧ acc.reverse[q]? = some (t, b) ∧ (C i).1 = (C q).1)) (hM : Mid cx n ops m E0 H L C V a w) :
    wpList P ops.toArray (den P R k) (ops.drop m) a w := by
  obtain ⟨E', H', h1, h2, h3⟩ := wp_fin acc.reverse E0 H hfin C 0 (fun i d b hb => by rw [Nat.zero_add]; exact hC i d b hb) (fun i d t ht => by
    obtain ⟨q, b, q1, q2, q3⟩ := hP i d t ht
    refine .inl ⟨q, b, q1, q2, by rw [Nat.zero_add, Nat.zero_add]; exact q3, fun q' d' b' h1 h2 h3 e => ?_⟩
    have hi := (List.getElem?_eq_some_iff.1 ht).1
    rw [List.length_reverse, hlen] at hi
    subst e
    exact hd.dst q' q (by omega) h1 _ (hobs.dst h3) (hobs.dst q2))
  refine h1 a w ⟨V, hM.inv.hp_of (fun hh => ?_), hM.df, hM.sz, fun t T hT => ?_⟩
  · refine HH.sublist (h3.trans ?_) hh
    rw [List.length_reverse, hlen]
    have : (List.range m).map (fun i => (C (0 + i)).2) = (List.range m).map fun i => if L i then (C i).2 else SA.emp := by
      apply List.map_congr_left
      intro i hi
      rw [hall i (List.mem_range.1 hi)]; simp
    rw [this]; exact List.Sublist.refl _
  · rcases h2 t T hT with ⟨q1, q2⟩ | ⟨i, d, b, q1, q2, q3⟩
    · refine hM.old t T q1 (fun j hj => ?_)
      obtain ⟨d, b, hb⟩ := Obs.len hobs j (by omega)
      rw [hobs.dst hb]
      intro e; exact q2 j d b hb (Option.some.inj e)
    · have hi : i < m := by have := (List.getElem?_eq_some_iff.1 q1).1; simpa [hlen] using this
      subst q2; rw [q3, Nat.zero_add]
      exact hM.now i d hi (hall i hi) (hobs.dst q1)
theorem wpAny_mid {ops : List Oper} {m : Nat} {acc : List (Nat × Ob)} {E0 : Env} (hd : DOk ops m) (hlen : acc.length = m) (hobs : Obs P n ops m E0 H acc) (hfin : Fin' P R cx n ops.toArray (ops.drop m) k acc.reverse E0 H) :
    ∀ (fuel : Nat) (listed : Array Bool) (a : Act) (w : World) (V : View) (C : Nat → Ty × SA), LI ops listed → cntF listed.toList ≤ fuel → (∀ i : Nat, m ≤ i → i < ops.length → listed[i]? = some false) →
      (∀ (i d : Nat) (b : Ob), acc.reverse[i]? = some (d, b) → listed[i]? = some true → Took b (C i)) → (∀ (i d t : Nat), acc.reverse[i]? = some (d, .cpy t) → listed[i]? = some true → ∃ q b, q < i ∧ acc.reverse[q]? = some (t, b) ∧ listed[q]? = some true ∧ (C i).1 = (C q).1) → Mid cx n ops m E0 H (fun i => listed[i]? == some true) C V a w → wpAny P .any ops.toArray (den P R k) fuel listed a w := by
  intro fuel
  have done : ∀ (listed : Array Bool) (a : Act) (w : World) (V : View) (C : Nat → Ty × SA), LI ops listed → ∀ fuel, cntF listed.toList ≤ fuel → (∀ i : Nat, m ≤ i → i < ops.length → listed[i]? = some false) →
      (∀ (i d : Nat) (b : Ob), acc.reverse[i]? = some (d, b) → listed[i]? = some true → Took b (C i)) → (∀ (i d t : Nat), acc.reverse[i]? = some (d, .cpy t) → listed[i]? = some true → ∃ q b, q < i ∧ acc.reverse[q]? = some (t, b) ∧ listed[q]? = some true ∧ (C i).1 = (C q).1) → Mid cx n ops m E0 H (fun i => listed[i]? == some true) C V a w → (∀ i : Nat, i < m → listed[i]? = some true) → wpAny P .any ops.toArray (den P R k) fuel listed a w := by
    intro listed a w V C hL fuel hc hl hC hP hM hall
    have hge := cntF_ge listed.toList m (by simpa [hL.sz] using hd.le) (fun i h1 h2 => by simpa using hl i h1 (by simpa [hL.sz] using h2))
    refine wpAny_seq hd fuel m listed a w (Nat.le_refl m) hd.le (by simp [hL.sz] at hge; omega) hL (fun i hi => ?_) ?_
    · by_cases e : i < m
      · rw [hall i e]; simp [e]
      · rw [hl i (by omega) hi]; simp; omega
    · refine mid_end hd hlen hobs hfin (fun i hi => by rw [hall i hi]; rfl) (fun i d b hb => hC i d b hb (hall i ?_)) (fun i d t ht => by
        obtain ⟨q, b, q1, q2, _, q3⟩ := hP i d t ht (hall i (by have := (List.getElem?_eq_some_iff.1 ht).1; simpa [hlen] using this))
        exact ⟨q, b, q1, q2, q3⟩) hM
      have := (List.getElem?_eq_some_iff.1 hb).1
      simpa [hlen] using this
  induction fuel with
  | zero =>
    intro listed a w V C hL hc hl hC hP hM
    refine done listed a w V C hL 0 hc hl hC hP hM (fun i hi => ?_)
    have hil : i < listed.size := by rw [hL.sz]; have := hd.le; omega
    cases hb : listed[i] with
    | true => simp [hil, hb]
    | false =>
      have := cntF_pos listed.toList i (by simp [hil, hb])
      omega
  | succ fuel ih =>
    intro listed a w V C hL hc hl hC hP hM
    by_cases hall : ∀ i : Nat, i < m → listed[i]? = some true
    · exact done listed a w V C hL _ hc hl hC hP hM hall
    refine ⟨fun hr => absurd (fun i hi => ready_nil hr hL.sz hd.back i (by have := hd.le; omega)) hall, fun i hi => ?_⟩
    obtain ⟨o, h1, h2, h3⟩ := ready_mem hi hL.sz
    have him : i < m := by
      rcases Nat.lt_or_ge i m with hx | hx
      · exact hx
      · exact absurd (fun j hj => hL.before hd h1 h3 hx j (by omega)) hall
    obtain ⟨d, b, hb⟩ := Obs.len hobs i (by omega)
    obtain ⟨o', q1, q2, q3, q4⟩ := hobs.get hb
    rw [h1] at q1; obtain rfl := Option.some.inj q1
    have hdst := hobs.dst hb
    have slots : ∀ Ei, Srcs ops m E0 (acc.reverse.take i).reverse o Ei → Slots n Ei V a := fun Ei hS => by
      refine ⟨hM.df, hM.sz, fun t T hT => ?_⟩
      rcases hS t T hT with ⟨r1, r2⟩ | ⟨j, r1, r2⟩
      · refine hM.old t T r1 (fun j hj e => ?_)
        have := List.all_eq_true.1 r2 j (List.mem_range.2 hj)
        simp [e] at this
      · rw [List.reverse_reverse, List.getElem?_take] at r1
        split at r1
        case isFalse => cases r1
        case isTrue hji =>
        obtain ⟨e, he, hb'⟩ := List.any_eq_true.1 r2
        simp only [Bool.and_eq_true] at hb'
        have hon : e.on = j := Nat.eq_of_beq_eq_true hb'.1
        have hlj := h3 e he hb'.2
        rw [hon] at hlj
        have hc' : C j = (T, SA.emp) := hC j t (.val T) r1 hlj
        obtain ⟨v, s1, s2⟩ := hM.now j t (by omega) (by rw [hlj]; rfl) (hobs.dst r1)
        exact ⟨v, s1, by rw [hc'] at s2; exact s2⟩
    have hcnt : cntF (listed.setIfInBounds i true).toList ≤ fuel := by
      have := cntF_set listed.toList i (by simpa using h2)
      rw [Array.toList_setIfInBounds]; omega
    have hl' : ∀ j : Nat, m ≤ j → j < ops.length → (listed.setIfInBounds i true)[j]? = some false := fun j hj hjl => by
      rw [Array.getElem?_setIfInBounds_ne (by omega)]; exact hl j hj hjl
    have took : ∀ (T : Ty) (A : SA), Took b (T, A) → ∀ (j d : Nat) (b : Ob), acc.reverse[j]? = some (d, b) → (listed.setIfInBounds i true)[j]? = some true → Took b (if j = i then (T, A) else C j) := fun T A ht j d' b' hb' hj => by
      by_cases e : j = i
      · subst e
        rw [hb] at hb'; simp at hb'
        simp only [if_pos]; exact hb'.2 ▸ ht
      · rw [Array.getElem?_setIfInBounds_ne (fun x => e x.symm)] at hj
        simp only [if_neg e]; exact hC j d' b' hb' hj
    have keepP : ∀ (T : Ty) (A : SA), (∀ t, b = .cpy t → ∃ q b', q < i ∧ acc.reverse[q]? = some (t, b') ∧ listed[q]? = some true ∧ T = (C q).1) → ∀ (j d t : Nat), acc.reverse[j]? = some (d, .cpy t) → (listed.setIfInBounds i true)[j]? = some true → ∃ q b', q < j ∧ acc.reverse[q]? = some (t, b') ∧ (listed.setIfInBounds i true)[q]? = some true ∧ (if j = i then (T, A) else C j).1 = (if q = i then (T, A) else C q).1 := fun T A hT j d' t hj hlj => by
      have step : ∀ q b', q < j → acc.reverse[q]? = some (t, b') → listed[q]? = some true → (if j = i then (T, A) else C j).1 = (C q).1 → ∃ q b', q < j ∧ acc.reverse[q]? = some (t, b') ∧ (listed.setIfInBounds i true)[q]? = some true ∧ (if j = i then (T, A) else C j).1 = (if q = i then (T, A) else C q).1 := fun q b' e1 e2 e3 e4 => by
        have hqi : q ≠ i := fun e => by rw [e, h2] at e3; cases e3
        exact ⟨q, b', e1, e2, by rw [Array.getElem?_setIfInBounds_ne (fun x => hqi x.symm)]; exact e3, by rw [if_neg hqi]; exact e4⟩
      by_cases e : j = i
      · subst e
        rw [hb] at hj; simp at hj
        obtain ⟨q, b', e1, e2, e3, e4⟩ := hT t hj.2
        exact step q b' e1 e2 e3 (by rw [if_pos rfl]; exact e4)
      · rw [Array.getElem?_setIfInBounds_ne (fun x => e x.symm)] at hlj
        obtain ⟨q, b', e1, e2, e3, e4⟩ := hP j d' t hj hlj
        exact step q b' e1 e2 e3 (by rw [if_neg e]; exact e4)
    have hx : ((List.range m).map fun i => if (listed[i]? == some true) = true then (C i).2 else SA.emp).set i SA.emp = (List.range m).map fun i => if (listed[i]? == some true) = true then (C i).2 else SA.emp := by
      rw [map_upd him]
      apply List.map_congr_left
      intro j _
      by_cases e : j = i
      · subst e; simp [h2]
      · simp [e]
    unfold wpOp
    simp only [List.getElem?_toArray, h1]
    cases b with
    | val T =>
      obtain ⟨Ei, hS, hst⟩ := q4
      have := hst cx _ a w V hM.inv (slots Ei hS) (wpAny P .any ops.toArray (den P R k) fuel (listed.setIfInBounds i true)) (den P R k) (fun v w' V' hi' hle hv => by
        rw [q2]
        exact ih _ _ _ V' _ (hL.set h1 h3) hcnt hl' (took T SA.emp rfl) (keepP T SA.emp (fun t e => by cases e)) (hM.next hd hL.sz him hdst q3 h2 hv hle (by rw [hx]; exact hi')))
      split
      · rename_i hw; rw [if_pos hw] at this; exact .inl this
      · rename_i hw; rw [if_neg hw] at this; exact this
    | new γ T A =>
      obtain ⟨hg, Ei, hS, hst⟩ := q4
      rw [if_pos (by simp [Region.wanted, hg])]
      left
      refine hst cx _ a w V hM.inv (slots Ei hS) _ _ fun x v w' V' e3 hle e2 => ?_
      rw [q2]
      refine ih _ _ _ V' _ (hL.set h1 h3) hcnt hl' (took (T x) (A x) ⟨x, rfl⟩) (keepP (T x) (A x) (fun t e => by cases e)) (hM.next hd hL.sz him hdst q3 h2 e2 hle (e3.hp_of (fun hh => ?_)))
      have := HH.move (p := H.length + i) hh (by simp; omega)
      rw [List.set_append_right _ _ (by omega), show H.length + i - H.length = i by omega] at this
      exact this
    | cpy t =>
      obtain ⟨hg, ⟨q, b', r1, r2⟩, hrun⟩ := q4
      rw [List.reverse_reverse, List.getElem?_take] at r1
      split at r1
      case isFalse => cases r1
      case isTrue hji =>
      obtain ⟨e, he, hb'⟩ := List.any_eq_true.1 r2
      simp only [Bool.and_eq_true] at hb'
      have hon : e.on = q := Nat.eq_of_beq_eq_true hb'.1
      have hlj := h3 e he hb'.2
      rw [hon] at hlj
      obtain ⟨v, s1, s2⟩ := hM.now q t (by omega) (by rw [hlj]; rfl) (hobs.dst r1)
      have ev : a.eval (.tmp t) = v := by simp [Act.eval, s1]
      rw [if_pos (by simp [Region.wanted, hg])]
      left
      simp only [Oper.wp, hrun, Oper.upon_value, q2, ev]
      exact ih _ _ _ V _ (hL.set h1 h3) hcnt hl' (took (C q).1 SA.emp rfl) (keepP (C q).1 SA.emp (fun t' e' => by
        cases e'
        exact ⟨q, b', hji, r1, hlj, rfl⟩)) (hM.next hd hL.sz him hdst q3 h2 s2 (VLe.refl V) (by rw [hx]; exact hM.inv))
theorem D_done {ops l : List Oper} {m : Nat} {acc : List (Nat × Ob)} (hP : P.follows .mixedOrders = true) (hm : acc.length = m) (hchk : drawOk ops m = true) (h : Fin' P R cx n ops.toArray l k acc.reverse E H) : Dr P R cx n ops m k E H l acc := fun hops hobs id a w ⟨V, hi, hs⟩ => by
  have hd := DOk.of hchk
  have hl : ops.drop m = l := by
    conv => lhs; rw [hops]
    rw [List.drop_append, List.drop_of_length_le (by simp; omega)]
    simp [hm, Nat.min_eq_left hd.le]
  refine wp_region_any hP ?_
  have hnone : ∀ i : Nat, (Array.replicate ops.toArray.size false)[i]? ≠ some true := fun i h => by
    rw [Array.getElem?_replicate] at h; split at h <;> simp at h
  refine wpAny_mid (cx := cx) (n := n) (E0 := E) (H := H) hd hm hobs (by rw [hl]; exact h) _ _ a _ V (fun _ => (AnyT, SA.emp)) ⟨by simp, fun i o ho h => absurd h (hnone i)⟩ ?_ (fun i h1 h2 => by simp [h2]) (fun i d b _ h => absurd h (hnone i)) (fun i d t _ h => absurd h (hnone i)) ?_
  · have : ∀ j, cntF (List.replicate j false) ≤ j := fun j => by
      induction j with
      | zero => simp [cntF]
      | succ j ih => simp only [List.replicate_succ, cntF]; simp; omega
    simpa using this _
  · refine ⟨?_, hs.1, hs.2.1, fun t T hT _ => hs.2.2 t T hT, fun j d hj hL => ?_⟩
    · have e : ((List.range m).map fun i => if ((Array.replicate ops.toArray.size false)[i]? == some true) = true then ((fun _ => (AnyT, SA.emp)) i : Ty × SA).2 else SA.emp) = (List.range m).map fun _ => SA.emp := by
        apply List.map_congr_left; intro i _; split <;> rfl
      rw [e]
      have := hi.drew
      refine this.hp_of (fun hh => ?_)
      obtain ⟨F, f1, f2⟩ := hh
      refine ⟨fun i => if i < H.length then F i else [], fun i A hA => ?_, fun i j b hi hj hbi hbj => ?_⟩
      · by_cases e : i < H.length
        · rw [List.getElem?_append_left e] at hA
          simp only [if_pos e]; exact f1 i A hA
        · rw [List.getElem?_append_right (by omega)] at hA
          have : A = SA.emp := by
            rw [List.getElem?_map] at hA
            cases hq : (List.range m)[i - H.length]? with
            | none => rw [hq] at hA; cases hA
            | some q => rw [hq] at hA; simpa using hA.symm
          subst this
          simp only [if_neg e]
          exact ⟨rfl, fun b hb => by simp at hb⟩
      · by_cases e : i < H.length <;> by_cases e' : j < H.length
        · simp only [if_pos e, if_pos e'] at hbi hbj; exact f2 i j b e e' hbi hbj
        · simp [e'] at hbj
        · simp [e] at hbi
        · simp [e] at hbi
    · exact absurd (by simpa using hL) (hnone j)
theorem F_nil {ops : Array Oper} {l : List Oper} (h : Rg P R cx n ops l k E H) : Fin' P R cx n ops l k [] E H := h
theorem F_val {ops : Array Oper} {l : List Oper} {d : Nat} {T : Ty} {r : List (Nat × Ob)} (h : Fin' P R cx n ops l k r ((d, T) :: E) H) : Fin' P R cx n ops l k ((d, .val T) :: r) E H := h
theorem F_new {ops : Array Oper} {l : List Oper} {d : Nat} {γ : Type} {T : γ → Ty} {A : γ → SA} {r : List (Nat × Ob)} (h : ∀ x : γ, Fin' P R cx n ops l k r ((d, T x) :: E) (H ++ [A x])) : Fin' P R cx n ops l k ((d, .new γ T A) :: r) E H := h
theorem F_cpy {ops : Array Oper} {l : List Oper} {d t : Nat} {T : Ty} {r : List (Nat × Ob)} (hl : look E t = some T) (h : Fin' P R cx n ops l k r ((d, T) :: E) H) : Fin' P R cx n ops l k ((d, .cpy t) :: r) E H := fun T' hT => by
  rw [hl] at hT; obtain rfl := Option.some.inj hT; exact h
theorem cpy_assign {d : Option Tmp} {t : Nat} {ty : TypeId} {pos : String} {af : Array Edge} {g : Option (Nat × Bool)} : ∀ a w, (execOp a ⟨d, .assign (.tmp t), ty, pos, af, g⟩).run P w = .ok (.value (a (.tmp t))) w := fun a w => by simp [execOp, pure, Sem.run]
end
end C
end Go.Proofs.YtppibhcfaahgpaaGreat
namespace Go.Proofs.YtppibhcfaahgpaaGreat
open Go Go.RowKit
theorem fa_125_0 (a : Addr) (w : World) : (Instr.fieldAt 125 (.pointer (some a)) 0).run Tryz.prog w = .ok (.pointer (some (a.add 0))) w := by
  simp [Instr.fieldAt, Instr.sureAddr, fieldPlace, Sem.run_bind, Result.andThen, Tryz.runUnderlying125, Tryz.sizeOf5]
theorem fa_125_1 (a : Addr) (w : World) : (Instr.fieldAt 125 (.pointer (some a)) 1).run Tryz.prog w = .ok (.pointer (some (a.add 1))) w := by
  simp [Instr.fieldAt, Instr.sureAddr, fieldPlace, Sem.run_bind, Result.andThen, Tryz.runUnderlying125, Tryz.sizeOf22]
theorem fa_125_2 (a : Addr) (w : World) : (Instr.fieldAt 125 (.pointer (some a)) 2).run Tryz.prog w = .ok (.pointer (some (a.add 2))) w := by
  simp [Instr.fieldAt, Instr.sureAddr, fieldPlace, Sem.run_bind, Result.andThen, Tryz.runUnderlying125, Tryz.sizeOf22]
theorem info_22 : Tryz.prog.info? 22 = some Tryz.t22 := by kernel_rfl
theorem info_27 : Tryz.prog.info? 27 = some Tryz.t27 := by kernel_rfl
theorem und_22 : Tryz.prog.underlying 22 = some (.slice 27) := by kernel_rfl
end Go.Proofs.YtppibhcfaahgpaaGreat
namespace Go.Proofs.YtppibhcfaahgpaaGreat
open Go Go.RowKit
abbrev PartT (a : Nat) (zl sl : List Rt) : Ty := AggT [NT .u8 a, RatsT zl, RatsT sl]
theorem rat0_p : ∀ V, (RatT default).p (.agg #[.int .i64 0, .int .i64 0, .int .i64 0]) V := fun V => ⟨[.int .i64 0, .int .i64 0, .int .i64 0], rfl, Cells.cons' ⟨rfl, trivial⟩ (Cells.cons' ⟨rfl, trivial⟩ (Cells.cons' ⟨rfl, trivial⟩ Cells.nil))⟩
theorem frzG {B e s l : Nat} {BT : TypeId} {Rs : List (List Ty)} {q : Value → Prop} (hl : l = Rs.length) : ∀ u S V, (Is (.slice (some ⟨B, 0, none⟩) l l)).p u V → (matP q B BT e s Rs).h S V V → (SlT 1 (Rs.map (SlT s))).p u V := fun u S V h1 h2 => frz_mat hl (Nat.le_refl _) u S V h1 h2
theorem plS_rows (a : Nat) (sl : List Rt) : (tab (plN a) fun i => tab (plN a) fun j => RatT (smR (pkR sl (plN a * i + j)))).map (SlT 3) = (plS a sl).map RatsT := by
  rw [plS, tab_map, tab_map]
  refine tab_congr fun i _ => ?_
  rw [RatsT, tab_map]
set_option maxHeartbeats 1000000 in
set_option maxRecDepth 20000 in
theorem c_Plain {a : Nat} {zl sl : List Rt} (ha : a < 256) : Fun Tryz.prog 135 [PartT a zl sl] (TupT [RatsT (plZ a zl), RatM (plS a sl)]) := by
  have hn : plN a ≤ 4 := by unfold plN; omega
  have hn0 : a % 4 + 1 = plN a := rfl
  refine Fun.intro Tryz.func135 rfl Tryz.ntmps135 rfl (fun cx => ?_)
  refine T_seq ?_
  refine T_region ?_
  refine R_new rfl rfl rfl (new_box (Has.t rfl)) (fun B1 => ?_)
  refine R_op rfl rfl rfl (op_assign Has.c) ?_
  refine R_op rfl rfl rfl (op_assign Has.c) ?_
  refine R_nil ?_
  refine T_seq ?_
  refine T_region ?_
  refine R_op rfl rfl rfl (op_fldB fa_125_0 (Has.t rfl) rfl) ?_
  refine R_op rfl rfl rfl (op_ldB Tryz.isAgg5 Tryz.sizeOf5 (Has.t rfl) (i := 0) rfl rfl) ?_
  refine R_op rfl rfl rfl (op_remN (Has.t rfl) (Has.cN 4) (by omega)) ?_
  refine R_op rfl rfl rfl (op_convN Tryz.runUnderlying5 Tryz.runUnderlying3 (Has.t rfl) (by show _ < 9223372036854775808; first | omega | (simp only [lim]; omega))) ?_
  refine R_op rfl rfl rfl (OpTy.nat (op_addN (Has.t rfl) (Has.cN 1) (by show _ < 9223372036854775808; first | omega | (simp only [lim]; omega))) hn0) ?_
  refine R_op rfl rfl rfl (op_assign (Has.t rfl)) ?_
  refine R_nil ?_
  refine T_seq ?_
  refine C.D_start (m := 5) ?_
  refine C.D_step (Ei := [(4, _)]) rfl rfl (C.Srcs.cons (C.Src.pre rfl rfl) C.Srcs.nil) (S_plain rfl (op_move (Has.t rfl))) ?_
  refine C.D_new (Ei := [(14, _)]) rfl rfl rfl (C.Srcs.cons (C.Src.op 0 rfl rfl) C.Srcs.nil) (new_makeO (T := RatT default) (i := Tryz.t27) und_22 info_27 rfl rfl (Has.t rfl) rfl rat0_p (El.ag rfl) (by show 24 * _ ≤ _; omega) (by omega)) ?_
  refine C.D_step (Ei := [(4, _)]) rfl rfl (C.Srcs.cons (C.Src.pre rfl rfl) C.Srcs.nil) (S_plain rfl (op_move (Has.t rfl))) ?_
  refine C.D_new (Ei := [(16, _)]) rfl rfl rfl (C.Srcs.cons (C.Src.op 2 rfl rfl) C.Srcs.nil) (new_make (T := Is (.slice none 0 0)) (i := Tryz.t22) Tryz.underlying23 info_22 rfl rfl (Has.t rfl) rfl (fun _ => rfl) trivial (by show 24 * _ ≤ _; omega) (by omega)) ?_
  refine C.D_cpy 1 rfl rfl rfl rfl rfl C.cpy_assign ?_
  refine C.D_done mixed rfl (by kernel_rfl) (C.F_val (C.F_new (fun B15 => C.F_val (C.F_new (fun B17 => C.F_cpy rfl (C.F_nil ?_))))))
  refine R_op rfl rfl rfl (op_assign (Has.t rfl)) ?_
  refine R_nil ?_
  refine T_seq ?_
  refine T_seq ?_
  refine T_region ?_
  refine R_op rfl rfl rfl (op_move (Has.t rfl)) ?_
  refine R_op rfl rfl rfl (op_lenO Tryz.runUnderlying22 (Has.t rfl) (i := 1) rfl (show ((List.replicate (plN a) (RatT default)).length : Int) = ((plN a : Nat) : Int) from by simp)) ?_
  refine R_op rfl rfl rfl (op_move (Has.cN 0)) ?_
  refine R_nil ?_
  refine T_block ?_
  refine T_conv 2 rfl (mat_nil (e := 27) (s := 3)) ?_
  refine T_loop (fun (i : Nat) => i ≤ plN a) (fun (i : Nat) => plN a - i) (fun (i : Nat) => [(1, PtrB B1 0), (4, NT .i64 (plN a)), (5, Is B15), (6, Is (.slice (some ⟨B17, 0, none⟩) (plN a) (plN a))), (19, NT .i64 (plN a)), (20, NT .i64 i)]) (fun (i : Nat) => [box B1 125 [NT .u8 a, RatsT zl, RatsT sl], rowO 27 3 B15 (mixT (fun i => RatT (imR (pkR zl i))) (RatT default) (plN a) i), matO B17 22 27 3 (mixT (fun i => tab (plN a) fun j => RatT (smR (pkR sl (plN a * i + j)))) [] (plN a) i)]) 0 (Nat.zero_le _)
    (Sub.cons rfl (Sub.cons rfl (Sub.cons rfl (Sub.cons rfl (Sub.to rfl (nt_of (by simp)) (Sub.cons rfl Sub.nil)))))) (HSub.cons (box_of rfl) (HSub.cons (rowO_of (by rw [← mix_zero]; exact rep_tab _ _)) (HSub.cons (matO_of (by rw [← mix_zero]; exact rep_tab _ _)) HSub.nil))) (fun i hi => ?_)
  refine T_seq ?_
  refine T_region ?_
  refine R_op rfl rfl rfl (op_lssN (Has.t rfl) (Has.t rfl)) ?_
  refine R_nil ?_
  refine T_seq ?_
  refine T_cond (Has.t rfl) (fun hd => ?_) (fun hd => ?_)
  · simp only [decide_eq_true_eq] at hd
    have hni : plN a * i ≤ 4 * 4 := Nat.mul_le_mul hn (by omega)
    refine T_focus 2 (i) rfl (mix_get hd) (fun v0 => ?_)
    refine T_skip ?_
    refine T_seq ?_
    refine T_block ?_
    refine T_seq ?_
    refine T_region ?_
    refine R_op rfl rfl rfl (op_move (Has.t rfl)) ?_
    refine R_op rfl rfl rfl (op_assign (Has.t rfl)) ?_
    refine R_nil ?_
    refine T_seq ?_
    refine T_region ?_
    refine R_op rfl rfl rfl (op_move (Has.t rfl)) ?_
    refine R_op rfl rfl rfl (op_move (Has.t rfl)) ?_
    refine R_op rfl rfl rfl (op_fldB fa_125_1 (Has.t rfl) rfl) ?_
    refine R_op rfl rfl rfl (op_ldB Tryz.isAgg22 Tryz.sizeOf22 (Has.t rfl) (i := 0) rfl rfl) ?_
    refine R_op rfl rfl rfl (op_move (Has.t rfl)) ?_
    refine R_op rfl rfl rfl (op_call Tryz.call186 c_pick ⟨(Has.t rfl), (Has.t rfl), trivial⟩) ?_
    refine R_op rfl rfl rfl (op_call Tryz.call185 c_imped ⟨(Has.t rfl), trivial⟩) ?_
    refine R_op rfl rfl rfl (op_idxO Tryz.runUnderlying22 Tryz.sizeOf27 (Has.t rfl) (Has.t rfl) rfl (i := 1) rfl (by rw [mix_len]; omega) rfl) ?_
    refine R_stO Tryz.sizeOf27 (Has.t rfl) (Has.t rfl) (El.ag rfl) (i := 1) rfl rfl (by rw [mix_len]; omega) rfl ?_
    refine R_nil ?_
    refine T_seq ?_
    refine T_region ?_
    refine R_op rfl rfl rfl (op_move (Has.t rfl)) ?_
    refine R_op rfl rfl rfl (op_move (Has.t rfl)) ?_
    refine R_op rfl rfl rfl (op_move (Has.t rfl)) ?_
    refine R_new rfl rfl rfl (new_makeO (T := RatT default) (i := Tryz.t27) und_22 info_27 rfl rfl (Has.t rfl) rfl rat0_p (El.ag rfl) (by show 24 * _ ≤ _; omega) (by omega)) (fun B34 => ?_)
    refine R_op rfl rfl rfl (op_idxB Tryz.runUnderlying23 Tryz.sizeOf22 (Has.t rfl) (Has.t rfl) rfl (by omega) (by rw [Nat.mul_one, Nat.zero_add])) ?_
    refine R_stH Tryz.sizeOf22 (Has.t rfl) (Has.t rfl) (by rw [mix_len]; omega) (j := 2) (l := 4) rfl rfl rfl ?_
    refine R_nil ?_
    refine T_seq ?_
    refine T_keep [0, 1, 2, 4] rfl (by decide) ?_
    refine T_region ?_
    refine R_op rfl rfl rfl (op_move (Has.t rfl)) ?_
    refine R_op rfl rfl rfl (op_move (Has.t rfl)) ?_
    refine R_op rfl rfl rfl (op_idxB Tryz.runUnderlying23 Tryz.sizeOf22 (Has.t rfl) (Has.t rfl) rfl (by omega) (by rw [Nat.mul_one, Nat.zero_add])) ?_
    refine R_op rfl rfl rfl (op_ldH Tryz.isAgg22 Tryz.sizeOf22 (Has.t rfl) (j := 2) rfl) ?_
    refine R_op rfl rfl rfl (op_lenO Tryz.runUnderlying22 (Has.t rfl) (i := 3) rfl (show ((List.replicate (plN a) (RatT default)).length : Int) = ((plN a : Nat) : Int) from by simp)) ?_
    refine R_op rfl rfl rfl (op_move (Has.cN 0)) ?_
    refine R_nil ?_
    refine T_block ?_
    refine T_loop (fun (j : Nat) => j ≤ plN a) (fun (j : Nat) => plN a - j) (fun (j : Nat) => [(1, PtrB B1 0), (4, NT .i64 (plN a)), (5, Is B15), (6, Is (.slice (some ⟨B17, 0, none⟩) (plN a) (plN a))), (7, NT .i64 i), (19, NT .i64 (plN a)), (20, NT .i64 i), (40, NT .i64 (plN a)), (41, NT .i64 j)]) (fun (j : Nat) => [box B1 125 [NT .u8 a, RatsT zl, RatsT sl], rowO 27 3 B15 (mixT (fun i => RatT (imR (pkR zl i))) (RatT default) (plN a) (i + 1)), matH B17 22 27 3 (mixT (fun i => tab (plN a) fun j => RatT (smR (pkR sl (plN a * i + j)))) [] (plN a) i) i B34, rowO 27 3 B34 (mixT (fun j => RatT (smR (pkR sl (plN a * i + j)))) (RatT default) (plN a) j)]) 0 (Nat.zero_le _)
      (Sub.cons rfl (Sub.cons rfl (Sub.cons rfl (Sub.cons rfl (Sub.cons rfl (Sub.cons rfl (Sub.cons rfl (Sub.cons rfl (Sub.cons rfl Sub.nil))))))))) (HSub.cons (box_of rfl) (HSub.cons (rowO_of (mix_set (f := (fun i => RatT (imR (pkR zl i)))))) (HSub.cons (fun _ _ _ h => h) (HSub.cons (rowO_of (by rw [← mix_zero]; exact rep_tab _ _)) HSub.nil)))) (fun j hj => ?_)
    refine T_seq ?_
    refine T_region ?_
    refine R_op rfl rfl rfl (op_lssN (Has.t rfl) (Has.t rfl)) ?_
    refine R_nil ?_
    refine T_seq ?_
    refine T_cond (Has.t rfl) (fun he => ?_) (fun he => ?_)
    · simp only [decide_eq_true_eq] at he
      refine T_skip ?_
      refine T_seq ?_
      refine T_block ?_
      refine T_seq ?_
      refine T_region ?_
      refine R_op rfl rfl rfl (op_move (Has.t rfl)) ?_
      refine R_op rfl rfl rfl (op_assign (Has.t rfl)) ?_
      refine R_nil ?_
      refine D_start (m := 14) ?_
      refine D_step (Ei := [(6, _)]) rfl rfl (Srcs.cons (Src.pre rfl rfl) Srcs.nil) (S_plain rfl (op_move (Has.t rfl))) ?_
      refine D_step (Ei := [(7, _)]) rfl rfl (Srcs.cons (Src.pre rfl rfl) Srcs.nil) (S_plain rfl (op_move (Has.t rfl))) ?_
      refine D_step (Ei := [(44, _), (45, _)]) rfl rfl (Srcs.cons (Src.op 0 rfl rfl) (Srcs.cons (Src.op 1 rfl rfl) Srcs.nil)) (S_plain rfl (op_idxB Tryz.runUnderlying23 Tryz.sizeOf22 (Has.t rfl) (Has.t rfl) rfl (by omega) (by rw [Nat.mul_one, Nat.zero_add]))) ?_
      refine D_step (Ei := [(46, _)]) rfl rfl (Srcs.cons (Src.op 2 rfl rfl) Srcs.nil) (S_plain rfl (op_ldH Tryz.isAgg22 Tryz.sizeOf22 (Has.t rfl) (j := 2) rfl)) ?_
      refine D_step (Ei := [(8, _)]) rfl rfl (Srcs.cons (Src.pre rfl rfl) Srcs.nil) (S_plain rfl (op_move (Has.t rfl))) ?_
      refine D_step (Ei := [(1, _)]) rfl rfl (Srcs.cons (Src.pre rfl rfl) Srcs.nil) (S_plain rfl (op_fldB fa_125_2 (Has.t rfl) rfl)) ?_
      refine D_step (Ei := [(49, _)]) rfl rfl (Srcs.cons (Src.op 5 rfl rfl) Srcs.nil) (S_plain rfl (op_ldB Tryz.isAgg22 Tryz.sizeOf22 (Has.t rfl) (i := 0) rfl rfl)) ?_
      refine D_step (Ei := [(4, _)]) rfl rfl (Srcs.cons (Src.pre rfl rfl) Srcs.nil) (S_plain rfl (op_move (Has.t rfl))) ?_
      refine D_step (Ei := [(7, _)]) rfl rfl (Srcs.cons (Src.pre rfl rfl) Srcs.nil) (S_plain rfl (op_move (Has.t rfl))) ?_
      refine D_step (Ei := [(51, _), (52, _)]) rfl rfl (Srcs.cons (Src.op 7 rfl rfl) (Srcs.cons (Src.op 8 rfl rfl) Srcs.nil)) (S_plain rfl (op_mulN (Has.t rfl) (Has.t rfl) (by show _ < 9223372036854775808; omega))) ?_
      refine D_step (Ei := [(8, _)]) rfl rfl (Srcs.cons (Src.pre rfl rfl) Srcs.nil) (S_plain rfl (op_move (Has.t rfl))) ?_
      refine D_step (Ei := [(53, _), (54, _)]) rfl rfl (Srcs.cons (Src.op 9 rfl rfl) (Srcs.cons (Src.op 10 rfl rfl) Srcs.nil)) (S_plain rfl (op_addN (Has.t rfl) (Has.t rfl) (by show _ < 9223372036854775808; omega))) ?_
      refine D_step (Ei := [(50, _), (55, _)]) rfl rfl (Srcs.cons (Src.op 6 rfl rfl) (Srcs.cons (Src.op 11 rfl rfl) Srcs.nil)) (S_plain rfl (op_call Tryz.call186 c_pick ⟨(Has.t rfl), (Has.t rfl), trivial⟩)) ?_
      refine D_step (Ei := [(56, _)]) rfl rfl (Srcs.cons (Src.op 12 rfl rfl) Srcs.nil) (S_plain rfl (op_call Tryz.call187 c_small ⟨(Has.t rfl), trivial⟩)) ?_
      refine D_done mixed rfl (by kernel_rfl) (F_val (F_val (F_val (F_val (F_val (F_val (F_val (F_val (F_val (F_val (F_val (F_val (F_val (F_val (F_nil ?_)))))))))))))))
      refine R_op rfl rfl rfl (op_idxO Tryz.runUnderlying22 Tryz.sizeOf27 (Has.t rfl) (Has.t rfl) rfl (i := 3) rfl (by rw [mix_len]; omega) rfl) ?_
      refine R_stO Tryz.sizeOf27 (Has.t rfl) (Has.t rfl) (El.ag rfl) (i := 3) rfl rfl (by rw [mix_len]; omega) rfl ?_
      refine R_nil ?_
      refine T_blk ?_
      refine T_region ?_
      refine R_op rfl rfl rfl (op_addN (Has.t rfl) (Has.cN 1) (by show _ < 9223372036854775808; first | omega | (simp only [lim]; omega))) ?_
      refine R_op rfl rfl rfl (op_move (Has.t rfl)) ?_
      refine R_nil ?_
      refine T_again (j + 1) he (by omega) (Sub.cons rfl (Sub.cons rfl (Sub.cons rfl (Sub.cons rfl (Sub.cons rfl (Sub.cons rfl (Sub.cons rfl (Sub.cons rfl (Sub.cons rfl Sub.nil))))))))) (HSub.cons (box_of rfl) (HSub.cons (fun _ _ _ h => h) (HSub.cons (fun _ _ _ h => h) (HSub.cons (rowO_of (mix_set (f := fun j => RatT (smR (pkR sl (plN a * i + j)))))) HSub.nil))))
    · simp only [decide_eq_false_iff_not] at he
      have hjn : j = plN a := Nat.le_antisymm hj (by omega)
      rw [hjn, mix_fin]
      refine T_exit rfl ?_
      refine T_blk ?_
      refine T_unfocus 2 3 rfl rfl (by decide) (by rw [mix_len]; omega) ?_
      refine T_region ?_
      refine R_op rfl rfl rfl (op_addN (Has.t rfl) (Has.cN 1) (by show _ < 9223372036854775808; first | omega | (simp only [lim]; omega))) ?_
      refine R_op rfl rfl rfl (op_move (Has.t rfl)) ?_
      refine R_nil ?_
      refine T_keep [0, 1, 2] rfl (by decide) ?_
      refine T_again (i + 1) hd (by omega) (Sub.cons rfl (Sub.cons rfl (Sub.cons rfl (Sub.cons rfl (Sub.cons rfl (Sub.cons rfl Sub.nil)))))) (HSub.cons (box_of rfl) (HSub.cons (fun _ _ _ h => h) (HSub.cons (matO_of (mix_set (f := (fun i => tab (plN a) fun j => RatT (smR (pkR sl (plN a * i + j))))))) HSub.nil)))
  · simp only [decide_eq_false_iff_not] at hd
    have hin : i = plN a := Nat.le_antisymm hi (by omega)
    rw [hin, mix_fin, mix_fin]
    refine T_exit rfl ?_
    refine T_freeze (i := 1) (tt := 5) rfl rfl frz_row ?_
    refine T_freeze (i := 2) (tt := 6) rfl rfl (frzG (tab_len _ _).symm) ?_
    refine T_seq ?_
    refine T_region ?_
    refine R_op rfl rfl rfl (op_move (Has.t rfl)) ?_
    refine R_op rfl rfl rfl (op_move (Has.t rfl)) ?_
    refine R_op rfl rfl rfl (op_assign (Has.t rfl)) ?_
    refine R_op rfl rfl rfl (op_assign (Has.t rfl)) ?_
    refine R_nil ?_
    refine T_ret2 rfl (rv_to (rv_tmp rfl) ?_) (rv_to (rv_tmp rfl) ?_)
    · exact (slT_of (by rw [plZ, tab_map]))
    · exact (slT_of (plS_rows a sl))
set_option maxRecDepth 20000 in
theorem c_Build {a : Nat} {zl sl : List Rt} (ha : a < 256) : Fun Tryz.prog 61 [PartT a zl sl] (TupT [NetT ((plZ a zl).map Rt.q) (rq (plS a sl)), RNetT ((plZ a zl).map Rt.q) (rq (plS a sl)), BoolT true]) := by
  have hn : plN a ≤ 4 := by unfold plN; omega
  have herr := pl_err a zl sl
  have hzl : (plZ a zl).length = plN a := tab_len _ _
  have hsl : (plS a sl).length = plN a := tab_len _ _
  have hall : ∀ r, r ∈ plS a sl → r.length ≤ 1000 := fun r hr => by obtain ⟨i, _, rfl⟩ := tab_mem.1 hr; rw [tab_len]; omega
  have hsh := (netErr_ok herr).2.2.1
  have z1 : ((plZ a zl).map Rt.q).length ≤ 1000 := by rw [List.length_map, hzl]; omega
  have s1 : (rq (plS a sl)).length ≤ 1000 := by rw [List.length_map, hsl]; omega
  have hcv : ∀ v V, (TupT [NetT (okL (netErr ((plZ a zl).map Rt.q) (rq (plS a sl))) ((plZ a zl).map Rt.q)) (okL (netErr ((plZ a zl).map Rt.q) (rq (plS a sl))) (rq (plS a sl))), IntT .i64 (netErr ((plZ a zl).map Rt.q) (rq (plS a sl)))]).p v V → (TupT [NetT ((plZ a zl).map Rt.q) (rq (plS a sl)), IntT .i64 0]).p v V := by rw [herr]; exact fun _ _ h => h
  have hcv2 : ∀ v V, (TupT [RNetT (okL (netErr ((plZ a zl).map Rt.q) (rq (plS a sl))) ((plZ a zl).map Rt.q)) (okL (netErr ((plZ a zl).map Rt.q) (rq (plS a sl))) (rq (plS a sl))), IntT .i64 (netErr ((plZ a zl).map Rt.q) (rq (plS a sl)))]).p v V → (TupT [RNetT ((plZ a zl).map Rt.q) (rq (plS a sl)), IntT .i64 0]).p v V := by rw [herr]; exact fun _ _ h => h
  refine Fun.intro Tryz.func61 rfl Tryz.ntmps61 rfl (fun cx => ?_)
  refine T_seq ?_
  refine T_region ?_
  refine R_new rfl rfl rfl (new_box (Has.t rfl)) (fun B1 => ?_)
  refine R_new rfl rfl rfl (new_alloc (Ts := [Is (.slice none 0 0), Is (.slice none 0 0)]) Tryz.zeroValue33 rfl (fun V => Cells.cons' ⟨rfl, trivial⟩ (Cells.cons' ⟨rfl, trivial⟩ (Cells.nil)))) (fun B2 => ?_)
  refine R_new rfl rfl rfl (new_alloc (Ts := [Is (.slice none 0 0), Is (.slice none 0 0)]) Tryz.zeroValue39 rfl (fun V => Cells.cons' ⟨rfl, trivial⟩ (Cells.cons' ⟨rfl, trivial⟩ (Cells.nil)))) (fun B3 => ?_)
  refine R_op rfl rfl rfl (op_assign Has.c) ?_
  refine R_nil ?_
  refine T_seq ?_
  refine T_region ?_
  refine R_op rfl rfl rfl (op_ldBA Tryz.isAgg125 Tryz.sizeOf125 (Has.t rfl) (i := 0) rfl rfl rfl) ?_
  refine R_op rfl rfl rfl (op_call Tryz.call135 (c_Plain ha) ⟨(Has.t rfl), trivial⟩) ?_
  refine R_op rfl rfl rfl (op_move (Has.t rfl)) ?_
  refine R_op rfl rfl rfl (op_extract (Has.t rfl) rfl) ?_
  refine R_op rfl rfl rfl (op_extract (Has.t rfl) rfl) ?_
  refine R_op rfl rfl rfl (op_assign (Has.t rfl)) ?_
  refine R_op rfl rfl rfl (op_assign (Has.t rfl)) ?_
  refine R_nil ?_
  refine T_seq ?_
  refine T_region ?_
  refine R_op rfl rfl rfl (op_move (Has.t rfl)) ?_
  refine R_op rfl rfl rfl (op_call Tryz.call30 (c_lawList (by omega)) ⟨(Has.t rfl), trivial⟩) ?_
  refine R_op rfl rfl rfl (op_move (Has.t rfl)) ?_
  refine R_op rfl rfl rfl (op_call Tryz.call31 (c_lawRows (by omega) hall) ⟨(Has.t rfl), trivial⟩) ?_
  refine R_op rfl rfl rfl (op_call Tryz.call29 (Fun.imp (c_netNew (z := ((plZ a zl).map Rt.q)) (s := (rq (plS a sl))) (L := 2) FitL.rt (by decide) z1 s1) hcv) ⟨(Has.t rfl), (Has.t rfl), trivial⟩) ?_
  refine R_op rfl rfl rfl (op_move (Has.t rfl)) ?_
  refine R_op rfl rfl rfl (op_extract (Has.t rfl) rfl) ?_
  refine R_op rfl rfl rfl (op_extract (Has.t rfl) rfl) ?_
  refine R_new rfl rfl rfl (new_alloc (Ts := [Is (.slice none 0 0), Is (.slice none 0 0)]) Tryz.zeroValue33 rfl (fun V => Cells.cons' ⟨rfl, trivial⟩ (Cells.cons' ⟨rfl, trivial⟩ (Cells.nil)))) (fun B7 => ?_)
  refine R_stA Tryz.sizeOf33 (Has.t rfl) (Has.t rfl) rfl (i := 3) rfl (Nat.le_of_ble_eq_true rfl) rfl rfl ?_
  refine R_op rfl rfl rfl (op_assign (Has.t rfl)) ?_
  refine R_nil ?_
  refine T_seq ?_
  refine T_region ?_
  refine R_op rfl rfl rfl (op_move (Has.t rfl)) ?_
  refine R_op rfl rfl rfl (op_call Tryz.call68 (c_refList4 (by omega)) ⟨(Has.t rfl), trivial⟩) ?_
  refine R_op rfl rfl rfl (op_move (Has.t rfl)) ?_
  refine R_op rfl rfl rfl (op_call Tryz.call70 (c_refRows4 (by omega) hall) ⟨(Has.t rfl), trivial⟩) ?_
  refine R_op rfl rfl rfl (op_call Tryz.call69 (Fun.imp (c_rnetNew (z := ((plZ a zl).map Rt.q)) (s := (rq (plS a sl))) (L := 2) FitL.rt (by decide) z1 s1) hcv2) ⟨(Has.t rfl), (Has.t rfl), trivial⟩) ?_
  refine R_op rfl rfl rfl (op_move (Has.t rfl)) ?_
  refine R_op rfl rfl rfl (op_extract (Has.t rfl) rfl) ?_
  refine R_op rfl rfl rfl (op_extract (Has.t rfl) rfl) ?_
  refine R_new rfl rfl rfl (new_alloc (Ts := [Is (.slice none 0 0), Is (.slice none 0 0)]) Tryz.zeroValue39 rfl (fun V => Cells.cons' ⟨rfl, trivial⟩ (Cells.cons' ⟨rfl, trivial⟩ (Cells.nil)))) (fun B9 => ?_)
  refine R_stA Tryz.sizeOf39 (Has.t rfl) (Has.t rfl) rfl (i := 4) rfl (Nat.le_of_ble_eq_true rfl) rfl rfl ?_
  refine R_op rfl rfl rfl (op_assign (Has.t rfl)) ?_
  refine R_nil ?_
  refine T_seq ?_
  refine Y.D_start (m := 11) [(9, 1, box B2 33 [NumsT ((plZ a zl).map Rt.q), NumM (rq (plS a sl))]), (10, 2, box B3 39 [QsT ((plZ a zl).map Rt.q), QM (rq (plS a sl))])] ?_
  refine Y.D_step (Ei := [(7, _)]) rfl rfl (Y.Srcs.cons (Y.Src.pre rfl rfl) Y.Srcs.nil) rfl rfl (by kernel_rfl) (S_plain rfl (op_ldBA Tryz.isAgg33 Tryz.sizeOf33 (Has.t rfl) (i := 3) rfl rfl rfl)) ?_
  refine Y.D_hide (Ei := [(9, _)]) rfl rfl (Y.Srcs.cons (Y.Src.pre rfl rfl) Y.Srcs.nil) rfl rfl (S_plain rfl (op_ldBA Tryz.isAgg39 Tryz.sizeOf39 (Has.t rfl) (i := 4) rfl rfl rfl)) ?_
  refine Y.D_step (Ei := [(8, _)]) rfl rfl (Y.Srcs.cons (Y.Src.pre rfl rfl) Y.Srcs.nil) rfl rfl (by kernel_rfl) (S_plain rfl (op_move (Has.t rfl))) ?_
  refine Y.D_step (Ei := [(34, _)]) rfl rfl (Y.Srcs.cons (Y.Src.op 2 rfl rfl) Y.Srcs.nil) rfl rfl (by kernel_rfl) (S_plain rfl (op_eql (Has.t rfl) Has.c)) ?_
  refine Y.D_step (Ei := [(35, _)]) rfl rfl (Y.Srcs.cons (Y.Src.op 3 rfl rfl) Y.Srcs.nil) rfl rfl (by kernel_rfl) (S_plain rfl (op_move (Has.t rfl))) ?_
  refine Y.D_step (Ei := [(7, _), (36, _)]) rfl rfl (Y.Srcs.cons (Y.Src.pre rfl rfl) (Y.Srcs.cons (Y.Src.op 4 rfl rfl) Y.Srcs.nil)) rfl rfl (by kernel_rfl) (S_when rfl rfl (Has.t rfl) (fun h => op_ldBA Tryz.isAgg33 Tryz.sizeOf33 (Has.t rfl) (i := 3) rfl rfl rfl)) ?_
  refine Y.D_step (Ei := [(9, _), (36, _)]) rfl rfl (Y.Srcs.cons (Y.Src.pre rfl rfl) (Y.Srcs.cons (Y.Src.op 4 rfl rfl) Y.Srcs.nil)) rfl rfl (by kernel_rfl) (S_when rfl rfl (Has.t rfl) (fun h => op_ldBA Tryz.isAgg39 Tryz.sizeOf39 (Has.t rfl) (i := 4) rfl rfl rfl)) ?_
  refine Y.D_step (Ei := [(37, _), (38, _), (36, _)]) rfl rfl (Y.Srcs.cons (Y.Src.op 5 rfl rfl) (Y.Srcs.cons (Y.Src.op 6 rfl rfl) (Y.Srcs.cons (Y.Src.op 4 rfl rfl) Y.Srcs.nil))) rfl rfl (by kernel_rfl) (S_when rfl rfl (Has.t rfl) (fun h => op_call Tryz.call136 (c_is4 (z := ((plZ a zl).map Rt.q)) (s := (rq (plS a sl))) (L := 2) FitL.rt FitM.rt (by decide) (by decide) hsh z1) ⟨(Has.w rfl h), (Has.w rfl h), trivial⟩)) ?_
  refine Y.D_hide (Ei := [(36, _), (39, _)]) rfl rfl (Y.Srcs.cons (Y.Src.op 4 rfl rfl) (Y.Srcs.cons (Y.Src.op 7 rfl rfl) Y.Srcs.nil)) rfl rfl (S_plain rfl (op_and (Has.t rfl) (fun h => (Has.w rfl h)))) ?_
  refine Y.D_putI (Ei := [(2, _), (32, _)]) 1 rfl rfl rfl (Y.Srcs.cons (Y.Src.pre rfl rfl) (Y.Srcs.cons (Y.Src.op 0 rfl rfl) Y.Srcs.nil)) (.head _) rfl (P_stA Tryz.sizeOf33 (Has.t rfl) (Has.t rfl) rfl (i := 0) rfl (Nat.le_of_ble_eq_true rfl) rfl rfl) ?_
  refine Y.D_putI (Ei := [(3, _), (33, _)]) 2 rfl rfl rfl (Y.Srcs.cons (Y.Src.pre rfl rfl) (Y.Srcs.cons (Y.Src.op 1 rfl rfl) Y.Srcs.nil)) (.tail _ (.head _)) rfl (P_stA Tryz.sizeOf39 (Has.t rfl) (Has.t rfl) rfl (i := 0) rfl (Nat.le_of_ble_eq_true rfl) rfl rfl) ?_
  refine Y.D_done mixed rfl (by kernel_rfl) rfl (by simp [Y.okP]) rfl rfl (Y.F_val (Y.F_val (Y.F_val (Y.F_val (Y.F_val (Y.F_val (Y.F_val (Y.F_val (Y.F_val (Y.F_putI (Y.F_putI (Y.F_nil ?_))))))))))))
  refine R_op rfl rfl rfl (op_assign (Has.t rfl)) ?_
  refine R_nil ?_
  refine T_ret3 rfl (rv_cell Tryz.isAgg33 Tryz.sizeOf33 rfl (i := 1) rfl rfl) (rv_cell Tryz.isAgg39 Tryz.sizeOf39 rfl (i := 2) rfl rfl) (rv_to (rv_tmp rfl) ?_)
  exact (bool_of (by simp))
set_option maxHeartbeats 1000000 in
set_option maxRecDepth 20000 in
theorem c_NetworkDrive {a : Nat} {zl sl w : List Rt} (ha : a < 256) : Fun Tryz.prog 12 [PartT a zl sl, RatsT w] (BoolT true) := by
  refine Fun.intro Tryz.func12 rfl Tryz.ntmps12 rfl (fun cx => ?_)
  refine T_seq ?_
  refine T_region ?_
  refine R_new rfl rfl rfl (new_box (Has.t rfl)) (fun B2 => ?_)
  refine R_op rfl rfl rfl (op_assign Has.c) ?_
  refine R_nil ?_
  refine T_seq ?_
  refine T_seq ?_
  refine T_region ?_
  refine R_op rfl rfl rfl (op_move (Has.t rfl)) ?_
  refine R_op rfl rfl rfl (op_len Tryz.runUnderlying22 (Has.t rfl) len_map) ?_
  refine R_op rfl rfl rfl (op_gtrN (Has.t rfl) (Has.cN 9)) ?_
  refine R_nil ?_
  refine T_cond (Has.t rfl) (fun hb => ?_) (fun hb => ?_)
  · refine T_seq ?_
    refine T_region ?_
    refine R_op rfl rfl rfl (op_call Tryz.call65 c_awake4 trivial) ?_
    refine R_op rfl rfl rfl (op_assign (Has.t rfl)) ?_
    refine R_nil ?_
    exact T_ret1 rfl (rv_tmp rfl)
  · have hw : w.length ≤ 9 := by simp only [decide_eq_false_iff_not] at hb; omega
    have herr := pl_err a zl sl
    obtain ⟨h1, h8, hsh, _⟩ := netErr_ok herr
    have hwf : FitL (w.map Rt.q) 2 := FitL.rt
    have hwl : (w.map Rt.q).length ≤ 1000 := by simp; omega
    have hDf : FitL (okL (drvE ((plZ a zl).map Rt.q).length (w.map Rt.q).length) (drvX (rq (plS a sl)) (w.map Rt.q) ((plZ a zl).map Rt.q).length)) 100 := okL_fit ((drvX_fit FitM.rt hwf (by decide)).le (by omega))
    have hDl : (okL (drvE ((plZ a zl).map Rt.q).length (w.map Rt.q).length) (drvX (rq (plS a sl)) (w.map Rt.q) ((plZ a zl).map Rt.q).length)).length ≤ 1000 := Nat.le_trans (okL_len _ _) (by rw [drvX, tab_len]; omega)
    refine T_skip ?_
    refine T_seq ?_
    refine T_region ?_
    refine R_op rfl rfl rfl (op_ldBA Tryz.isAgg125 Tryz.sizeOf125 (Has.t rfl) (i := 0) rfl rfl rfl) ?_
    refine R_op rfl rfl rfl (op_call Tryz.call61 (c_Build ha) ⟨(Has.t rfl), trivial⟩) ?_
    refine R_op rfl rfl rfl (op_move (Has.t rfl)) ?_
    refine R_op rfl rfl rfl (op_extract (Has.t rfl) rfl) ?_
    refine R_op rfl rfl rfl (op_extract (Has.t rfl) rfl) ?_
    refine R_op rfl rfl rfl (op_extract (Has.t rfl) rfl) ?_
    refine R_new rfl rfl rfl (new_alloc (Ts := [Is (.slice none 0 0), Is (.slice none 0 0)]) Tryz.zeroValue33 rfl (fun V => Cells.cons' ⟨rfl, trivial⟩ (Cells.cons' ⟨rfl, trivial⟩ (Cells.nil)))) (fun B5 => ?_)
    refine R_new rfl rfl rfl (new_alloc (Ts := [Is (.slice none 0 0), Is (.slice none 0 0)]) Tryz.zeroValue39 rfl (fun V => Cells.cons' ⟨rfl, trivial⟩ (Cells.cons' ⟨rfl, trivial⟩ (Cells.nil)))) (fun B6 => ?_)
    refine R_stA Tryz.sizeOf33 (Has.t rfl) (Has.t rfl) rfl (i := 1) rfl (Nat.le_of_ble_eq_true rfl) rfl rfl ?_
    refine R_stA Tryz.sizeOf39 (Has.t rfl) (Has.t rfl) rfl (i := 2) rfl (Nat.le_of_ble_eq_true rfl) rfl rfl ?_
    refine R_op rfl rfl rfl (op_assign (Has.t rfl)) ?_
    refine R_nil ?_
    refine T_seq ?_
    refine T_seq ?_
    refine T_region ?_
    refine R_op rfl rfl rfl (op_move (Has.t rfl)) ?_
    refine R_op rfl rfl rfl (op_not (Has.t rfl)) ?_
    refine R_nil ?_
    refine T_condF (Has.t rfl) (by rfl) ?_
    refine T_skip ?_
    refine T_seq ?_
    refine D_start (m := 8) ?_
    refine D_step (Ei := [(5, _)]) rfl rfl (Srcs.cons (Src.pre rfl rfl) Srcs.nil) (S_plain rfl (op_ldBA Tryz.isAgg33 Tryz.sizeOf33 (Has.t rfl) (i := 1) rfl rfl rfl)) ?_
    refine D_step (Ei := [(1, _)]) rfl rfl (Srcs.cons (Src.pre rfl rfl) Srcs.nil) (S_plain rfl (op_move (Has.t rfl))) ?_
    refine D_step (Ei := [(26, _)]) rfl rfl (Srcs.cons (Src.op 1 rfl rfl) Srcs.nil) (S_plain rfl (op_call Tryz.call30 (c_lawList (by omega)) ⟨(Has.t rfl), trivial⟩)) ?_
    refine D_step (Ei := [(25, _), (27, _)]) rfl rfl (Srcs.cons (Src.op 0 rfl rfl) (Srcs.cons (Src.op 2 rfl rfl) Srcs.nil)) (S_plain rfl (op_call Tryz.call66 (c_Drive (z := ((plZ a zl).map Rt.q)) (s := (rq (plS a sl))) (a := w.map Rt.q) (L := 2) hsh FitM.rt hwf (by decide) (by decide) h1 (by omega)) ⟨(Has.t rfl), (Has.t rfl), trivial⟩)) ?_
    refine D_step (Ei := [(28, _)]) rfl rfl (Srcs.cons (Src.op 3 rfl rfl) Srcs.nil) (S_plain rfl (op_move (Has.t rfl))) ?_
    refine D_step (Ei := [(24, _)]) rfl rfl (Srcs.cons (Src.op 4 rfl rfl) Srcs.nil) (S_plain rfl (op_extract (Has.t rfl) rfl)) ?_
    refine D_step (Ei := [(24, _)]) rfl rfl (Srcs.cons (Src.op 4 rfl rfl) Srcs.nil) (S_plain rfl (op_extract (Has.t rfl) rfl)) ?_
    refine D_step (Ei := [(29, _)]) rfl rfl (Srcs.cons (Src.op 5 rfl rfl) Srcs.nil) (S_plain rfl (op_assign (Has.t rfl))) ?_
    refine D_done mixed rfl (by kernel_rfl) (F_val (F_val (F_val (F_val (F_val (F_val (F_val (F_val (F_nil ?_)))))))))
    refine R_op rfl rfl rfl (op_assign (Has.t rfl)) ?_
    refine R_nil ?_
    refine T_seq ?_
    refine D_start (m := 8) ?_
    refine D_step (Ei := [(6, _)]) rfl rfl (Srcs.cons (Src.pre rfl rfl) Srcs.nil) (S_plain rfl (op_ldBA Tryz.isAgg39 Tryz.sizeOf39 (Has.t rfl) (i := 2) rfl rfl rfl)) ?_
    refine D_step (Ei := [(1, _)]) rfl rfl (Srcs.cons (Src.pre rfl rfl) Srcs.nil) (S_plain rfl (op_move (Has.t rfl))) ?_
    refine D_step (Ei := [(33, _)]) rfl rfl (Srcs.cons (Src.op 1 rfl rfl) Srcs.nil) (S_plain rfl (op_call Tryz.call68 (c_refList4 (by omega)) ⟨(Has.t rfl), trivial⟩)) ?_
    refine D_step (Ei := [(32, _), (34, _)]) rfl rfl (Srcs.cons (Src.op 0 rfl rfl) (Srcs.cons (Src.op 2 rfl rfl) Srcs.nil)) (S_plain rfl (op_call Tryz.call67 (c_rDrive (z := ((plZ a zl).map Rt.q)) (s := (rq (plS a sl))) (a := w.map Rt.q) (L := 2) hsh FitM.rt hwf (by decide) (by decide) h1 (by omega)) ⟨(Has.t rfl), (Has.t rfl), trivial⟩)) ?_
    refine D_step (Ei := [(35, _)]) rfl rfl (Srcs.cons (Src.op 3 rfl rfl) Srcs.nil) (S_plain rfl (op_move (Has.t rfl))) ?_
    refine D_step (Ei := [(31, _)]) rfl rfl (Srcs.cons (Src.op 4 rfl rfl) Srcs.nil) (S_plain rfl (op_extract (Has.t rfl) rfl)) ?_
    refine D_step (Ei := [(31, _)]) rfl rfl (Srcs.cons (Src.op 4 rfl rfl) Srcs.nil) (S_plain rfl (op_extract (Has.t rfl) rfl)) ?_
    refine D_step (Ei := [(36, _)]) rfl rfl (Srcs.cons (Src.op 5 rfl rfl) Srcs.nil) (S_plain rfl (op_assign (Has.t rfl))) ?_
    refine D_done mixed rfl (by kernel_rfl) (F_val (F_val (F_val (F_val (F_val (F_val (F_val (F_val (F_nil ?_)))))))))
    refine R_op rfl rfl rfl (op_assign (Has.t rfl)) ?_
    refine R_nil ?_
    refine T_seq ?_
    refine T_region ?_
    refine R_op rfl rfl rfl (op_move (Has.t rfl)) ?_
    refine R_op rfl rfl rfl (op_move (Has.t rfl)) ?_
    refine R_op rfl rfl rfl (op_eql (Has.t rfl) (Has.t rfl)) ?_
    refine R_op rfl rfl rfl (op_move (Has.t rfl)) ?_
    refine R_step rfl rfl (S_when rfl rfl (Has.t rfl) (fun h => op_move (Has.t rfl))) ?_
    refine R_step rfl rfl (S_when rfl rfl (Has.t rfl) (fun h => op_move (Has.t rfl))) ?_
    refine R_step rfl rfl (S_when rfl rfl (Has.t rfl) (fun h => op_call Tryz.call55 (c_AreAll hDf (by decide) (by decide) hDl) ⟨(Has.w rfl h), (Has.w rfl h), trivial⟩)) ?_
    refine R_op rfl rfl rfl (op_and (Has.t rfl) (fun h => (Has.w rfl h))) ?_
    refine R_op rfl rfl rfl (op_move (Has.t rfl)) ?_
    refine R_step rfl rfl (S_when rfl rfl (Has.t rfl) (fun h => op_call Tryz.call65 c_awake4 trivial)) ?_
    refine R_op rfl rfl rfl (op_and (Has.t rfl) (fun h => (Has.w rfl h))) ?_
    refine R_op rfl rfl rfl (op_assign (Has.t rfl)) ?_
    refine R_nil ?_
    refine T_ret1 rfl (rv_to (rv_tmp rfl) ?_)
    exact (bool_of (by simp))
end Go.Proofs.YtppibhcfaahgpaaGreat
namespace Go.Proofs.YtppibhcfaahgpaaGreat
open Go Go.ChangeShapes Go.WideShapes Go.ChangeAt Go.RowKit Go.Deep
section
variable {H : Type} {enc : TypeId × Value → H} {W : World} {base : Nat} {sp : Nat → Bool} {held : Bool}
set_option maxRecDepth 100000 in
theorem s125 : S3 Tryz.prog 125 5 22 22 := ⟨⟨_, _, _, Tryz.underlying125, rfl, rfl, rfl, rfl, rfl, rfl⟩, by kernel_rfl, by kernel_rfl, by kernel_rfl, by kernel_rfl⟩
set_option maxRecDepth 100000 in
theorem trod_partT {b0 : Nat} {v : Value} {d : DataW H} {p : List MemPlace} (ho : Value.okWide Tryz.prog W .any b0 125 v) (h : DataW.Trod enc Tryz.prog W base sp held 125 v d p) : ∃ (a : Nat) (zl sl : List Rt), (AggT [NT .u8 a, RatsT zl, RatsT sl]).p v (hv W) ∧ a < 256 := by
  obtain ⟨cs, rfl, _⟩ := okWide_struct Tryz.underlying125 ho
  obtain ⟨n, hn⟩ := h
  obtain ⟨x0, x1, x2, m, y0, y1, y2, hcs, h0, h1, h2⟩ := s125.open hn
  obtain ⟨i, e0, _, w⟩ := DataW.trod_int Tryz.underlying5 h0
  obtain ⟨v1, z, e1, k1⟩ := open_rats h1
  obtain ⟨v2, s, e2, k2⟩ := open_rats h2
  simp only [List.cons.injEq, and_true] at e0 e1 e2
  subst e0 e1 e2
  have hw := wf_u8 w
  have e : ((i.toNat : Nat) : Int) = i := by omega
  have hi : ∀ V, (NT .u8 i.toNat).p (.int .u8 i) V := fun V => by rw [show NT .u8 i.toNat = IntT .u8 i from congrArg (IntT .u8) e]; rfl
  have hcs2 : cs.toList = [.int .u8 i, x1, x2] := hcs
  exact ⟨i.toNat, z, s, ⟨cs.toList, rfl, by rw [hcs2]; exact Cells.cons' ⟨hi _, trivial⟩ (Cells.cons' ⟨k1, (sl_cells k1).2⟩ (Cells.cons' ⟨k2, (sl_cells k2).2⟩ Cells.nil))⟩, by omega⟩
end
end Go.Proofs.YtppibhcfaahgpaaGreat
