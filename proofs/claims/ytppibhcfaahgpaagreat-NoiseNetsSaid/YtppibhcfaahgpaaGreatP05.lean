/- What functions of the program compute, proved by walks over their code, and the plain mathematics of it; a part of the proof in the last text. -/
import Derived.Test.YtppibhcfaahgpaaGreatP04
set_option linter.unusedVariables false
set_option linter.unusedSimpArgs false
namespace Go.Proofs.YtppibhcfaahgpaaGreat
open Go Go.RowKit
set_option maxRecDepth 20000 in
theorem c_made {z : List Rt} {s c : List (List Rt)} (hf : fewB z s c = true) : Fun Tryz.prog 16 [LawT z s c] (TupT [NoisyT (mdZ z s c) (mdS z s c) (mdC z s c), RNoisyT (mdZ z s c) (mdS z s c) (mdC z s c), BoolT true]) := by
  obtain ⟨hz, hs, hc, hsr, hcr⟩ := fewB_ok hf
  have hsr2 : ∀ r, r ∈ s → r.length ≤ 1000 := fun r h => Nat.le_trans (hsr r h) (by decide)
  have hcr2 : ∀ r, r ∈ c → r.length ≤ 1000 := fun r h => Nat.le_trans (hcr r h) (by decide)
  have hz1 : (z.map Rt.q).length ≤ 1000 := by simp; omega
  have hs1 : (rq s).length ≤ 1000 := by simp; omega
  have hc1 : (rq c).length ≤ 1000 := by simp; omega
  have hz2 : (okL (netErr (z.map Rt.q) (rq s)) (z.map Rt.q)).length ≤ 1000 := Nat.le_trans (okL_len _ _) hz1
  have hfit : FitL (z.map Rt.q) 2 := FitL.rt
  refine Fun.intro Tryz.func16 rfl Tryz.ntmps16 rfl (fun cx => ?_)
  refine T_seq ?_
  refine T_region ?_
  refine R_new rfl rfl rfl (new_box (Has.t rfl)) (fun B1 => ?_)
  refine R_new rfl rfl rfl (new_alloc (Ts := [Is (.slice none 0 0), Is (.slice none 0 0), Is (.slice none 0 0)]) Tryz.zeroValue35 rfl (fun V => Cells.cons' ⟨rfl, trivial⟩ (Cells.cons' ⟨rfl, trivial⟩ (Cells.cons' ⟨rfl, trivial⟩ (Cells.nil))))) (fun B2 => ?_)
  refine R_new rfl rfl rfl (new_alloc (Ts := [Is (.slice none 0 0), Is (.slice none 0 0), Is (.slice none 0 0)]) Tryz.zeroValue41 rfl (fun V => Cells.cons' ⟨rfl, trivial⟩ (Cells.cons' ⟨rfl, trivial⟩ (Cells.cons' ⟨rfl, trivial⟩ (Cells.nil))))) (fun B3 => ?_)
  refine R_op rfl rfl rfl (op_assign Has.c) ?_
  refine R_nil ?_
  refine T_seq ?_
  refine Y.D_start (m := 12) [] ?_
  refine Y.D_hide (Ei := [(1, _)]) rfl rfl (Y.Srcs.cons (Y.Src.pre rfl rfl) Y.Srcs.nil) rfl rfl (S_plain rfl (op_fldB fa_25_0 (Has.t rfl) rfl)) ?_
  refine Y.D_hide (Ei := [(14, _)]) rfl rfl (Y.Srcs.cons (Y.Src.op 0 rfl rfl) Y.Srcs.nil) rfl rfl (S_plain rfl (op_ldB Tryz.isAgg22 Tryz.sizeOf22 (Has.t rfl) (i := 0) rfl rfl)) ?_
  refine Y.D_hide (Ei := [(15, _)]) rfl rfl (Y.Srcs.cons (Y.Src.op 1 rfl rfl) Y.Srcs.nil) rfl rfl (S_plain rfl (op_call Tryz.call30 (c_lawList (by omega)) ⟨(Has.t rfl), trivial⟩)) ?_
  refine Y.D_hide (Ei := [(1, _)]) rfl rfl (Y.Srcs.cons (Y.Src.pre rfl rfl) Y.Srcs.nil) rfl rfl (S_plain rfl (op_fldB fa_25_1 (Has.t rfl) rfl)) ?_
  refine Y.D_hide (Ei := [(17, _)]) rfl rfl (Y.Srcs.cons (Y.Src.op 3 rfl rfl) Y.Srcs.nil) rfl rfl (S_plain rfl (op_ldB Tryz.isAgg23 Tryz.sizeOf23 (Has.t rfl) (i := 0) rfl rfl)) ?_
  refine Y.D_hide (Ei := [(18, _)]) rfl rfl (Y.Srcs.cons (Y.Src.op 4 rfl rfl) Y.Srcs.nil) rfl rfl (S_plain rfl (op_call Tryz.call31 (c_lawRows (by omega) (by assumption)) ⟨(Has.t rfl), trivial⟩)) ?_
  refine Y.D_hide (Ei := [(16, _), (19, _)]) rfl rfl (Y.Srcs.cons (Y.Src.op 2 rfl rfl) (Y.Srcs.cons (Y.Src.op 5 rfl rfl) Y.Srcs.nil)) rfl rfl (S_plain rfl (op_call Tryz.call29 (c_netNew (L := 2) (by assumption) (by omega) (by omega) (by omega)) ⟨(Has.t rfl), (Has.t rfl), trivial⟩)) ?_
  refine Y.D_hide (Ei := [(20, _)]) rfl rfl (Y.Srcs.cons (Y.Src.op 6 rfl rfl) Y.Srcs.nil) rfl rfl (S_plain rfl (op_move (Has.t rfl))) ?_
  refine Y.D_hide (Ei := [(13, _)]) rfl rfl (Y.Srcs.cons (Y.Src.op 7 rfl rfl) Y.Srcs.nil) rfl rfl (S_plain rfl (op_extract (Has.t rfl) rfl)) ?_
  refine Y.D_hide (Ei := [(13, _)]) rfl rfl (Y.Srcs.cons (Y.Src.op 7 rfl rfl) Y.Srcs.nil) rfl rfl (S_plain rfl (op_extract (Has.t rfl) rfl)) ?_
  refine Y.D_newp (Ei := []) (fun bb => box bb 33 [NumsT (okL (netErr (z.map Rt.q) (rq s)) (z.map Rt.q)), NumM (okL (netErr (z.map Rt.q) (rq s)) (rq s))]) 11 rfl rfl rfl Y.Srcs.nil rfl rfl (by kernel_rfl) (new_alloc (Ts := [Is (.slice none 0 0), Is (.slice none 0 0)]) Tryz.zeroValue33 rfl (fun V => Cells.cons' ⟨rfl, trivial⟩ (Cells.cons' ⟨rfl, trivial⟩ (Cells.nil)))) ?_
  refine Y.D_putN (Ei := [(21, _)]) 10 rfl rfl rfl rfl rfl rfl (Y.Srcs.cons (Y.Src.op 8 rfl rfl) Y.Srcs.nil) (fun bb => P_stA Tryz.sizeOf33 (Has.t rfl) (Has.t rfl) rfl (i := 0) rfl (Nat.le_of_ble_eq_true rfl) rfl rfl) ?_
  refine Y.D_done mixed rfl (by kernel_rfl) rfl (by simp [Y.okP]) rfl rfl (Y.F_val (Y.F_val (Y.F_val (Y.F_val (Y.F_val (Y.F_val (Y.F_val (Y.F_val (Y.F_val (Y.F_val (Y.F_newp (fun B5 => Y.F_putN (Y.F_nil ?_)))))))))))))
  refine R_op rfl rfl rfl (op_assign (Has.t rfl)) ?_
  refine R_nil ?_
  refine T_seq ?_
  refine Y.D_start (m := 10) [] ?_
  refine Y.D_hide (Ei := [(5, _)]) rfl rfl (Y.Srcs.cons (Y.Src.pre rfl rfl) Y.Srcs.nil) rfl rfl (S_plain rfl (op_ldBA Tryz.isAgg33 Tryz.sizeOf33 (Has.t rfl) (i := 3) rfl rfl rfl)) ?_
  refine Y.D_hide (Ei := [(1, _)]) rfl rfl (Y.Srcs.cons (Y.Src.pre rfl rfl) Y.Srcs.nil) rfl rfl (S_plain rfl (op_fldB fa_25_2 (Has.t rfl) rfl)) ?_
  refine Y.D_hide (Ei := [(25, _)]) rfl rfl (Y.Srcs.cons (Y.Src.op 1 rfl rfl) Y.Srcs.nil) rfl rfl (S_plain rfl (op_ldB Tryz.isAgg23 Tryz.sizeOf23 (Has.t rfl) (i := 0) rfl rfl)) ?_
  refine Y.D_hide (Ei := [(26, _)]) rfl rfl (Y.Srcs.cons (Y.Src.op 2 rfl rfl) Y.Srcs.nil) rfl rfl (S_plain rfl (op_call Tryz.call31 (c_lawRows (by omega) (by assumption)) ⟨(Has.t rfl), trivial⟩)) ?_
  refine Y.D_hide (Ei := [(24, _), (27, _)]) rfl rfl (Y.Srcs.cons (Y.Src.op 0 rfl rfl) (Y.Srcs.cons (Y.Src.op 3 rfl rfl) Y.Srcs.nil)) rfl rfl (S_plain rfl (op_call Tryz.call76 (c_noiNew (by omega) (by omega)) ⟨(Has.t rfl), (Has.t rfl), trivial⟩)) ?_
  refine Y.D_hide (Ei := [(28, _)]) rfl rfl (Y.Srcs.cons (Y.Src.op 4 rfl rfl) Y.Srcs.nil) rfl rfl (S_plain rfl (op_move (Has.t rfl))) ?_
  refine Y.D_hide (Ei := [(23, _)]) rfl rfl (Y.Srcs.cons (Y.Src.op 5 rfl rfl) Y.Srcs.nil) rfl rfl (S_plain rfl (op_extract (Has.t rfl) rfl)) ?_
  refine Y.D_hide (Ei := [(23, _)]) rfl rfl (Y.Srcs.cons (Y.Src.op 5 rfl rfl) Y.Srcs.nil) rfl rfl (S_plain rfl (op_extract (Has.t rfl) rfl)) ?_
  refine Y.D_newp (Ei := []) (fun bb => box bb 35 [NumsT (okL (noiErr (okL (netErr (z.map Rt.q) (rq s)) (z.map Rt.q)) (rq c)) (okL (netErr (z.map Rt.q) (rq s)) (z.map Rt.q))), NumM (okL (noiErr (okL (netErr (z.map Rt.q) (rq s)) (z.map Rt.q)) (rq c)) (okL (netErr (z.map Rt.q) (rq s)) (rq s))), NumM (okL (noiErr (okL (netErr (z.map Rt.q) (rq s)) (z.map Rt.q)) (rq c)) (rq c))]) 9 rfl rfl rfl Y.Srcs.nil rfl rfl (by kernel_rfl) (new_alloc (Ts := [Is (.slice none 0 0), Is (.slice none 0 0), Is (.slice none 0 0)]) Tryz.zeroValue35 rfl (fun V => Cells.cons' ⟨rfl, trivial⟩ (Cells.cons' ⟨rfl, trivial⟩ (Cells.cons' ⟨rfl, trivial⟩ (Cells.nil))))) ?_
  refine Y.D_putN (Ei := [(29, _)]) 8 rfl rfl rfl rfl rfl rfl (Y.Srcs.cons (Y.Src.op 6 rfl rfl) Y.Srcs.nil) (fun bb => P_stA Tryz.sizeOf35 (Has.t rfl) (Has.t rfl) rfl (i := 0) rfl (Nat.le_of_ble_eq_true rfl) rfl rfl) ?_
  refine Y.D_done mixed rfl (by kernel_rfl) rfl (by simp [Y.okP]) rfl rfl (Y.F_val (Y.F_val (Y.F_val (Y.F_val (Y.F_val (Y.F_val (Y.F_val (Y.F_val (Y.F_newp (fun B7 => Y.F_putN (Y.F_nil ?_)))))))))))
  refine R_op rfl rfl rfl (op_assign (Has.t rfl)) ?_
  refine R_nil ?_
  refine T_seq ?_
  refine Y.D_start (m := 12) [] ?_
  refine Y.D_hide (Ei := [(1, _)]) rfl rfl (Y.Srcs.cons (Y.Src.pre rfl rfl) Y.Srcs.nil) rfl rfl (S_plain rfl (op_fldB fa_25_0 (Has.t rfl) rfl)) ?_
  refine Y.D_hide (Ei := [(32, _)]) rfl rfl (Y.Srcs.cons (Y.Src.op 0 rfl rfl) Y.Srcs.nil) rfl rfl (S_plain rfl (op_ldB Tryz.isAgg22 Tryz.sizeOf22 (Has.t rfl) (i := 0) rfl rfl)) ?_
  refine Y.D_hide (Ei := [(33, _)]) rfl rfl (Y.Srcs.cons (Y.Src.op 1 rfl rfl) Y.Srcs.nil) rfl rfl (S_plain rfl (op_call Tryz.call77 (c_refList (by omega)) ⟨(Has.t rfl), trivial⟩)) ?_
  refine Y.D_hide (Ei := [(1, _)]) rfl rfl (Y.Srcs.cons (Y.Src.pre rfl rfl) Y.Srcs.nil) rfl rfl (S_plain rfl (op_fldB fa_25_1 (Has.t rfl) rfl)) ?_
  refine Y.D_hide (Ei := [(35, _)]) rfl rfl (Y.Srcs.cons (Y.Src.op 3 rfl rfl) Y.Srcs.nil) rfl rfl (S_plain rfl (op_ldB Tryz.isAgg23 Tryz.sizeOf23 (Has.t rfl) (i := 0) rfl rfl)) ?_
  refine Y.D_hide (Ei := [(36, _)]) rfl rfl (Y.Srcs.cons (Y.Src.op 4 rfl rfl) Y.Srcs.nil) rfl rfl (S_plain rfl (op_call Tryz.call78 (c_refRows (by omega) (by assumption)) ⟨(Has.t rfl), trivial⟩)) ?_
  refine Y.D_hide (Ei := [(34, _), (37, _)]) rfl rfl (Y.Srcs.cons (Y.Src.op 2 rfl rfl) (Y.Srcs.cons (Y.Src.op 5 rfl rfl) Y.Srcs.nil)) rfl rfl (S_plain rfl (op_call Tryz.call69 (c_rnetNew (L := 2) (by assumption) (by omega) (by omega) (by omega)) ⟨(Has.t rfl), (Has.t rfl), trivial⟩)) ?_
  refine Y.D_hide (Ei := [(38, _)]) rfl rfl (Y.Srcs.cons (Y.Src.op 6 rfl rfl) Y.Srcs.nil) rfl rfl (S_plain rfl (op_move (Has.t rfl))) ?_
  refine Y.D_hide (Ei := [(31, _)]) rfl rfl (Y.Srcs.cons (Y.Src.op 7 rfl rfl) Y.Srcs.nil) rfl rfl (S_plain rfl (op_extract (Has.t rfl) rfl)) ?_
  refine Y.D_hide (Ei := [(31, _)]) rfl rfl (Y.Srcs.cons (Y.Src.op 7 rfl rfl) Y.Srcs.nil) rfl rfl (S_plain rfl (op_extract (Has.t rfl) rfl)) ?_
  refine Y.D_newp (Ei := []) (fun bb => box bb 39 [QsT (okL (netErr (z.map Rt.q) (rq s)) (z.map Rt.q)), QM (okL (netErr (z.map Rt.q) (rq s)) (rq s))]) 11 rfl rfl rfl Y.Srcs.nil rfl rfl (by kernel_rfl) (new_alloc (Ts := [Is (.slice none 0 0), Is (.slice none 0 0)]) Tryz.zeroValue39 rfl (fun V => Cells.cons' ⟨rfl, trivial⟩ (Cells.cons' ⟨rfl, trivial⟩ (Cells.nil)))) ?_
  refine Y.D_putN (Ei := [(39, _)]) 10 rfl rfl rfl rfl rfl rfl (Y.Srcs.cons (Y.Src.op 8 rfl rfl) Y.Srcs.nil) (fun bb => P_stA Tryz.sizeOf39 (Has.t rfl) (Has.t rfl) rfl (i := 0) rfl (Nat.le_of_ble_eq_true rfl) rfl rfl) ?_
  refine Y.D_done mixed rfl (by kernel_rfl) rfl (by simp [Y.okP]) rfl rfl (Y.F_val (Y.F_val (Y.F_val (Y.F_val (Y.F_val (Y.F_val (Y.F_val (Y.F_val (Y.F_val (Y.F_val (Y.F_newp (fun B9 => Y.F_putN (Y.F_nil ?_)))))))))))))
  refine R_op rfl rfl rfl (op_assign (Has.t rfl)) ?_
  refine R_nil ?_
  refine T_seq ?_
  refine Y.D_start (m := 10) [] ?_
  refine Y.D_hide (Ei := [(9, _)]) rfl rfl (Y.Srcs.cons (Y.Src.pre rfl rfl) Y.Srcs.nil) rfl rfl (S_plain rfl (op_ldBA Tryz.isAgg39 Tryz.sizeOf39 (Has.t rfl) (i := 5) rfl rfl rfl)) ?_
  refine Y.D_hide (Ei := [(1, _)]) rfl rfl (Y.Srcs.cons (Y.Src.pre rfl rfl) Y.Srcs.nil) rfl rfl (S_plain rfl (op_fldB fa_25_2 (Has.t rfl) rfl)) ?_
  refine Y.D_hide (Ei := [(43, _)]) rfl rfl (Y.Srcs.cons (Y.Src.op 1 rfl rfl) Y.Srcs.nil) rfl rfl (S_plain rfl (op_ldB Tryz.isAgg23 Tryz.sizeOf23 (Has.t rfl) (i := 0) rfl rfl)) ?_
  refine Y.D_hide (Ei := [(44, _)]) rfl rfl (Y.Srcs.cons (Y.Src.op 2 rfl rfl) Y.Srcs.nil) rfl rfl (S_plain rfl (op_call Tryz.call78 (c_refRows (by omega) (by assumption)) ⟨(Has.t rfl), trivial⟩)) ?_
  refine Y.D_hide (Ei := [(42, _), (45, _)]) rfl rfl (Y.Srcs.cons (Y.Src.op 0 rfl rfl) (Y.Srcs.cons (Y.Src.op 3 rfl rfl) Y.Srcs.nil)) rfl rfl (S_plain rfl (op_call Tryz.call79 (c_rnoiNew (by omega) (by omega)) ⟨(Has.t rfl), (Has.t rfl), trivial⟩)) ?_
  refine Y.D_hide (Ei := [(46, _)]) rfl rfl (Y.Srcs.cons (Y.Src.op 4 rfl rfl) Y.Srcs.nil) rfl rfl (S_plain rfl (op_move (Has.t rfl))) ?_
  refine Y.D_hide (Ei := [(41, _)]) rfl rfl (Y.Srcs.cons (Y.Src.op 5 rfl rfl) Y.Srcs.nil) rfl rfl (S_plain rfl (op_extract (Has.t rfl) rfl)) ?_
  refine Y.D_hide (Ei := [(41, _)]) rfl rfl (Y.Srcs.cons (Y.Src.op 5 rfl rfl) Y.Srcs.nil) rfl rfl (S_plain rfl (op_extract (Has.t rfl) rfl)) ?_
  refine Y.D_newp (Ei := []) (fun bb => box bb 41 [QsT (okL (noiErr (okL (netErr (z.map Rt.q) (rq s)) (z.map Rt.q)) (rq c)) (okL (netErr (z.map Rt.q) (rq s)) (z.map Rt.q))), QM (okL (noiErr (okL (netErr (z.map Rt.q) (rq s)) (z.map Rt.q)) (rq c)) (okL (netErr (z.map Rt.q) (rq s)) (rq s))), QM (okL (noiErr (okL (netErr (z.map Rt.q) (rq s)) (z.map Rt.q)) (rq c)) (rq c))]) 9 rfl rfl rfl Y.Srcs.nil rfl rfl (by kernel_rfl) (new_alloc (Ts := [Is (.slice none 0 0), Is (.slice none 0 0), Is (.slice none 0 0)]) Tryz.zeroValue41 rfl (fun V => Cells.cons' ⟨rfl, trivial⟩ (Cells.cons' ⟨rfl, trivial⟩ (Cells.cons' ⟨rfl, trivial⟩ (Cells.nil))))) ?_
  refine Y.D_putN (Ei := [(47, _)]) 8 rfl rfl rfl rfl rfl rfl (Y.Srcs.cons (Y.Src.op 6 rfl rfl) Y.Srcs.nil) (fun bb => P_stA Tryz.sizeOf41 (Has.t rfl) (Has.t rfl) rfl (i := 0) rfl (Nat.le_of_ble_eq_true rfl) rfl rfl) ?_
  refine Y.D_done mixed rfl (by kernel_rfl) rfl (by simp [Y.okP]) rfl rfl (Y.F_val (Y.F_val (Y.F_val (Y.F_val (Y.F_val (Y.F_val (Y.F_val (Y.F_val (Y.F_newp (fun B11 => Y.F_putN (Y.F_nil ?_)))))))))))
  refine R_op rfl rfl rfl (op_assign (Has.t rfl)) ?_
  refine R_nil ?_
  refine T_seq ?_
  refine Y.D_start (m := 16) [(14, 1, box B2 35 [NumsT (okL (noiErr (okL (netErr (z.map Rt.q) (rq s)) (z.map Rt.q)) (rq c)) (okL (netErr (z.map Rt.q) (rq s)) (z.map Rt.q))), NumM (okL (noiErr (okL (netErr (z.map Rt.q) (rq s)) (z.map Rt.q)) (rq c)) (okL (netErr (z.map Rt.q) (rq s)) (rq s))), NumM (okL (noiErr (okL (netErr (z.map Rt.q) (rq s)) (z.map Rt.q)) (rq c)) (rq c))]), (15, 2, box B3 41 [QsT (okL (noiErr (okL (netErr (z.map Rt.q) (rq s)) (z.map Rt.q)) (rq c)) (okL (netErr (z.map Rt.q) (rq s)) (z.map Rt.q))), QM (okL (noiErr (okL (netErr (z.map Rt.q) (rq s)) (z.map Rt.q)) (rq c)) (okL (netErr (z.map Rt.q) (rq s)) (rq s))), QM (okL (noiErr (okL (netErr (z.map Rt.q) (rq s)) (z.map Rt.q)) (rq c)) (rq c))])] ?_
  refine Y.D_step (Ei := [(7, _)]) rfl rfl (Y.Srcs.cons (Y.Src.pre rfl rfl) Y.Srcs.nil) rfl rfl (by kernel_rfl) (S_plain rfl (op_ldBA Tryz.isAgg35 Tryz.sizeOf35 (Has.t rfl) (i := 4) rfl rfl rfl)) ?_
  refine Y.D_hide (Ei := [(11, _)]) rfl rfl (Y.Srcs.cons (Y.Src.pre rfl rfl) Y.Srcs.nil) rfl rfl (S_plain rfl (op_ldBA Tryz.isAgg41 Tryz.sizeOf41 (Has.t rfl) (i := 6) rfl rfl rfl)) ?_
  refine Y.D_step (Ei := [(6, _)]) rfl rfl (Y.Srcs.cons (Y.Src.pre rfl rfl) Y.Srcs.nil) rfl rfl (by kernel_rfl) (S_plain rfl (op_move (Has.t rfl))) ?_
  refine Y.D_step (Ei := [(10, _)]) rfl rfl (Y.Srcs.cons (Y.Src.pre rfl rfl) Y.Srcs.nil) rfl rfl (by kernel_rfl) (S_plain rfl (op_move (Has.t rfl))) ?_
  refine Y.D_step (Ei := [(51, _), (52, _)]) rfl rfl (Y.Srcs.cons (Y.Src.op 2 rfl rfl) (Y.Srcs.cons (Y.Src.op 3 rfl rfl) Y.Srcs.nil)) rfl rfl (by kernel_rfl) (S_plain rfl (op_eql (Has.t rfl) (Has.t rfl))) ?_
  refine Y.D_step (Ei := [(53, _)]) rfl rfl (Y.Srcs.cons (Y.Src.op 4 rfl rfl) Y.Srcs.nil) rfl rfl (by kernel_rfl) (S_plain rfl (op_move (Has.t rfl))) ?_
  refine Y.D_step (Ei := [(6, _), (54, _)]) rfl rfl (Y.Srcs.cons (Y.Src.pre rfl rfl) (Y.Srcs.cons (Y.Src.op 5 rfl rfl) Y.Srcs.nil)) rfl rfl (by kernel_rfl) (S_whenU rfl rfl (Has.t rfl) (fun h => op_move (Has.t rfl))) ?_
  refine Y.D_step (Ei := [(55, _), (54, _)]) rfl rfl (Y.Srcs.cons (Y.Src.op 6 rfl rfl) (Y.Srcs.cons (Y.Src.op 5 rfl rfl) Y.Srcs.nil)) rfl rfl (by kernel_rfl) (S_whenU rfl rfl (Has.t rfl) (fun h => op_neq (Has.wu rfl h) Has.c)) ?_
  refine Y.D_step (Ei := [(56, _), (54, _)]) rfl rfl (Y.Srcs.cons (Y.Src.op 7 rfl rfl) (Y.Srcs.cons (Y.Src.op 5 rfl rfl) Y.Srcs.nil)) rfl rfl (by kernel_rfl) (S_whenU rfl rfl (Has.t rfl) (fun h => op_move (Has.wu rfl h))) ?_
  refine Y.D_hide (Ei := [(8, _), (57, _)]) rfl rfl (Y.Srcs.cons (Y.Src.pre rfl rfl) (Y.Srcs.cons (Y.Src.op 8 rfl rfl) Y.Srcs.nil)) rfl rfl (S_when2 rfl rfl rfl (fun h h2 => op_move (Has.t rfl))) ?_
  refine Y.D_hide (Ei := [(12, _), (57, _)]) rfl rfl (Y.Srcs.cons (Y.Src.pre rfl rfl) (Y.Srcs.cons (Y.Src.op 8 rfl rfl) Y.Srcs.nil)) rfl rfl (S_when2 rfl rfl rfl (fun h h2 => op_move (Has.t rfl))) ?_
  refine Y.D_hide (Ei := [(58, _), (59, _), (57, _)]) rfl rfl (Y.Srcs.cons (Y.Src.op 9 rfl rfl) (Y.Srcs.cons (Y.Src.op 10 rfl rfl) (Y.Srcs.cons (Y.Src.op 8 rfl rfl) Y.Srcs.nil))) rfl rfl (S_when2 rfl rfl rfl (fun h h2 => op_eql (Has.wu rfl ⟨h, h2⟩) (Has.wu rfl ⟨h, h2⟩))) ?_
  refine Y.D_hide (Ei := [(57, _), (60, _), (54, _)]) rfl rfl (Y.Srcs.cons (Y.Src.op 8 rfl rfl) (Y.Srcs.cons (Y.Src.op 11 rfl rfl) (Y.Srcs.cons (Y.Src.op 5 rfl rfl) Y.Srcs.nil))) rfl rfl (S_whenU rfl rfl (Has.t rfl) (fun h => op_or (Has.wu rfl h) (fun h2 => (Has.wu rfl ⟨h, h2⟩)))) ?_
  refine Y.D_hide (Ei := [(54, _), (61, _)]) rfl rfl (Y.Srcs.cons (Y.Src.op 5 rfl rfl) (Y.Srcs.cons (Y.Src.op 12 rfl rfl) Y.Srcs.nil)) rfl rfl (S_plain rfl (op_and (Has.t rfl) (fun h => (Has.wu rfl h)))) ?_
  refine Y.D_putI (Ei := [(2, _), (49, _)]) 1 rfl rfl rfl (Y.Srcs.cons (Y.Src.pre rfl rfl) (Y.Srcs.cons (Y.Src.op 0 rfl rfl) Y.Srcs.nil)) (.head _) rfl (P_stA Tryz.sizeOf35 (Has.t rfl) (Has.t rfl) rfl (i := 0) rfl (Nat.le_of_ble_eq_true rfl) rfl rfl) ?_
  refine Y.D_putI (Ei := [(3, _), (50, _)]) 2 rfl rfl rfl (Y.Srcs.cons (Y.Src.pre rfl rfl) (Y.Srcs.cons (Y.Src.op 1 rfl rfl) Y.Srcs.nil)) (.tail _ (.head _)) rfl (P_stA Tryz.sizeOf41 (Has.t rfl) (Has.t rfl) rfl (i := 0) rfl (Nat.le_of_ble_eq_true rfl) rfl rfl) ?_
  refine Y.D_done mixed rfl (by kernel_rfl) rfl (by simp [Y.okP]) rfl rfl (Y.F_val (Y.F_val (Y.F_val (Y.F_val (Y.F_val (Y.F_val (Y.F_val (Y.F_val (Y.F_val (Y.F_val (Y.F_val (Y.F_val (Y.F_val (Y.F_val (Y.F_putI (Y.F_putI (Y.F_nil ?_)))))))))))))))))
  refine R_op rfl rfl rfl (op_assign (Has.t rfl)) ?_
  refine R_nil ?_
  refine T_ret3 rfl (rv_cell Tryz.isAgg35 Tryz.sizeOf35 rfl (i := 1) rfl rfl) (rv_cell Tryz.isAgg41 Tryz.sizeOf41 rfl (i := 2) rfl rfl) (rv_to (rv_tmp rfl) ?_)
  exact (bool_of (by simp))
end Go.Proofs.YtppibhcfaahgpaaGreat
namespace Go.Proofs.YtppibhcfaahgpaaGreat
open Go Go.RowKit
theorem fa_39_1 (a : Addr) (w : World) : (Instr.fieldAt 39 (.pointer (some a)) 1).run Tryz.prog w = .ok (.pointer (some (a.add 1))) w := by
  simp [Instr.fieldAt, Instr.sureAddr, fieldPlace, Sem.run_bind, Result.andThen, Tryz.runUnderlying39, Tryz.sizeOf37]
end Go.Proofs.YtppibhcfaahgpaaGreat
namespace Go.Proofs.YtppibhcfaahgpaaGreat
open Go Go.RowKit
set_option maxRecDepth 20000 in
theorem c_ZerosO {n m : Nat} (hn : n ≤ 1000) (hm : m ≤ 1000) : FunO Tryz.prog 41 [NT .i64 n, NT .i64 m] [] (Nat) (fun B => Is (.slice (some ⟨B, 0, none⟩) n n)) (fun B => [matP exactH B 36 57 5 (FRow QT (zeroM n m))]) (fun _ => True) := by
  refine FunO.intro Tryz.func41 rfl Tryz.ntmps41 rfl (fun cx Z => ?_)
  refine T_seq ?_
  refine T_region ?_
  refine R_op rfl rfl rfl (op_assign Has.c) ?_
  refine R_nil ?_
  refine T_seq ?_
  refine T_region ?_
  refine R_op rfl rfl rfl (op_move (Has.t rfl)) ?_
  refine R_new rfl rfl rfl (new_make (T := Is (.slice none 0 0)) (i := Tryz.t36) Tryz.underlying37 info_36 rfl rfl (Has.t rfl) rfl (fun _ => rfl) trivial (by show 24 * _ ≤ _; omega) (by omega)) (fun B9 => ?_)
  refine R_op rfl rfl rfl (op_assign (Has.t rfl)) ?_
  refine R_nil ?_
  refine T_seq ?_
  refine T_seq ?_
  refine T_region ?_
  refine R_op rfl rfl rfl (op_assign (Has.cN 0)) ?_
  refine R_nil ?_
  refine T_block ?_
  refine T_conv 1 rfl (mat_nilE exactH ⟨none, 0, rfl⟩ (e := 57) (s := 5)) ?_
  refine T_loop2 (fun (k : Nat) (M : List (List Qi)) => FillS (fun _ => tab m fun _ => Qi.zero) n M k) (fun (k : Nat) (M : List (List Qi)) => n - k) (fun (k : Nat) (M : List (List Qi)) => [(0, NT .i64 n), (1, NT .i64 m), (5, Is (.slice (some ⟨B9, 0, none⟩) n n)), (6, NT .i64 k)]) (fun (k : Nat) (M : List (List Qi)) => [Z, matP exactH B9 36 57 5 (FRow QT M)]) 0 (List.replicate n []) (FillS.start _ _ _)
    (Sub.cons rfl (Sub.cons rfl (Sub.cons rfl (Sub.cons rfl Sub.nil)))) (HSub.cons (fun _ _ _ h => h) (HSub.cons (matO_of (rep_FRow QT n)) HSub.nil)) (fun k M hS => ?_)
  refine T_seq ?_
  refine T_seq ?_
  refine T_region ?_
  refine R_op rfl rfl rfl (op_move (Has.t rfl)) ?_
  refine R_op rfl rfl rfl (op_move (Has.t rfl)) ?_
  refine R_op rfl rfl rfl (op_lssN (Has.t rfl) (Has.t rfl)) ?_
  refine R_nil ?_
  refine T_cond (Has.t rfl) (fun hk => ?_) (fun hk => ?_)
  · simp only [decide_eq_true_eq] at hk
    have hlen := hS.len
    refine T_focusE 1 (k) rfl (frow_get (m := M) (i := k) (by omega)) (fun v hv => ?_)
    refine T_skip ?_
    refine T_seq ?_
    refine T_block ?_
    refine T_seq ?_
    refine T_region ?_
    refine R_op rfl rfl rfl (op_move (Has.t rfl)) ?_
    refine R_op rfl rfl rfl (op_move (Has.t rfl)) ?_
    refine R_op rfl rfl rfl (op_move (Has.t rfl)) ?_
    refine R_makeE (T := ZQ) (i := Tryz.t57) und_36 info_57 rfl rfl (Has.t rfl) rfl zq_p (El.ag rfl) (by show 88 * _ ≤ _; omega) (by omega) rfl (fun B18 hB18 => ?_)
    refine R_op rfl rfl rfl (op_idxB Tryz.runUnderlying37 Tryz.sizeOf36 (Has.t rfl) (Has.t rfl) rfl (by omega) (by rw [Nat.mul_one, Nat.zero_add])) ?_
    refine R_stH Tryz.sizeOf36 (Has.t rfl) (Has.t rfl) (by simp; omega) (j := 1) (l := 3) rfl rfl rfl ?_
    refine R_nil ?_
    refine T_seq ?_
    refine T_keep [0, 1, 3] rfl (by decide) ?_
    refine T_region ?_
    refine R_op rfl rfl rfl (op_assign (Has.cN 0)) ?_
    refine R_nil ?_
    refine T_block ?_
    refine T_loop2 (fun (j : Nat) (out : List Ty) => FillS (fun _ => QT Qi.zero) m out j) (fun (j : Nat) (out : List Ty) => m - j) (fun (j : Nat) (out : List Ty) => [(0, NT .i64 n), (1, NT .i64 m), (5, Is (.slice (some ⟨B9, 0, none⟩) n n)), (6, NT .i64 k), (7, NT .i64 j)]) (fun (j : Nat) (out : List Ty) => [Z, matQ exactH B9 36 57 5 (FRow QT M) k B18, rowO 57 5 B18 out]) 0 (List.replicate m ZQ) (FillS.start _ _ _)
      (Sub.cons rfl (Sub.cons rfl (Sub.cons rfl (Sub.cons rfl (Sub.cons rfl Sub.nil))))) (HSub.refl _) (fun j out hT => ?_)
    refine T_seq ?_
    refine T_seq ?_
    refine T_region ?_
    refine R_op rfl rfl rfl (op_move (Has.t rfl)) ?_
    refine R_op rfl rfl rfl (op_move (Has.t rfl)) ?_
    refine R_op rfl rfl rfl (op_lssN (Has.t rfl) (Has.t rfl)) ?_
    refine R_nil ?_
    refine T_cond (Has.t rfl) (fun hj => ?_) (fun hj => ?_)
    · simp only [decide_eq_true_eq] at hj
      have hlen2 := hT.len
      refine T_skip ?_
      refine T_seq ?_
      refine T_block ?_
      refine D_start (m := 6) ?_
      refine D_step (Ei := [(5, _)]) rfl rfl (Srcs.cons (Src.pre rfl rfl) Srcs.nil) (S_plain rfl (op_move (Has.t rfl))) ?_
      refine D_step (Ei := [(6, _)]) rfl rfl (Srcs.cons (Src.pre rfl rfl) Srcs.nil) (S_plain rfl (op_move (Has.t rfl))) ?_
      refine D_step (Ei := [(25, _), (26, _)]) rfl rfl (Srcs.cons (Src.op 0 rfl rfl) (Srcs.cons (Src.op 1 rfl rfl) Srcs.nil)) (S_plain rfl (op_idxB Tryz.runUnderlying37 Tryz.sizeOf36 (Has.t rfl) (Has.t rfl) rfl (by omega) (by rw [Nat.mul_one, Nat.zero_add]))) ?_
      refine D_step (Ei := [(27, _)]) rfl rfl (Srcs.cons (Src.op 2 rfl rfl) Srcs.nil) (S_plain rfl (op_ldH Tryz.isAgg36 Tryz.sizeOf36 (Has.t rfl) (j := 1) rfl)) ?_
      refine D_step (Ei := [(7, _)]) rfl rfl (Srcs.cons (Src.pre rfl rfl) Srcs.nil) (S_plain rfl (op_move (Has.t rfl))) ?_
      refine D_step (Ei := []) rfl rfl Srcs.nil (S_plain rfl (op_call Tryz.call86 (c_rWhole (by decide) (by decide)) ⟨(Has.cN 0), trivial⟩)) ?_
      refine D_done mixed rfl (by kernel_rfl) (F_val (F_val (F_val (F_val (F_val (F_val (F_nil ?_)))))))
      refine R_op rfl rfl rfl (op_idxO Tryz.runUnderlying36 Tryz.sizeOf57 (Has.t rfl) (Has.t rfl) rfl (i := 2) rfl (by omega) rfl) ?_
      refine R_stO Tryz.sizeOf57 (Has.t rfl) (Has.t rfl) (El.ag rfl) (i := 2) rfl rfl (by first | omega | (simp; omega)) rfl ?_
      refine R_nil ?_
      refine T_blk ?_
      refine T_region ?_
      refine R_op rfl rfl rfl (op_move (Has.t rfl)) ?_
      refine R_op rfl rfl rfl (op_addN (Has.t rfl) (Has.cN 1) (by show _ < 9223372036854775808; first | omega | (simp only [lim]; omega))) ?_
      refine R_op rfl rfl rfl (op_assign (Has.t rfl)) ?_
      refine R_nil ?_
      refine T_again (j + 1, _) (hT.next hj rfl) (by dsimp only; omega) (Sub.cons rfl (Sub.cons rfl (Sub.cons rfl (Sub.cons rfl (Sub.cons rfl Sub.nil))))) (HSub.refl _)
    · simp only [decide_eq_false_iff_not] at hj
      obtain rfl : j = m := Nat.le_antisymm hT.kle (by omega)
      have hfin := hT.fin
      rw [← tab_map _ (fun _ => Qi.zero) QT] at hfin
      subst hfin
      refine T_exit rfl ?_
      refine T_blk ?_
      refine T_unfocus 1 2 rfl rfl (by decide) (by show k < (FRow QT M).length; simp only [FRow, List.length_map]; omega) ?_
      refine T_region ?_
      refine R_op rfl rfl rfl (op_move (Has.t rfl)) ?_
      refine R_op rfl rfl rfl (op_addN (Has.t rfl) (Has.cN 1) (by show _ < 9223372036854775808; first | omega | (simp only [lim]; omega))) ?_
      refine R_op rfl rfl rfl (op_assign (Has.t rfl)) ?_
      refine R_nil ?_
      refine T_keep [0, 1] rfl (by decide) ?_
      refine T_again (k + 1, _) (hS.next hk rfl) (by dsimp only; omega) (Sub.cons rfl (Sub.cons rfl (Sub.cons rfl (Sub.cons rfl Sub.nil)))) (HSub.cons (fun _ _ _ h => h) (HSub.cons (matO_of (set_FRow QT _ _ _)) HSub.nil))
  · simp only [decide_eq_false_iff_not] at hk
    obtain rfl : k = n := Nat.le_antisymm hS.kle (by omega)
    have hfin := hS.fin
    refine T_exit rfl ?_
    refine T_seq ?_
    refine T_region ?_
    refine R_op rfl rfl rfl (op_move (Has.t rfl)) ?_
    refine R_op rfl rfl rfl (op_assign (Has.t rfl)) ?_
    refine R_nil ?_
    exact T_retO B9 trivial [0, 1] ⟨⟨_, rfl, fun _ _ _ h => h⟩, ⟨_, rfl, (matO_of (by rw [hfin]; rfl))⟩, trivial⟩ (by decide) (rvs1 rfl (rv_tmp rfl))
end Go.Proofs.YtppibhcfaahgpaaGreat
namespace Go.Proofs.YtppibhcfaahgpaaGreat
open Go Go.RowKit
theorem fa_41_0 (a : Addr) (w : World) : (Instr.fieldAt 41 (.pointer (some a)) 0).run Tryz.prog w = .ok (.pointer (some (a.add 0))) w := by
  simp [Instr.fieldAt, Instr.sureAddr, fieldPlace, Sem.run_bind, Result.andThen, Tryz.runUnderlying41, Tryz.sizeOf39]
theorem fa_41_1 (a : Addr) (w : World) : (Instr.fieldAt 41 (.pointer (some a)) 1).run Tryz.prog w = .ok (.pointer (some (a.add 2))) w := by
  simp [Instr.fieldAt, Instr.sureAddr, fieldPlace, Sem.run_bind, Result.andThen, Tryz.runUnderlying41, Tryz.sizeOf37]
end Go.Proofs.YtppibhcfaahgpaaGreat
namespace Go.Proofs.YtppibhcfaahgpaaGreat
open Go Go.RowKit
theorem meth_49_Of (v : Value) (w : World) : (method (Tryz.prog.types.size + Made.depth) 49 v "Of").run Tryz.prog w = .ok (264, v) w := by kernel_rfl
theorem mkif_49 (v : Value) (w : World) : (Instr.makeInterface 49 v).run Tryz.prog w = .ok (.iface 49 v) w := by
  simp [Instr.makeInterface, Sem.run_bind, Result.andThen, Tryz.runUnderlying49]
end Go.Proofs.YtppibhcfaahgpaaGreat
namespace Go.Proofs.YtppibhcfaahgpaaGreat
open Go Go.RowKit
set_option maxRecDepth 20000 in
theorem c_warm {x : Qi} {L : Nat} [hx : FitC x L] (h : L ≤ 8796093022208) : Fun Tryz.prog 95 [NumT x] (BoolT (warmB x)) := by
  haveI hz : FitC Qi.zero 1 := FitC.zero (Nat.le_refl 1)
  rw [← warm_eq]
  refine Fun.intro Tryz.func95 rfl Tryz.ntmps95 rfl (fun cx => ?_)
  refine T_seq ?_
  refine T_region ?_
  refine R_new rfl rfl rfl (new_box (Has.t rfl)) (fun B1 => ?_)
  refine R_op rfl rfl rfl (op_assign Has.c) ?_
  refine R_nil ?_
  refine T_seq ?_
  refine D_start (m := 5) ?_
  refine D_step (Ei := [(1, _)]) rfl rfl (Srcs.cons (Src.pre rfl rfl) Srcs.nil) (S_plain rfl (op_ldBA Tryz.isAgg49 Tryz.sizeOf49 (Has.t rfl) (i := 0) rfl rfl rfl)) ?_
  refine D_step (Ei := [(3, _)]) rfl rfl (Srcs.cons (Src.op 0 rfl rfl) Srcs.nil) (S_plain rfl (op_call Tryz.call32 c_Real ⟨(Has.t rfl), trivial⟩)) ?_
  refine D_step (Ei := [(4, _)]) rfl rfl (Srcs.cons (Src.op 1 rfl rfl) Srcs.nil) (S_plain rfl (op_move (Has.t rfl))) ?_
  refine D_step (Ei := [(1, _), (5, _)]) rfl rfl (Srcs.cons (Src.pre rfl rfl) (Srcs.cons (Src.op 2 rfl rfl) Srcs.nil)) (S_when rfl rfl (Has.t rfl) (fun h => op_ldBA Tryz.isAgg49 Tryz.sizeOf49 (Has.t rfl) (i := 0) rfl rfl rfl)) ?_
  refine D_step (Ei := [(5, _)]) rfl rfl (Srcs.cons (Src.op 2 rfl rfl) Srcs.nil) (S_when rfl rfl (Has.t rfl) (fun h => op_call Tryz.call28 (c_Int (n := 0) (by decide) (by decide)) ⟨(Has.cN 0), trivial⟩)) ?_
  refine D_done mixed rfl (by kernel_rfl) (F_val (F_val (F_val (F_val (F_val (F_nil ?_))))))
  refine R_step rfl rfl (S_when rfl rfl (Has.t rfl) (fun h => op_call Tryz.call33 (c_Cmp (x := x) (y := Qi.zero) (M := 1) (by omega)) ⟨(Has.w rfl h), (Has.w rfl h), trivial⟩)) ?_
  refine R_step rfl rfl (S_when rfl rfl (Has.t rfl) (fun h => op_geq (Has.w rfl h) Has.c)) ?_
  refine R_op rfl rfl rfl (op_and (Has.t rfl) (fun h => (Has.w rfl h))) ?_
  refine R_op rfl rfl rfl (op_assign (Has.t rfl)) ?_
  refine R_nil ?_
  exact T_ret1 rfl (rv_tmp rfl)
set_option maxRecDepth 20000 in
theorem c_OfZ {y : Qi} : Fun Tryz.prog 264 [AggT [Is (.bool false), Is (.slice none 0 0), Is (.bool false), Is (.slice none 0 0), Is (.slice none 0 0)], NumT y] (NumT y) := by
  refine Fun.intro Tryz.func264 rfl Tryz.ntmps264 rfl (fun cx => ?_)
  refine T_seq ?_
  refine T_region ?_
  refine R_new rfl rfl rfl (new_box (Has.t rfl)) (fun B2 => ?_)
  refine R_new rfl rfl rfl (new_box (Has.t rfl)) (fun B3 => ?_)
  refine R_new rfl rfl rfl (new_alloc (Ts := [Is (.bool false), Is (.slice none 0 0), Is (.bool false), Is (.slice none 0 0), Is (.slice none 0 0)]) Tryz.zeroValue49 rfl (fun V => Cells.cons' ⟨rfl, trivial⟩ (Cells.cons' ⟨rfl, trivial⟩ (Cells.cons' ⟨rfl, trivial⟩ (Cells.cons' ⟨rfl, trivial⟩ (Cells.cons' ⟨rfl, trivial⟩ (Cells.nil))))))) (fun B4 => ?_)
  refine R_nil ?_
  refine T_seq ?_
  refine T_region ?_
  refine R_op rfl rfl rfl (op_ldBA Tryz.isAgg49 Tryz.sizeOf49 (Has.t rfl) (i := 1) rfl rfl rfl) ?_
  refine R_stA Tryz.sizeOf49 (Has.t rfl) (Has.t rfl) rfl (i := 2) rfl (Nat.le_of_ble_eq_true rfl) rfl rfl ?_
  refine R_nil ?_
  exact T_ret1 rfl (rv_cell Tryz.isAgg49 Tryz.sizeOf49 rfl (i := 2) rfl rfl)
set_option maxRecDepth 20000 in
theorem c_of {x : Qi} : Fun Tryz.prog 81 [NumT x] (NumT x) := by
  refine Fun.intro Tryz.func81 rfl Tryz.ntmps81 rfl (fun cx => ?_)
  refine T_seq ?_
  refine T_region ?_
  refine R_new rfl rfl rfl (new_box (Has.t rfl)) (fun B1 => ?_)
  refine R_new rfl rfl rfl (new_alloc (Ts := [Is (.bool false), Is (.slice none 0 0), Is (.bool false), Is (.slice none 0 0), Is (.slice none 0 0)]) Tryz.zeroValue49 rfl (fun V => Cells.cons' ⟨rfl, trivial⟩ (Cells.cons' ⟨rfl, trivial⟩ (Cells.cons' ⟨rfl, trivial⟩ (Cells.cons' ⟨rfl, trivial⟩ (Cells.cons' ⟨rfl, trivial⟩ (Cells.nil))))))) (fun B2 => ?_)
  refine R_nil ?_
  refine T_seq ?_
  refine T_region ?_
  refine R_new rfl rfl rfl (new_alloc (Ts := [Is (.bool false), Is (.slice none 0 0), Is (.bool false), Is (.slice none 0 0), Is (.slice none 0 0)]) Tryz.zeroValue49 rfl (fun V => Cells.cons' ⟨rfl, trivial⟩ (Cells.cons' ⟨rfl, trivial⟩ (Cells.cons' ⟨rfl, trivial⟩ (Cells.cons' ⟨rfl, trivial⟩ (Cells.cons' ⟨rfl, trivial⟩ (Cells.nil))))))) (fun B3 => ?_)
  refine R_nil ?_
  refine T_seq ?_
  refine T_region ?_
  refine R_op rfl rfl rfl (op_ldBA Tryz.isAgg49 Tryz.sizeOf49 (Has.t rfl) (i := 2) rfl rfl rfl) ?_
  refine R_op rfl rfl rfl (op_iface mkif_49 (Has.t rfl)) ?_
  refine R_op rfl rfl rfl (op_ldBA Tryz.isAgg49 Tryz.sizeOf49 (Has.t rfl) (i := 0) rfl rfl rfl) ?_
  refine R_op rfl rfl rfl (op_invoke meth_49_Of Tryz.call264 c_OfZ (Has.t rfl) ⟨(Has.t rfl), trivial⟩) ?_
  refine R_stA Tryz.sizeOf49 (Has.t rfl) (Has.t rfl) rfl (i := 1) rfl (Nat.le_of_ble_eq_true rfl) rfl rfl ?_
  refine R_nil ?_
  exact T_ret1 rfl (rv_cell Tryz.isAgg49 Tryz.sizeOf49 rfl (i := 1) rfl rfl)
set_option maxRecDepth 20000 in
theorem c_columns1 {r : List Qi} {k : Nat} : Fun Tryz.prog 228 [NumsT r, PT (NT .i64 k)] (BoolT (!decide (r.length = k))) := by
  refine Fun.intro Tryz.func228 rfl Tryz.ntmps228 rfl (fun cx => ?_)
  refine T_seq ?_
  refine T_region ?_
  refine R_op rfl rfl rfl (op_assign Has.c) ?_
  refine R_nil ?_
  refine T_seq ?_
  refine T_region ?_
  refine R_op rfl rfl rfl (op_move (Has.t rfl)) ?_
  refine R_op rfl rfl rfl (op_len Tryz.runUnderlying30 (Has.t rfl) len_map) ?_
  refine R_op rfl rfl rfl (op_ld Tryz.isAgg3 Tryz.sizeOf3 (Has.t rfl)) ?_
  refine R_op rfl rfl rfl (op_neqN (Has.t rfl) (Has.t rfl)) ?_
  refine R_op rfl rfl rfl (op_assign (Has.t rfl)) ?_
  refine R_nil ?_
  exact T_ret1 rfl (rv_tmp rfl)
set_option maxRecDepth 20000 in
theorem c_columns {a : List (List Qi)} {n k : Nat} (h : Shp a n k) (h1 : 1 ≤ n) (hn : n ≤ 32) (hk : k ≤ 32) : Fun Tryz.prog 200 [NumM a] (TupT [NT .i64 k, BoolT true]) := by
  obtain ⟨rfl, h2⟩ := h
  have hr0 : (a.getD 0 []).length = k := Shp.row ⟨rfl, h2⟩ (by omega)
  refine Fun.intro Tryz.func200 rfl Tryz.ntmps200 rfl (fun cx => ?_)
  refine T_seq ?_
  refine T_region ?_
  refine R_op rfl rfl rfl (op_assign (Has.cN 0)) ?_
  refine R_op rfl rfl rfl (op_assign Has.c) ?_
  refine R_nil ?_
  refine T_seq ?_
  refine T_seq ?_
  refine T_region ?_
  refine R_op rfl rfl rfl (op_move (Has.t rfl)) ?_
  refine R_op rfl rfl rfl (op_len Tryz.runUnderlying31 (Has.t rfl) len_map) ?_
  refine R_op rfl rfl rfl (op_eqlN (Has.t rfl) (Has.cN 0)) ?_
  refine R_nil ?_
  refine T_cond (Has.t rfl) (fun hb => ?_) (fun hb => ?_)
  · simp only [decide_eq_true_eq] at hb
    omega
  · refine T_skip ?_
    refine T_seq ?_
    refine T_region ?_
    refine R_op rfl rfl rfl (op_move (Has.t rfl)) ?_
    refine R_op rfl rfl rfl (op_idx Tryz.runUnderlying31 Tryz.sizeOf30 (Has.t rfl) (Has.cN 0) rfl (map_get (getD_some (d := []) (by omega)))) ?_
    refine R_op rfl rfl rfl (op_ld Tryz.isAgg30 Tryz.sizeOf30 (Has.t rfl)) ?_
    refine R_op rfl rfl rfl (op_len Tryz.runUnderlying30 (Has.t rfl) len_map) ?_
    refine R_new rfl rfl rfl (new_alloc (Ts := [Is (.int .i64 0)]) Tryz.zeroValue3 rfl (fun V => Cells.cons' ⟨rfl, trivial⟩ (Cells.nil))) (fun B4 => ?_)
    refine R_st Tryz.sizeOf3 (Has.t rfl) (Has.t rfl) (i := 0) rfl (Nat.le_of_ble_eq_true rfl) rfl ?_
    refine R_nil ?_
    refine T_seq ?_
    refine T_freeze (i := 0) (tt := 4) rfl rfl frz_ptr1 ?_
    refine D_start (m := 15) ?_
    refine D_step (Ei := [(4, _)]) rfl rfl (Srcs.cons (Src.pre rfl rfl) Srcs.nil) (S_plain rfl (op_ld Tryz.isAgg3 Tryz.sizeOf3 (Has.t rfl))) ?_
    refine D_step (Ei := [(0, _)]) rfl rfl (Srcs.cons (Src.pre rfl rfl) Srcs.nil) (S_plain rfl (op_move (Has.t rfl))) ?_
    refine D_step (Ei := [(13, _)]) rfl rfl (Srcs.cons (Src.op 1 rfl rfl) Srcs.nil) (S_plain rfl (op_len Tryz.runUnderlying31 (Has.t rfl) len_map)) ?_
    refine D_step (Ei := [(14, _)]) rfl rfl (Srcs.cons (Src.op 2 rfl rfl) Srcs.nil) (S_plain rfl (op_leqN (Has.t rfl) (Has.cN 32))) ?_
    refine D_step (Ei := [(15, _)]) rfl rfl (Srcs.cons (Src.op 3 rfl rfl) Srcs.nil) (S_plain rfl (op_move (Has.t rfl))) ?_
    refine D_step (Ei := [(4, _), (16, _)]) rfl rfl (Srcs.cons (Src.pre rfl rfl) (Srcs.cons (Src.op 4 rfl rfl) Srcs.nil)) (S_when rfl rfl (Has.t rfl) (fun h => op_ld Tryz.isAgg3 Tryz.sizeOf3 (Has.t rfl))) ?_
    refine D_step (Ei := [(17, _), (16, _)]) rfl rfl (Srcs.cons (Src.op 5 rfl rfl) (Srcs.cons (Src.op 4 rfl rfl) Srcs.nil)) (S_when rfl rfl (Has.t rfl) (fun h => op_leqN (Has.w rfl h) (Has.cN 32))) ?_
    refine D_step (Ei := [(16, _), (18, _)]) rfl rfl (Srcs.cons (Src.op 4 rfl rfl) (Srcs.cons (Src.op 6 rfl rfl) Srcs.nil)) (S_plain rfl (op_and (Has.t rfl) (fun h => (Has.w rfl h)))) ?_
    refine D_step (Ei := [(19, _)]) rfl rfl (Srcs.cons (Src.op 7 rfl rfl) Srcs.nil) (S_plain rfl (op_move (Has.t rfl))) ?_
    refine D_step (Ei := [(0, _), (20, _)]) rfl rfl (Srcs.cons (Src.pre rfl rfl) (Srcs.cons (Src.op 8 rfl rfl) Srcs.nil)) (S_when rfl rfl (Has.t rfl) (fun h => op_move (Has.t rfl))) ?_
    refine D_step (Ei := [(4, _), (20, _)]) rfl rfl (Srcs.cons (Src.pre rfl rfl) (Srcs.cons (Src.op 8 rfl rfl) Srcs.nil)) (S_when rfl rfl (Has.t rfl) (fun h => op_clos (γ := List Qi) (Ts := fun r => [NumsT r]) (U := fun r => BoolT (!decide (r.length = (a.getD 0 []).length))) Tryz.call228 (fun r => c_columns1) ⟨(Has.t rfl), trivial⟩)) ?_
    refine D_step (Ei := [(21, _), (22, _), (20, _)]) rfl rfl (Srcs.cons (Src.op 9 rfl rfl) (Srcs.cons (Src.op 10 rfl rfl) (Srcs.cons (Src.op 8 rfl rfl) Srcs.nil))) (S_when rfl rfl (Has.t rfl) (fun h => op_call Tryz.call151 (c_ContainsRow (l := a) (T := NumsT) (p := fun r => !decide (r.length = (a.getD 0 []).length)) (by omega)) ⟨(Has.w rfl h), (Has.w rfl h), trivial⟩)) ?_
    refine D_step (Ei := [(23, _), (20, _)]) rfl rfl (Srcs.cons (Src.op 11 rfl rfl) (Srcs.cons (Src.op 8 rfl rfl) Srcs.nil)) (S_when rfl rfl (Has.t rfl) (fun h => op_not (Has.w rfl h))) ?_
    refine D_step (Ei := [(20, _), (24, _)]) rfl rfl (Srcs.cons (Src.op 8 rfl rfl) (Srcs.cons (Src.op 12 rfl rfl) Srcs.nil)) (S_plain rfl (op_and (Has.t rfl) (fun h => (Has.w rfl h)))) ?_
    refine D_step (Ei := [(12, _)]) rfl rfl (Srcs.cons (Src.op 0 rfl rfl) Srcs.nil) (S_plain rfl (op_assign (Has.t rfl))) ?_
    refine D_done mixed rfl (by kernel_rfl) (F_val (F_val (F_val (F_val (F_val (F_val (F_val (F_val (F_val (F_val (F_val (F_val (F_val (F_val (F_val (F_nil ?_))))))))))))))))
    refine R_op rfl rfl rfl (op_assign (Has.t rfl)) ?_
    refine R_nil ?_
    refine T_ret2 rfl (rv_to (rv_tmp rfl) ?_) (rv_to (rv_tmp rfl) ?_)
    · exact (nt_of hr0)
    · exact (bool_of (by rw [hr0, cols_ok ⟨rfl, h2⟩]; simp; omega))
end Go.Proofs.YtppibhcfaahgpaaGreat
namespace Go.Proofs.YtppibhcfaahgpaaGreat
open Go Go.RowKit
theorem meth_49_Add (v : Value) (w : World) : (method (Tryz.prog.types.size + Made.depth) 49 v "Add").run Tryz.prog w = .ok (59, v) w := by kernel_rfl
theorem meth_49_Conj (v : Value) (w : World) : (method (Tryz.prog.types.size + Made.depth) 49 v "Conj").run Tryz.prog w = .ok (263, v) w := by kernel_rfl
theorem meth_49_Mul (v : Value) (w : World) : (method (Tryz.prog.types.size + Made.depth) 49 v "Mul").run Tryz.prog w = .ok (56, v) w := by kernel_rfl
end Go.Proofs.YtppibhcfaahgpaaGreat
namespace Go.Proofs.YtppibhcfaahgpaaGreat
open Go Go.RowKit
set_option maxRecDepth 20000 in
theorem c_ProdO {a b : List (List Qi)} {n k m L M : Nat} (ha : Shp a n k) (hb : Shp b k m) (hfa : FitM a L) (hfb : FitM b M) (hL1 : 1 ≤ L) (hM1 : 1 ≤ M) (hL : L ≤ 100000000) (hM : M ≤ 100000000) (hn1 : 1 ≤ n) (hk1 : 1 ≤ k) (hn : n ≤ 8) (hk : k ≤ 8) (hm : m ≤ 8) : FunO Tryz.prog 153 [NumM a, NumM b] [] (Nat) (fun B => TupT [Is (.slice (some ⟨B, 0, none⟩) n n), IntT .i64 0]) (fun B => [matO B 30 49 5 (FRow NumT (mulM a b n k m))]) (fun _ => True) := by
  have hal := ha.1
  have hbl := hb.1
  refine FunO.intro Tryz.func153 rfl Tryz.ntmps153 rfl (fun cx Z => ?_)
  refine T_seq ?_
  refine T_region ?_
  refine R_op rfl rfl rfl (op_assign Has.c) ?_
  refine R_op rfl rfl rfl (op_assign (Has.cN 0)) ?_
  refine R_nil ?_
  refine T_seq ?_
  refine T_region ?_
  refine R_op rfl rfl rfl (op_move (Has.t rfl)) ?_
  refine R_op rfl rfl rfl (op_call Tryz.call200 (c_columns ha hn1 (by omega) (by omega)) ⟨(Has.t rfl), trivial⟩) ?_
  refine R_op rfl rfl rfl (op_move (Has.t rfl)) ?_
  refine R_op rfl rfl rfl (op_extract (Has.t rfl) rfl) ?_
  refine R_op rfl rfl rfl (op_extract (Has.t rfl) rfl) ?_
  refine R_op rfl rfl rfl (op_assign (Has.t rfl)) ?_
  refine R_op rfl rfl rfl (op_assign (Has.t rfl)) ?_
  refine R_nil ?_
  refine T_seq ?_
  refine T_region ?_
  refine R_op rfl rfl rfl (op_move (Has.t rfl)) ?_
  refine R_op rfl rfl rfl (op_call Tryz.call200 (c_columns hb hk1 (by omega) (by omega)) ⟨(Has.t rfl), trivial⟩) ?_
  refine R_op rfl rfl rfl (op_move (Has.t rfl)) ?_
  refine R_op rfl rfl rfl (op_extract (Has.t rfl) rfl) ?_
  refine R_op rfl rfl rfl (op_extract (Has.t rfl) rfl) ?_
  refine R_op rfl rfl rfl (op_assign (Has.t rfl)) ?_
  refine R_op rfl rfl rfl (op_assign (Has.t rfl)) ?_
  refine R_nil ?_
  refine T_seq ?_
  refine T_seq ?_
  refine T_region ?_
  refine R_op rfl rfl rfl (op_move (Has.t rfl)) ?_
  refine R_op rfl rfl rfl (op_not (Has.t rfl)) ?_
  refine R_op rfl rfl rfl (op_move (Has.t rfl)) ?_
  refine R_step rfl rfl (S_when rfl rfl (Has.t rfl) (fun h => op_move (Has.t rfl))) ?_
  refine R_step rfl rfl (S_when rfl rfl (Has.t rfl) (fun h => op_not (Has.w rfl h))) ?_
  refine R_op rfl rfl rfl (op_or (Has.t rfl) (fun h => (Has.w rfl h))) ?_
  refine R_op rfl rfl rfl (op_move (Has.t rfl)) ?_
  refine R_step rfl rfl (S_when rfl rfl (Has.t rfl) (fun h => op_move (Has.t rfl))) ?_
  refine R_step rfl rfl (S_when rfl rfl (Has.t rfl) (fun h => op_move (Has.t rfl))) ?_
  refine R_step rfl rfl (S_when rfl rfl (Has.t rfl) (fun h => op_len Tryz.runUnderlying31 (Has.w rfl h) len_map)) ?_
  refine R_step rfl rfl (S_when rfl rfl (Has.t rfl) (fun h => op_neqN (Has.w rfl h) (Has.w rfl h))) ?_
  refine R_op rfl rfl rfl (op_or (Has.t rfl) (fun h => (Has.w rfl h))) ?_
  refine R_nil ?_
  refine T_cond (Has.t rfl) (fun h0 => ?_) (fun h0 => ?_)
  · exact absurd h0 (by simp [hbl])
  · refine T_skip ?_
    refine T_seq ?_
    refine T_region ?_
    refine R_op rfl rfl rfl (op_move (Has.t rfl)) ?_
    refine R_op rfl rfl rfl (op_len Tryz.runUnderlying31 (Has.t rfl) len_map) ?_
    refine R_new rfl rfl rfl (new_make (T := Is (.slice none 0 0)) (i := Tryz.t30) Tryz.underlying31 info_30 rfl rfl (Has.t rfl) rfl (fun _ => rfl) trivial (by show 24 * _ ≤ _; omega) (by omega)) (fun B39 => ?_)
    refine R_op rfl rfl rfl (op_assign (Has.t rfl)) ?_
    refine R_nil ?_
    refine T_seq ?_
    refine T_seq ?_
    refine T_region ?_
    refine R_op rfl rfl rfl (op_move (Has.t rfl)) ?_
    refine R_op rfl rfl rfl (op_lenI Tryz.runUnderlying31 (Has.t rfl)) ?_
    refine R_op rfl rfl rfl (op_move (Has.cN 0)) ?_
    refine R_nil ?_
    refine T_block ?_
    refine T_conv 1 rfl (mat_nil (e := 49) (s := 5)) ?_
    refine T_loop (fun (i : Nat) => i ≤ n) (fun (i : Nat) => n - i) (fun (i : Nat) => [(0, NumM a), (1, NumM b), (6, NT .i64 k), (8, NT .i64 m), (10, Is (.slice (some ⟨B39, 0, none⟩) n n)), (41, NT .i64 n), (42, NT .i64 i)]) (fun (i : Nat) => [Z, matO B39 30 49 5 (FRow NumT (mixT (fun i => tab m fun c => dotN a b k i c) [] n i))]) 0 (Nat.zero_le _)
      (Sub.cons rfl (Sub.cons rfl (Sub.cons rfl (Sub.cons rfl (Sub.to rfl (fun v V h => by rw [← hal]; exact h) (Sub.to rfl (nt_of hal) (Sub.cons rfl Sub.nil))))))) (HSub.cons (fun _ _ _ h => h) (HSub.cons (matO_of (by rw [← mix_zero, tab_const, hal]; exact rep_FRow NumT n)) HSub.nil)) (fun i hi => ?_)
    refine T_seq ?_
    refine T_region ?_
    refine R_op rfl rfl rfl (op_lssN (Has.t rfl) (Has.t rfl)) ?_
    refine R_nil ?_
    refine T_seq ?_
    refine T_cond (Has.t rfl) (fun hd => ?_) (fun hd => ?_)
    · simp only [decide_eq_true_eq] at hd
      have har := ha.row hd
      have hb0 := hb.row (i := 0) (by omega)
      refine T_focus 1 (i) rfl (frow_mix hd) (fun v => ?_)
      refine T_skip ?_
      refine T_seq ?_
      refine T_block ?_
      refine T_seq ?_
      refine T_region ?_
      refine R_op rfl rfl rfl (op_move (Has.t rfl)) ?_
      refine R_op rfl rfl rfl (op_assign (Has.t rfl)) ?_
      refine R_nil ?_
      refine T_seq ?_
      refine T_region ?_
      refine R_op rfl rfl rfl (op_move (Has.t rfl)) ?_
      refine R_op rfl rfl rfl (op_move (Has.cN 0)) ?_
      refine R_nil ?_
      refine T_block ?_
      refine T_loop2 (fun (c : Nat) (v : Value) => c ≤ m) (fun (c : Nat) (v : Value) => m - c) (fun (c : Nat) (v : Value) => [(0, NumM a), (1, NumM b), (6, NT .i64 k), (8, NT .i64 m), (10, Is (.slice (some ⟨B39, 0, none⟩) n n)), (11, NT .i64 i), (41, NT .i64 n), (42, NT .i64 i), (45, NT .i64 m), (46, NT .i64 c)]) (fun (c : Nat) (v : Value) => [Z, matH B39 30 49 5 (FRow NumT (mixT (fun i => tab m fun c => dotN a b k i c) [] n i)) i v, rowO 49 5 v ((tab c fun c => dotN a b k i c).map NumT)]) 0 v (Nat.zero_le _)
        (Sub.cons rfl (Sub.cons rfl (Sub.cons rfl (Sub.cons rfl (Sub.cons rfl (Sub.cons rfl (Sub.cons rfl (Sub.cons rfl (Sub.cons rfl (Sub.cons rfl Sub.nil)))))))))) (HSub.refl _) (fun c v hc => ?_)
      refine T_seq ?_
      refine T_region ?_
      refine R_op rfl rfl rfl (op_lssN (Has.t rfl) (Has.t rfl)) ?_
      refine R_nil ?_
      refine T_seq ?_
      refine T_cond (Has.t rfl) (fun he => ?_) (fun he => ?_)
      · simp only [decide_eq_true_eq] at he
        haveI f1 : FitC (gm a i 0) L := hfa.get hL1 i 0
        haveI f2 : FitC (gm b 0 c) M := hfb.get hM1 0 c
        refine T_skip ?_
        refine T_seq ?_
        refine T_block ?_
        refine T_seq ?_
        refine T_region ?_
        refine R_op rfl rfl rfl (op_move (Has.t rfl)) ?_
        refine R_op rfl rfl rfl (op_assign (Has.t rfl)) ?_
        refine R_nil ?_
        refine T_seq ?_
        refine D_start (m := 15) ?_
        refine D_step (Ei := [(0, _)]) rfl rfl (Srcs.cons (Src.pre rfl rfl) Srcs.nil) (S_plain rfl (op_move (Has.t rfl))) ?_
        refine D_step (Ei := [(11, _)]) rfl rfl (Srcs.cons (Src.pre rfl rfl) Srcs.nil) (S_plain rfl (op_move (Has.t rfl))) ?_
        refine D_step (Ei := [(49, _), (50, _)]) rfl rfl (Srcs.cons (Src.op 0 rfl rfl) (Srcs.cons (Src.op 1 rfl rfl) Srcs.nil)) (S_plain rfl (op_idx Tryz.runUnderlying31 Tryz.sizeOf30 (Has.t rfl) (Has.t rfl) rfl (map_get (getD_some (d := []) (by omega))))) ?_
        refine D_step (Ei := [(51, _)]) rfl rfl (Srcs.cons (Src.op 2 rfl rfl) Srcs.nil) (S_plain rfl (op_ld Tryz.isAgg30 Tryz.sizeOf30 (Has.t rfl))) ?_
        refine D_step (Ei := [(52, _)]) rfl rfl (Srcs.cons (Src.op 3 rfl rfl) Srcs.nil) (S_plain rfl (op_idx Tryz.runUnderlying30 Tryz.sizeOf49 (Has.t rfl) (Has.cN 0) rfl (map_get (getD_some (d := Qi.zero) (by rw [har]; omega))))) ?_
        refine D_step (Ei := [(53, _)]) rfl rfl (Srcs.cons (Src.op 4 rfl rfl) Srcs.nil) (S_plain rfl (op_ld Tryz.isAgg49 Tryz.sizeOf49 (Has.t rfl))) ?_
        refine D_step (Ei := [(54, _)]) rfl rfl (Srcs.cons (Src.op 5 rfl rfl) Srcs.nil) (S_plain rfl (op_iface mkif_49 (Has.t rfl))) ?_
        refine D_step (Ei := [(1, _)]) rfl rfl (Srcs.cons (Src.pre rfl rfl) Srcs.nil) (S_plain rfl (op_move (Has.t rfl))) ?_
        refine D_step (Ei := [(56, _)]) rfl rfl (Srcs.cons (Src.op 7 rfl rfl) Srcs.nil) (S_plain rfl (op_idx Tryz.runUnderlying31 Tryz.sizeOf30 (Has.t rfl) (Has.cN 0) rfl (map_get (getD_some (d := []) (by omega))))) ?_
        refine D_step (Ei := [(57, _)]) rfl rfl (Srcs.cons (Src.op 8 rfl rfl) Srcs.nil) (S_plain rfl (op_ld Tryz.isAgg30 Tryz.sizeOf30 (Has.t rfl))) ?_
        refine D_step (Ei := [(12, _)]) rfl rfl (Srcs.cons (Src.pre rfl rfl) Srcs.nil) (S_plain rfl (op_move (Has.t rfl))) ?_
        refine D_step (Ei := [(58, _), (59, _)]) rfl rfl (Srcs.cons (Src.op 9 rfl rfl) (Srcs.cons (Src.op 10 rfl rfl) Srcs.nil)) (S_plain rfl (op_idx Tryz.runUnderlying30 Tryz.sizeOf49 (Has.t rfl) (Has.t rfl) rfl (map_get (getD_some (d := Qi.zero) (by rw [hb0]; omega))))) ?_
        refine D_step (Ei := [(60, _)]) rfl rfl (Srcs.cons (Src.op 11 rfl rfl) Srcs.nil) (S_plain rfl (op_ld Tryz.isAgg49 Tryz.sizeOf49 (Has.t rfl))) ?_
        refine D_step (Ei := [(55, _), (61, _)]) rfl rfl (Srcs.cons (Src.op 6 rfl rfl) (Srcs.cons (Src.op 12 rfl rfl) Srcs.nil)) (S_plain rfl (op_invoke meth_49_Mul Tryz.call56 (c_Mul (by omega)) (Has.t rfl) ⟨(Has.t rfl), trivial⟩)) ?_
        refine D_new (Ei := []) rfl rfl rfl Srcs.nil (new_alloc (Ts := [Is (.bool false), Is (.slice none 0 0), Is (.bool false), Is (.slice none 0 0), Is (.slice none 0 0)]) Tryz.zeroValue49 rfl (fun V => Cells.cons' ⟨rfl, trivial⟩ (Cells.cons' ⟨rfl, trivial⟩ (Cells.cons' ⟨rfl, trivial⟩ (Cells.cons' ⟨rfl, trivial⟩ (Cells.cons' ⟨rfl, trivial⟩ (Cells.nil))))))) ?_
        refine D_done mixed rfl (by kernel_rfl) (F_val (F_val (F_val (F_val (F_val (F_val (F_val (F_val (F_val (F_val (F_val (F_val (F_val (F_val (F_new (fun B13 => F_nil ?_))))))))))))))))
        refine R_stA Tryz.sizeOf49 (Has.t rfl) (Has.t rfl) rfl (i := 3) rfl (Nat.le_of_ble_eq_true rfl) rfl rfl ?_
        refine R_nil ?_
        refine T_seq ?_
        refine T_seq ?_
        refine T_region ?_
        refine R_op rfl rfl rfl (op_assign (Has.cN 1)) ?_
        refine R_nil ?_
        refine T_block ?_
        refine T_loop (fun (j : Nat) => 1 ≤ j ∧ j ≤ k) (fun (j : Nat) => k - j) (fun (j : Nat) => [(0, NumM a), (1, NumM b), (6, NT .i64 k), (8, NT .i64 m), (10, Is (.slice (some ⟨B39, 0, none⟩) n n)), (11, NT .i64 i), (12, NT .i64 c), (13, PtrB B13 0), (14, NT .i64 j), (41, NT .i64 n), (42, NT .i64 i), (45, NT .i64 m), (46, NT .i64 c)]) (fun (j : Nat) => [Z, matH B39 30 49 5 (FRow NumT (mixT (fun i => tab m fun c => dotN a b k i c) [] n i)) i v, rowO 49 5 v ((tab c fun c => dotN a b k i c).map NumT), box B13 49 [BoolT (decide ((sumN j fun j => gm a i j * gm b j c).a < 0)), NatT (sumN j fun j => gm a i j * gm b j c).a.natAbs, BoolT (decide ((sumN j fun j => gm a i j * gm b j c).b < 0)), NatT (sumN j fun j => gm a i j * gm b j c).b.natAbs, NatT (du (sumN j fun j => gm a i j * gm b j c))]]) 1 ⟨Nat.le_refl _, hk1⟩
          (Sub.cons rfl (Sub.cons rfl (Sub.cons rfl (Sub.cons rfl (Sub.cons rfl (Sub.cons rfl (Sub.cons rfl (Sub.cons rfl (Sub.cons rfl (Sub.cons rfl (Sub.cons rfl (Sub.cons rfl (Sub.cons rfl Sub.nil))))))))))))) (HSub.cons (fun _ _ _ h => h) (HSub.cons (fun _ _ _ h => h) (HSub.cons (fun _ _ _ h => h) (HSub.cons (box_of (by rw [sumN_one]; rfl)) HSub.nil)))) (fun j ⟨hj1, hj⟩ => ?_)
        refine T_seq ?_
        refine T_seq ?_
        refine T_region ?_
        refine R_op rfl rfl rfl (op_move (Has.t rfl)) ?_
        refine R_op rfl rfl rfl (op_move (Has.t rfl)) ?_
        refine R_op rfl rfl rfl (op_lssN (Has.t rfl) (Has.t rfl)) ?_
        refine R_nil ?_
        refine T_cond (Has.t rfl) (fun hf => ?_) (fun hf => ?_)
        · simp only [decide_eq_true_eq] at hf
          haveI f3 : FitC (gm a i j) L := hfa.get hL1 i j
          haveI f4 : FitC (gm b j c) M := hfb.get hM1 j c
          haveI f5 : FitC (sumN j fun j => gm a i j * gm b j c) (8 * (L + M) + 17) := dot_fit hfa hfb hL1 hM1 (by omega) i c
          have hbj := hb.row (i := j) (by omega)
          refine T_skip ?_
          refine T_seq ?_
          refine T_block ?_
          refine D_start (m := 18) ?_
          refine D_step (Ei := [(13, _)]) rfl rfl (Srcs.cons (Src.pre rfl rfl) Srcs.nil) (S_plain rfl (op_ldBA Tryz.isAgg49 Tryz.sizeOf49 (Has.t rfl) (i := 3) rfl rfl rfl)) ?_
          refine D_step (Ei := [(68, _)]) rfl rfl (Srcs.cons (Src.op 0 rfl rfl) Srcs.nil) (S_plain rfl (op_iface mkif_49 (Has.t rfl))) ?_
          refine D_step (Ei := [(0, _)]) rfl rfl (Srcs.cons (Src.pre rfl rfl) Srcs.nil) (S_plain rfl (op_move (Has.t rfl))) ?_
          refine D_step (Ei := [(11, _)]) rfl rfl (Srcs.cons (Src.pre rfl rfl) Srcs.nil) (S_plain rfl (op_move (Has.t rfl))) ?_
          refine D_step (Ei := [(70, _), (71, _)]) rfl rfl (Srcs.cons (Src.op 2 rfl rfl) (Srcs.cons (Src.op 3 rfl rfl) Srcs.nil)) (S_plain rfl (op_idx Tryz.runUnderlying31 Tryz.sizeOf30 (Has.t rfl) (Has.t rfl) rfl (map_get (getD_some (d := []) (by omega))))) ?_
          refine D_step (Ei := [(72, _)]) rfl rfl (Srcs.cons (Src.op 4 rfl rfl) Srcs.nil) (S_plain rfl (op_ld Tryz.isAgg30 Tryz.sizeOf30 (Has.t rfl))) ?_
          refine D_step (Ei := [(14, _)]) rfl rfl (Srcs.cons (Src.pre rfl rfl) Srcs.nil) (S_plain rfl (op_move (Has.t rfl))) ?_
          refine D_step (Ei := [(73, _), (74, _)]) rfl rfl (Srcs.cons (Src.op 5 rfl rfl) (Srcs.cons (Src.op 6 rfl rfl) Srcs.nil)) (S_plain rfl (op_idx Tryz.runUnderlying30 Tryz.sizeOf49 (Has.t rfl) (Has.t rfl) rfl (map_get (getD_some (d := Qi.zero) (by rw [har]; omega))))) ?_
          refine D_step (Ei := [(75, _)]) rfl rfl (Srcs.cons (Src.op 7 rfl rfl) Srcs.nil) (S_plain rfl (op_ld Tryz.isAgg49 Tryz.sizeOf49 (Has.t rfl))) ?_
          refine D_step (Ei := [(76, _)]) rfl rfl (Srcs.cons (Src.op 8 rfl rfl) Srcs.nil) (S_plain rfl (op_iface mkif_49 (Has.t rfl))) ?_
          refine D_step (Ei := [(1, _)]) rfl rfl (Srcs.cons (Src.pre rfl rfl) Srcs.nil) (S_plain rfl (op_move (Has.t rfl))) ?_
          refine D_step (Ei := [(14, _)]) rfl rfl (Srcs.cons (Src.pre rfl rfl) Srcs.nil) (S_plain rfl (op_move (Has.t rfl))) ?_
          refine D_step (Ei := [(78, _), (79, _)]) rfl rfl (Srcs.cons (Src.op 10 rfl rfl) (Srcs.cons (Src.op 11 rfl rfl) Srcs.nil)) (S_plain rfl (op_idx Tryz.runUnderlying31 Tryz.sizeOf30 (Has.t rfl) (Has.t rfl) rfl (map_get (getD_some (d := []) (by omega))))) ?_
          refine D_step (Ei := [(80, _)]) rfl rfl (Srcs.cons (Src.op 12 rfl rfl) Srcs.nil) (S_plain rfl (op_ld Tryz.isAgg30 Tryz.sizeOf30 (Has.t rfl))) ?_
          refine D_step (Ei := [(12, _)]) rfl rfl (Srcs.cons (Src.pre rfl rfl) Srcs.nil) (S_plain rfl (op_move (Has.t rfl))) ?_
          refine D_step (Ei := [(81, _), (82, _)]) rfl rfl (Srcs.cons (Src.op 13 rfl rfl) (Srcs.cons (Src.op 14 rfl rfl) Srcs.nil)) (S_plain rfl (op_idx Tryz.runUnderlying30 Tryz.sizeOf49 (Has.t rfl) (Has.t rfl) rfl (map_get (getD_some (d := Qi.zero) (by rw [hbj]; omega))))) ?_
          refine D_step (Ei := [(83, _)]) rfl rfl (Srcs.cons (Src.op 15 rfl rfl) Srcs.nil) (S_plain rfl (op_ld Tryz.isAgg49 Tryz.sizeOf49 (Has.t rfl))) ?_
          refine D_step (Ei := [(77, _), (84, _)]) rfl rfl (Srcs.cons (Src.op 9 rfl rfl) (Srcs.cons (Src.op 16 rfl rfl) Srcs.nil)) (S_plain rfl (op_invoke meth_49_Mul Tryz.call56 (c_Mul (by omega)) (Has.t rfl) ⟨(Has.t rfl), trivial⟩)) ?_
          refine D_done mixed rfl (by kernel_rfl) (F_val (F_val (F_val (F_val (F_val (F_val (F_val (F_val (F_val (F_val (F_val (F_val (F_val (F_val (F_val (F_val (F_val (F_val (F_nil ?_)))))))))))))))))))
          refine R_op rfl rfl rfl (op_invoke meth_49_Add Tryz.call59 (c_Add (by omega)) (Has.t rfl) ⟨(Has.t rfl), trivial⟩) ?_
          refine R_stA Tryz.sizeOf49 (Has.t rfl) (Has.t rfl) rfl (i := 3) rfl (Nat.le_of_ble_eq_true rfl) rfl rfl ?_
          refine R_nil ?_
          refine T_blk ?_
          refine T_region ?_
          refine R_op rfl rfl rfl (op_move (Has.t rfl)) ?_
          refine R_op rfl rfl rfl (op_addN (Has.t rfl) (Has.cN 1) (by show _ < 9223372036854775808; first | omega | (simp only [lim]; omega))) ?_
          refine R_op rfl rfl rfl (op_assign (Has.t rfl)) ?_
          refine R_nil ?_
          refine T_again (j + 1) ⟨by omega, hf⟩ (by omega) (Sub.cons rfl (Sub.cons rfl (Sub.cons rfl (Sub.cons rfl (Sub.cons rfl (Sub.cons rfl (Sub.cons rfl (Sub.cons rfl (Sub.cons rfl (Sub.cons rfl (Sub.cons rfl (Sub.cons rfl (Sub.cons rfl Sub.nil))))))))))))) (HSub.cons (fun _ _ _ h => h) (HSub.cons (fun _ _ _ h => h) (HSub.cons (fun _ _ _ h => h) (HSub.cons (box_of rfl) HSub.nil))))
        · simp only [decide_eq_false_iff_not] at hf
          obtain rfl : k = j := Nat.le_antisymm (by omega) hj
          refine T_exit rfl ?_
          refine Y.D_startA (m := 9) [] 8 2 rfl rfl ?_
          refine Y.D_hide (Ei := [(10, _)]) rfl rfl (Y.Srcs.cons (Y.Src.pre rfl rfl) Y.Srcs.nil) rfl rfl (S_plain rfl (op_move (Has.t rfl))) ?_
          refine Y.D_hide (Ei := [(11, _)]) rfl rfl (Y.Srcs.cons (Y.Src.pre rfl rfl) Y.Srcs.nil) rfl rfl (S_plain rfl (op_move (Has.t rfl))) ?_
          refine Y.D_hide (Ei := [(10, _)]) rfl rfl (Y.Srcs.cons (Y.Src.pre rfl rfl) Y.Srcs.nil) rfl rfl (S_plain rfl (op_move (Has.t rfl))) ?_
          refine Y.D_hide (Ei := [(11, _)]) rfl rfl (Y.Srcs.cons (Y.Src.pre rfl rfl) Y.Srcs.nil) rfl rfl (S_plain rfl (op_move (Has.t rfl))) ?_
          refine Y.D_hide (Ei := [(89, _), (90, _)]) rfl rfl (Y.Srcs.cons (Y.Src.op 2 rfl rfl) (Y.Srcs.cons (Y.Src.op 3 rfl rfl) Y.Srcs.nil)) rfl rfl (S_plain rfl (op_idxB Tryz.runUnderlying31 Tryz.sizeOf30 (Has.t rfl) (Has.t rfl) rfl (by omega) (by rw [Nat.mul_one, Nat.zero_add]))) ?_
          refine Y.D_hide (Ei := [(91, _)]) rfl rfl (Y.Srcs.cons (Y.Src.op 4 rfl rfl) Y.Srcs.nil) rfl rfl (S_plain rfl (op_ldH Tryz.isAgg30 Tryz.sizeOf30 (Has.t rfl) (j := 1) rfl)) ?_
          refine Y.D_hide (Ei := [(13, _)]) rfl rfl (Y.Srcs.cons (Y.Src.pre rfl rfl) Y.Srcs.nil) rfl rfl (S_plain rfl (op_ldBA Tryz.isAgg49 Tryz.sizeOf49 (Has.t rfl) (i := 3) rfl rfl rfl)) ?_
          refine Y.D_hide (Ei := [(93, _)]) rfl rfl (Y.Srcs.cons (Y.Src.op 6 rfl rfl) Y.Srcs.nil) rfl rfl (S_plain rfl (op_bslice (xs := [.tmp 93]) Tryz.runUnderlying30 Tryz.sizeOf49 Tryz.zeroValue49 (Elems.cons (Has.t rfl) Elems.nil) rfl rfl rfl)) ?_
          refine Y.D_app (Ei := [(92, _), (94, _)]) rfl rfl rfl rfl (Y.Srcs.cons (Y.Src.op 5 rfl rfl) (Y.Srcs.cons (Y.Src.op 7 rfl rfl) Y.Srcs.nil)) rfl (A_append (inf := Tryz.t49) und_30 info_49 rfl rfl rfl (Has.t rfl) (Has.t rfl) (by simp) (fun T hT => by simp at hT; subst hT; exact El.ag rfl) (by show _ * 88 ≤ _; simp only [List.length_map, tab_len, List.length_cons, List.length_nil]; omega) (by simp only [List.length_map, tab_len, List.length_cons, List.length_nil]; omega)) ?_
          refine Y.D_done mixed rfl (by kernel_rfl) rfl (by simp [Y.okP]) rfl rfl (Y.F_val (Y.F_val (Y.F_val (Y.F_val (Y.F_val (Y.F_val (Y.F_val (Y.F_val (Y.F_app (fun v2 => Y.F_nil ?_))))))))))
          refine R_op rfl rfl rfl (op_idxB Tryz.runUnderlying31 Tryz.sizeOf30 (Has.t rfl) (Has.t rfl) rfl (by omega) (by rw [Nat.mul_one, Nat.zero_add])) ?_
          refine R_stH Tryz.sizeOf30 (Has.t rfl) (Has.t rfl) (by simp only [FRow, List.length_map, mix_len]; omega) (j := 1) (l := 4) rfl rfl rfl ?_
          refine R_nil ?_
          refine T_blk ?_
          refine T_region ?_
          refine R_op rfl rfl rfl (op_addN (Has.t rfl) (Has.cN 1) (by show _ < 9223372036854775808; first | omega | (simp only [lim]; omega))) ?_
          refine R_op rfl rfl rfl (op_move (Has.t rfl)) ?_
          refine R_nil ?_
          refine T_keep [0, 1, 4] rfl (by decide) ?_
          refine T_again (c + 1, v2) he (by dsimp only; omega) (Sub.cons rfl (Sub.cons rfl (Sub.cons rfl (Sub.cons rfl (Sub.cons rfl (Sub.cons rfl (Sub.cons rfl (Sub.cons rfl (Sub.cons rfl (Sub.cons rfl Sub.nil)))))))))) (HSub.cons (fun _ _ _ h => h) (HSub.cons (fun _ _ _ h => h) (HSub.cons (rowO_of ((app_mapF NumT _ (dotN a b k i c)).trans (congrArg _ (tab_succ c (fun c => dotN a b k i c)).symm))) HSub.nil)))
      · simp only [decide_eq_false_iff_not] at he
        obtain rfl : m = c := Nat.le_antisymm (by omega) hc
        refine T_exit rfl ?_
        refine T_blk ?_
        refine T_unfocus 1 2 rfl rfl (by decide) (by simp only [FRow, List.length_map, mix_len]; omega) ?_
        refine T_region ?_
        refine R_op rfl rfl rfl (op_addN (Has.t rfl) (Has.cN 1) (by show _ < 9223372036854775808; first | omega | (simp only [lim]; omega))) ?_
        refine R_op rfl rfl rfl (op_move (Has.t rfl)) ?_
        refine R_nil ?_
        refine T_keep [0, 1] rfl (by decide) ?_
        refine T_again (i + 1) hd (by omega) (Sub.cons rfl (Sub.cons rfl (Sub.cons rfl (Sub.cons rfl (Sub.cons rfl (Sub.cons rfl (Sub.cons rfl Sub.nil))))))) (HSub.cons (fun _ _ _ h => h) (HSub.cons (matO_of (by rw [set_FRow, ← mix_set (f := (fun i => tab m fun c => dotN a b k i c))])) HSub.nil))
    · simp only [decide_eq_false_iff_not] at hd
      obtain rfl : n = i := Nat.le_antisymm (by omega) hi
      refine T_exit rfl ?_
      refine T_seq ?_
      refine T_region ?_
      refine R_op rfl rfl rfl (op_move (Has.t rfl)) ?_
      refine R_op rfl rfl rfl (op_assign (Has.t rfl)) ?_
      refine R_op rfl rfl rfl (op_assign (Has.cN 0)) ?_
      refine R_nil ?_
      exact T_retO B39 trivial [0, 1] ⟨⟨_, rfl, fun _ _ _ h => h⟩, ⟨_, rfl, (matO_of (by rw [mix_fin]; rfl))⟩, trivial⟩ (by decide) (rvs2 rfl (rv_tmp rfl) (rv_tmp rfl))
theorem c_Prod {a b : List (List Qi)} {n k m L M : Nat} (ha : Shp a n k) (hb : Shp b k m) (hfa : FitM a L) (hfb : FitM b M) (hL1 : 1 ≤ L) (hM1 : 1 ≤ M) (hL : L ≤ 100000000) (hM : M ≤ 100000000) (hn1 : 1 ≤ n) (hk1 : 1 ≤ k) (hn : n ≤ 8) (hk : k ≤ 8) (hm : m ≤ 8) : Fun Tryz.prog 153 [NumM a, NumM b] (TupT [NumM (mulM a b n k m), IntT .i64 0]) := (c_ProdO ha hb hfa hfb hL1 hM1 hL hM hn1 hk1 hn hk hm).fun fun B _ v S V h1 h2 => tup1 h1 fun u hu => frz_matF (s := 5) (M := mulM a b n k m) (tab_len _ _).symm u S V hu h2
set_option maxRecDepth 20000 in
theorem c_AdjO {a : List (List Qi)} {n m : Nat} (ha : Shp a n m) (hn1 : 1 ≤ n) (hn : n ≤ 8) (hm : m ≤ 8) : FunO Tryz.prog 154 [NumM a] [] (Nat) (fun B => TupT [Is (.slice (some ⟨B, 0, none⟩) m m), IntT .i64 0]) (fun B => [matO B 30 49 5 (FRow NumT (adjM a n m))]) (fun _ => True) := by
  have hal := ha.1
  refine FunO.intro Tryz.func154 rfl Tryz.ntmps154 rfl (fun cx Z => ?_)
  refine T_seq ?_
  refine T_region ?_
  refine R_op rfl rfl rfl (op_assign Has.c) ?_
  refine R_op rfl rfl rfl (op_assign (Has.cN 0)) ?_
  refine R_nil ?_
  refine T_seq ?_
  refine T_region ?_
  refine R_op rfl rfl rfl (op_move (Has.t rfl)) ?_
  refine R_op rfl rfl rfl (op_call Tryz.call200 (c_columns ha hn1 (by omega) (by omega)) ⟨(Has.t rfl), trivial⟩) ?_
  refine R_op rfl rfl rfl (op_move (Has.t rfl)) ?_
  refine R_op rfl rfl rfl (op_extract (Has.t rfl) rfl) ?_
  refine R_op rfl rfl rfl (op_extract (Has.t rfl) rfl) ?_
  refine R_op rfl rfl rfl (op_assign (Has.t rfl)) ?_
  refine R_op rfl rfl rfl (op_assign (Has.t rfl)) ?_
  refine R_nil ?_
  refine T_seq ?_
  refine T_seq ?_
  refine T_region ?_
  refine R_op rfl rfl rfl (op_move (Has.t rfl)) ?_
  refine R_op rfl rfl rfl (op_not (Has.t rfl)) ?_
  refine R_nil ?_
  refine T_cond (Has.t rfl) (fun h0 => ?_) (fun h0 => ?_)
  · exact absurd h0 (by simp)
  · refine T_skip ?_
    refine T_seq ?_
    refine T_region ?_
    refine R_op rfl rfl rfl (op_move (Has.t rfl)) ?_
    refine R_new rfl rfl rfl (new_make (T := Is (.slice none 0 0)) (i := Tryz.t30) Tryz.underlying31 info_30 rfl rfl (Has.t rfl) rfl (fun _ => rfl) trivial (by show 24 * _ ≤ _; omega) (by omega)) (fun B17 => ?_)
    refine R_op rfl rfl rfl (op_assign (Has.t rfl)) ?_
    refine R_nil ?_
    refine T_seq ?_
    refine T_seq ?_
    refine T_region ?_
    refine R_op rfl rfl rfl (op_move (Has.t rfl)) ?_
    refine R_op rfl rfl rfl (op_lenI Tryz.runUnderlying31 (Has.t rfl)) ?_
    refine R_op rfl rfl rfl (op_move (Has.cN 0)) ?_
    refine R_nil ?_
    refine T_block ?_
    refine T_conv 1 rfl (mat_nil (e := 49) (s := 5)) ?_
    refine T_loop (fun (k : Nat) => k ≤ m) (fun (k : Nat) => m - k) (fun (k : Nat) => [(0, NumM a), (6, Is (.slice (some ⟨B17, 0, none⟩) m m)), (19, NT .i64 m), (20, NT .i64 k)]) (fun (k : Nat) => [Z, matO B17 30 49 5 (FRow NumT (mixT (fun k => tab n fun i => (gm a i k).conj) [] m k))]) 0 (Nat.zero_le _)
      (Sub.cons rfl (Sub.cons rfl (Sub.cons rfl (Sub.cons rfl Sub.nil)))) (HSub.cons (fun _ _ _ h => h) (HSub.cons (matO_of (by rw [← mix_zero, tab_const]; exact rep_FRow NumT m)) HSub.nil)) (fun k hk => ?_)
    refine T_seq ?_
    refine T_region ?_
    refine R_op rfl rfl rfl (op_lssN (Has.t rfl) (Has.t rfl)) ?_
    refine R_nil ?_
    refine T_seq ?_
    refine T_cond (Has.t rfl) (fun hd => ?_) (fun hd => ?_)
    · simp only [decide_eq_true_eq] at hd
      refine T_focus 1 (k) rfl (frow_mix hd) (fun v => ?_)
      refine T_skip ?_
      refine T_seq ?_
      refine T_block ?_
      refine T_seq ?_
      refine T_region ?_
      refine R_op rfl rfl rfl (op_move (Has.t rfl)) ?_
      refine R_op rfl rfl rfl (op_assign (Has.t rfl)) ?_
      refine R_nil ?_
      refine T_seq ?_
      refine T_region ?_
      refine R_op rfl rfl rfl (op_move (Has.t rfl)) ?_
      refine R_op rfl rfl rfl (op_len Tryz.runUnderlying31 (Has.t rfl) len_map) ?_
      refine R_op rfl rfl rfl (op_move (Has.cN 0)) ?_
      refine R_nil ?_
      refine T_block ?_
      refine T_loop2 (fun (i : Nat) (v : Value) => i ≤ n) (fun (i : Nat) (v : Value) => n - i) (fun (i : Nat) (v : Value) => [(0, NumM a), (6, Is (.slice (some ⟨B17, 0, none⟩) m m)), (7, NT .i64 k), (19, NT .i64 m), (20, NT .i64 k), (24, NT .i64 n), (25, NT .i64 i)]) (fun (i : Nat) (v : Value) => [Z, matH B17 30 49 5 (FRow NumT (mixT (fun k => tab n fun i => (gm a i k).conj) [] m k)) k v, rowO 49 5 v ((tab i fun i => (gm a i k).conj).map NumT)]) 0 v (Nat.zero_le _)
        (Sub.cons rfl (Sub.cons rfl (Sub.cons rfl (Sub.cons rfl (Sub.cons rfl (Sub.to rfl (nt_of hal) (Sub.cons rfl Sub.nil))))))) (HSub.refl _) (fun i v hi => ?_)
      refine T_seq ?_
      refine T_region ?_
      refine R_op rfl rfl rfl (op_lssN (Has.t rfl) (Has.t rfl)) ?_
      refine R_nil ?_
      refine T_seq ?_
      refine T_cond (Has.t rfl) (fun he => ?_) (fun he => ?_)
      · simp only [decide_eq_true_eq] at he
        have har := ha.row he
        refine T_skip ?_
        refine T_seq ?_
        refine T_block ?_
        refine T_seq ?_
        refine T_region ?_
        refine R_op rfl rfl rfl (op_move (Has.t rfl)) ?_
        refine R_op rfl rfl rfl (op_assign (Has.t rfl)) ?_
        refine R_nil ?_
        refine Y.D_startA (m := 17) [] 16 2 rfl rfl ?_
        refine Y.D_hide (Ei := [(6, _)]) rfl rfl (Y.Srcs.cons (Y.Src.pre rfl rfl) Y.Srcs.nil) rfl rfl (S_plain rfl (op_move (Has.t rfl))) ?_
        refine Y.D_hide (Ei := [(7, _)]) rfl rfl (Y.Srcs.cons (Y.Src.pre rfl rfl) Y.Srcs.nil) rfl rfl (S_plain rfl (op_move (Has.t rfl))) ?_
        refine Y.D_hide (Ei := [(6, _)]) rfl rfl (Y.Srcs.cons (Y.Src.pre rfl rfl) Y.Srcs.nil) rfl rfl (S_plain rfl (op_move (Has.t rfl))) ?_
        refine Y.D_hide (Ei := [(7, _)]) rfl rfl (Y.Srcs.cons (Y.Src.pre rfl rfl) Y.Srcs.nil) rfl rfl (S_plain rfl (op_move (Has.t rfl))) ?_
        refine Y.D_hide (Ei := [(30, _), (31, _)]) rfl rfl (Y.Srcs.cons (Y.Src.op 2 rfl rfl) (Y.Srcs.cons (Y.Src.op 3 rfl rfl) Y.Srcs.nil)) rfl rfl (S_plain rfl (op_idxB Tryz.runUnderlying31 Tryz.sizeOf30 (Has.t rfl) (Has.t rfl) rfl (by omega) (by rw [Nat.mul_one, Nat.zero_add]))) ?_
        refine Y.D_hide (Ei := [(32, _)]) rfl rfl (Y.Srcs.cons (Y.Src.op 4 rfl rfl) Y.Srcs.nil) rfl rfl (S_plain rfl (op_ldH Tryz.isAgg30 Tryz.sizeOf30 (Has.t rfl) (j := 1) rfl)) ?_
        refine Y.D_hide (Ei := [(0, _)]) rfl rfl (Y.Srcs.cons (Y.Src.pre rfl rfl) Y.Srcs.nil) rfl rfl (S_plain rfl (op_move (Has.t rfl))) ?_
        refine Y.D_hide (Ei := [(8, _)]) rfl rfl (Y.Srcs.cons (Y.Src.pre rfl rfl) Y.Srcs.nil) rfl rfl (S_plain rfl (op_move (Has.t rfl))) ?_
        refine Y.D_hide (Ei := [(34, _), (35, _)]) rfl rfl (Y.Srcs.cons (Y.Src.op 6 rfl rfl) (Y.Srcs.cons (Y.Src.op 7 rfl rfl) Y.Srcs.nil)) rfl rfl (S_plain rfl (op_idx Tryz.runUnderlying31 Tryz.sizeOf30 (Has.t rfl) (Has.t rfl) rfl (map_get (getD_some (d := []) (by omega))))) ?_
        refine Y.D_hide (Ei := [(36, _)]) rfl rfl (Y.Srcs.cons (Y.Src.op 8 rfl rfl) Y.Srcs.nil) rfl rfl (S_plain rfl (op_ld Tryz.isAgg30 Tryz.sizeOf30 (Has.t rfl))) ?_
        refine Y.D_hide (Ei := [(7, _)]) rfl rfl (Y.Srcs.cons (Y.Src.pre rfl rfl) Y.Srcs.nil) rfl rfl (S_plain rfl (op_move (Has.t rfl))) ?_
        refine Y.D_hide (Ei := [(37, _), (38, _)]) rfl rfl (Y.Srcs.cons (Y.Src.op 9 rfl rfl) (Y.Srcs.cons (Y.Src.op 10 rfl rfl) Y.Srcs.nil)) rfl rfl (S_plain rfl (op_idx Tryz.runUnderlying30 Tryz.sizeOf49 (Has.t rfl) (Has.t rfl) rfl (map_get (getD_some (d := Qi.zero) (by rw [har]; omega))))) ?_
        refine Y.D_hide (Ei := [(39, _)]) rfl rfl (Y.Srcs.cons (Y.Src.op 11 rfl rfl) Y.Srcs.nil) rfl rfl (S_plain rfl (op_ld Tryz.isAgg49 Tryz.sizeOf49 (Has.t rfl))) ?_
        refine Y.D_hide (Ei := [(40, _)]) rfl rfl (Y.Srcs.cons (Y.Src.op 12 rfl rfl) Y.Srcs.nil) rfl rfl (S_plain rfl (op_iface mkif_49 (Has.t rfl))) ?_
        refine Y.D_hide (Ei := [(41, _)]) rfl rfl (Y.Srcs.cons (Y.Src.op 13 rfl rfl) Y.Srcs.nil) rfl rfl (S_plain rfl (op_invoke meth_49_Conj Tryz.call263 c_Conj (Has.t rfl) trivial)) ?_
        refine Y.D_hide (Ei := [(42, _)]) rfl rfl (Y.Srcs.cons (Y.Src.op 14 rfl rfl) Y.Srcs.nil) rfl rfl (S_plain rfl (op_bslice (xs := [.tmp 42]) Tryz.runUnderlying30 Tryz.sizeOf49 Tryz.zeroValue49 (Elems.cons (Has.t rfl) Elems.nil) rfl rfl rfl)) ?_
        refine Y.D_app (Ei := [(33, _), (43, _)]) rfl rfl rfl rfl (Y.Srcs.cons (Y.Src.op 5 rfl rfl) (Y.Srcs.cons (Y.Src.op 15 rfl rfl) Y.Srcs.nil)) rfl (A_append (inf := Tryz.t49) und_30 info_49 rfl rfl rfl (Has.t rfl) (Has.t rfl) (by simp) (fun T hT => by simp at hT; subst hT; exact El.ag rfl) (by show _ * 88 ≤ _; simp only [List.length_map, tab_len, List.length_cons, List.length_nil]; omega) (by simp only [List.length_map, tab_len, List.length_cons, List.length_nil]; omega)) ?_
        refine Y.D_done mixed rfl (by kernel_rfl) rfl (by simp [Y.okP]) rfl rfl (Y.F_val (Y.F_val (Y.F_val (Y.F_val (Y.F_val (Y.F_val (Y.F_val (Y.F_val (Y.F_val (Y.F_val (Y.F_val (Y.F_val (Y.F_val (Y.F_val (Y.F_val (Y.F_val (Y.F_app (fun v2 => Y.F_nil ?_))))))))))))))))))
        refine R_op rfl rfl rfl (op_idxB Tryz.runUnderlying31 Tryz.sizeOf30 (Has.t rfl) (Has.t rfl) rfl (by omega) (by rw [Nat.mul_one, Nat.zero_add])) ?_
        refine R_stH Tryz.sizeOf30 (Has.t rfl) (Has.t rfl) (by simp only [FRow, List.length_map, mix_len]; omega) (j := 1) (l := 3) rfl rfl rfl ?_
        refine R_nil ?_
        refine T_blk ?_
        refine T_region ?_
        refine R_op rfl rfl rfl (op_addN (Has.t rfl) (Has.cN 1) (by show _ < 9223372036854775808; first | omega | (simp only [lim]; omega))) ?_
        refine R_op rfl rfl rfl (op_move (Has.t rfl)) ?_
        refine R_nil ?_
        refine T_keep [0, 1, 3] rfl (by decide) ?_
        refine T_again (i + 1, v2) he (by dsimp only; omega) (Sub.cons rfl (Sub.cons rfl (Sub.cons rfl (Sub.cons rfl (Sub.cons rfl (Sub.cons rfl (Sub.cons rfl Sub.nil))))))) (HSub.cons (fun _ _ _ h => h) (HSub.cons (fun _ _ _ h => h) (HSub.cons (rowO_of ((app_mapF NumT _ (gm a i k).conj).trans (congrArg _ (tab_succ i (fun i => (gm a i k).conj)).symm))) HSub.nil)))
      · simp only [decide_eq_false_iff_not] at he
        obtain rfl : n = i := Nat.le_antisymm (by omega) hi
        refine T_exit rfl ?_
        refine T_blk ?_
        refine T_unfocus 1 2 rfl rfl (by decide) (by simp only [FRow, List.length_map, mix_len]; omega) ?_
        refine T_region ?_
        refine R_op rfl rfl rfl (op_addN (Has.t rfl) (Has.cN 1) (by show _ < 9223372036854775808; first | omega | (simp only [lim]; omega))) ?_
        refine R_op rfl rfl rfl (op_move (Has.t rfl)) ?_
        refine R_nil ?_
        refine T_keep [0, 1] rfl (by decide) ?_
        refine T_again (k + 1) hd (by omega) (Sub.cons rfl (Sub.cons rfl (Sub.cons rfl (Sub.cons rfl Sub.nil)))) (HSub.cons (fun _ _ _ h => h) (HSub.cons (matO_of (by rw [set_FRow, ← mix_set (f := (fun k => tab n fun i => (gm a i k).conj))])) HSub.nil))
    · simp only [decide_eq_false_iff_not] at hd
      obtain rfl : m = k := Nat.le_antisymm (by omega) hk
      refine T_exit rfl ?_
      refine T_seq ?_
      refine T_region ?_
      refine R_op rfl rfl rfl (op_move (Has.t rfl)) ?_
      refine R_op rfl rfl rfl (op_assign (Has.t rfl)) ?_
      refine R_op rfl rfl rfl (op_assign (Has.cN 0)) ?_
      refine R_nil ?_
      exact T_retO B17 trivial [0, 1] ⟨⟨_, rfl, fun _ _ _ h => h⟩, ⟨_, rfl, (matO_of (by rw [mix_fin]; rfl))⟩, trivial⟩ (by decide) (rvs2 rfl (rv_tmp rfl) (rv_tmp rfl))
theorem c_Adj {a : List (List Qi)} {n m : Nat} (ha : Shp a n m) (hn1 : 1 ≤ n) (hn : n ≤ 8) (hm : m ≤ 8) : Fun Tryz.prog 154 [NumM a] (TupT [NumM (adjM a n m), IntT .i64 0]) := (c_AdjO ha hn1 hn hm).fun fun B _ v S V h1 h2 => tup1 h1 fun u hu => frz_matF (s := 5) (M := adjM a n m) (tab_len _ _).symm u S V hu h2
set_option maxRecDepth 20000 in
theorem c_scatO {z : List Qi} {s : List (List Qi)} (hsh : Shp s z.length z.length) (hl : z.length ≤ 8) : FunO Tryz.prog 80 [NetT z s] [] (Nat) (fun B => Is (.slice (some ⟨B, 0, none⟩) z.length z.length)) (fun B => [matO B 30 49 5 (FRow NumT (tab z.length fun i => tab z.length fun k => gm s i k))]) (fun _ => True) := by
  refine FunO.intro Tryz.func80 rfl Tryz.ntmps80 rfl (fun cx Z => ?_)
  refine T_seq ?_
  refine T_region ?_
  refine R_new rfl rfl rfl (new_box (Has.t rfl)) (fun B1 => ?_)
  refine R_op rfl rfl rfl (op_assign Has.c) ?_
  refine R_nil ?_
  refine T_seq ?_
  refine T_region ?_
  refine R_op rfl rfl rfl (op_ldBA Tryz.isAgg33 Tryz.sizeOf33 (Has.t rfl) (i := 1) rfl rfl rfl) ?_
  refine R_op rfl rfl rfl (op_call Tryz.call74 c_Ports ⟨(Has.t rfl), trivial⟩) ?_
  refine R_new rfl rfl rfl (new_make (T := Is (.slice none 0 0)) (i := Tryz.t30) Tryz.underlying31 info_30 rfl rfl (Has.t rfl) rfl (fun _ => rfl) trivial (by show 24 * _ ≤ _; omega) (by omega)) (fun B10 => ?_)
  refine R_op rfl rfl rfl (op_assign (Has.t rfl)) ?_
  refine R_nil ?_
  refine T_seq ?_
  refine T_seq ?_
  refine T_region ?_
  refine R_op rfl rfl rfl (op_move (Has.t rfl)) ?_
  refine R_op rfl rfl rfl (op_lenI Tryz.runUnderlying31 (Has.t rfl)) ?_
  refine R_op rfl rfl rfl (op_move (Has.cN 0)) ?_
  refine R_nil ?_
  refine T_block ?_
  refine T_conv 2 rfl (mat_nil (e := 49) (s := 5)) ?_
  refine T_loop (fun (i : Nat) => i ≤ z.length) (fun (i : Nat) => z.length - i) (fun (i : Nat) => [(1, PtrB B1 0), (3, Is (.slice (some ⟨B10, 0, none⟩) z.length z.length)), (12, NT .i64 z.length), (13, NT .i64 i)]) (fun (i : Nat) => [Z, box B1 33 [NumsT z, NumM s], matO B10 30 49 5 (FRow NumT (mixT (fun i => tab z.length fun k => gm s i k) [] z.length i))]) 0 (Nat.zero_le _)
    (Sub.cons rfl (Sub.cons rfl (Sub.cons rfl (Sub.cons rfl Sub.nil)))) (HSub.cons (fun _ _ _ h => h) (HSub.cons (fun _ _ _ h => h) (HSub.cons (matO_of (by rw [← mix_zero, tab_const]; exact rep_FRow NumT z.length)) HSub.nil))) (fun i hi => ?_)
  refine T_seq ?_
  refine T_region ?_
  refine R_op rfl rfl rfl (op_lssN (Has.t rfl) (Has.t rfl)) ?_
  refine R_nil ?_
  refine T_seq ?_
  refine T_cond (Has.t rfl) (fun hd => ?_) (fun hd => ?_)
  · simp only [decide_eq_true_eq] at hd
    refine T_focus 2 (i) rfl (frow_mix hd) (fun v => ?_)
    refine T_skip ?_
    refine T_seq ?_
    refine T_block ?_
    refine T_seq ?_
    refine T_region ?_
    refine R_op rfl rfl rfl (op_move (Has.t rfl)) ?_
    refine R_op rfl rfl rfl (op_assign (Has.t rfl)) ?_
    refine R_nil ?_
    refine T_seq ?_
    refine T_region ?_
    refine R_op rfl rfl rfl (op_move (Has.t rfl)) ?_
    refine R_op rfl rfl rfl (op_lenI Tryz.runUnderlying31 (Has.t rfl)) ?_
    refine R_op rfl rfl rfl (op_move (Has.cN 0)) ?_
    refine R_nil ?_
    refine T_block ?_
    refine T_loop2 (fun (k : Nat) (v : Value) => k ≤ z.length) (fun (k : Nat) (v : Value) => z.length - k) (fun (k : Nat) (v : Value) => [(1, PtrB B1 0), (3, Is (.slice (some ⟨B10, 0, none⟩) z.length z.length)), (4, NT .i64 i), (12, NT .i64 z.length), (13, NT .i64 i), (17, NT .i64 z.length), (18, NT .i64 k)]) (fun (k : Nat) (v : Value) => [Z, box B1 33 [NumsT z, NumM s], matH B10 30 49 5 (FRow NumT (mixT (fun i => tab z.length fun k => gm s i k) [] z.length i)) i v, rowO 49 5 v ((tab k fun k => gm s i k).map NumT)]) 0 v (Nat.zero_le _)
      (Sub.cons rfl (Sub.cons rfl (Sub.cons rfl (Sub.cons rfl (Sub.cons rfl (Sub.cons rfl (Sub.cons rfl Sub.nil))))))) (HSub.refl _) (fun k v hk => ?_)
    refine T_seq ?_
    refine T_region ?_
    refine R_op rfl rfl rfl (op_lssN (Has.t rfl) (Has.t rfl)) ?_
    refine R_nil ?_
    refine T_seq ?_
    refine T_cond (Has.t rfl) (fun he => ?_) (fun he => ?_)
    · simp only [decide_eq_true_eq] at he
      refine T_skip ?_
      refine T_seq ?_
      refine T_block ?_
      refine T_seq ?_
      refine T_region ?_
      refine R_op rfl rfl rfl (op_move (Has.t rfl)) ?_
      refine R_op rfl rfl rfl (op_assign (Has.t rfl)) ?_
      refine R_nil ?_
      refine T_seq ?_
      refine T_region ?_
      refine R_op rfl rfl rfl (op_ldBA Tryz.isAgg33 Tryz.sizeOf33 (Has.t rfl) (i := 1) rfl rfl rfl) ?_
      refine R_op rfl rfl rfl (op_move (Has.t rfl)) ?_
      refine R_op rfl rfl rfl (op_addN (Has.t rfl) (Has.cN 1) (by show _ < 9223372036854775808; first | omega | (simp only [lim]; omega))) ?_
      refine R_op rfl rfl rfl (op_move (Has.t rfl)) ?_
      refine R_op rfl rfl rfl (op_addN (Has.t rfl) (Has.cN 1) (by show _ < 9223372036854775808; first | omega | (simp only [lim]; omega))) ?_
      refine R_op rfl rfl rfl (op_call Tryz.call72 (c_At (i := (i : Int) + 1) (j := (k : Int) + 1) hsh (by omega)) ⟨(Has.t rfl), (Has.t rfl), (Has.t rfl), trivial⟩) ?_
      refine R_op rfl rfl rfl (op_move (Has.t rfl)) ?_
      refine R_op rfl rfl rfl (op_extract (Has.t rfl) rfl) ?_
      refine R_op rfl rfl rfl (op_extract (Has.t rfl) rfl) ?_
      refine R_new rfl rfl rfl (new_alloc (Ts := [Is (.bool false), Is (.slice none 0 0), Is (.bool false), Is (.slice none 0 0), Is (.slice none 0 0)]) Tryz.zeroValue49 rfl (fun V => Cells.cons' ⟨rfl, trivial⟩ (Cells.cons' ⟨rfl, trivial⟩ (Cells.cons' ⟨rfl, trivial⟩ (Cells.cons' ⟨rfl, trivial⟩ (Cells.cons' ⟨rfl, trivial⟩ (Cells.nil))))))) (fun B6 => ?_)
      refine R_stA Tryz.sizeOf49 (Has.t rfl) (Has.t rfl) rfl (i := 4) rfl (Nat.le_of_ble_eq_true rfl) rfl rfl ?_
      refine R_op rfl rfl rfl (op_assign (Has.t rfl)) ?_
      refine R_nil ?_
      refine Y.D_startA (m := 9) [] 8 3 rfl rfl ?_
      refine Y.D_hide (Ei := [(3, _)]) rfl rfl (Y.Srcs.cons (Y.Src.pre rfl rfl) Y.Srcs.nil) rfl rfl (S_plain rfl (op_move (Has.t rfl))) ?_
      refine Y.D_hide (Ei := [(4, _)]) rfl rfl (Y.Srcs.cons (Y.Src.pre rfl rfl) Y.Srcs.nil) rfl rfl (S_plain rfl (op_move (Has.t rfl))) ?_
      refine Y.D_hide (Ei := [(3, _)]) rfl rfl (Y.Srcs.cons (Y.Src.pre rfl rfl) Y.Srcs.nil) rfl rfl (S_plain rfl (op_move (Has.t rfl))) ?_
      refine Y.D_hide (Ei := [(4, _)]) rfl rfl (Y.Srcs.cons (Y.Src.pre rfl rfl) Y.Srcs.nil) rfl rfl (S_plain rfl (op_move (Has.t rfl))) ?_
      refine Y.D_hide (Ei := [(32, _), (33, _)]) rfl rfl (Y.Srcs.cons (Y.Src.op 2 rfl rfl) (Y.Srcs.cons (Y.Src.op 3 rfl rfl) Y.Srcs.nil)) rfl rfl (S_plain rfl (op_idxB Tryz.runUnderlying31 Tryz.sizeOf30 (Has.t rfl) (Has.t rfl) rfl (by omega) (by rw [Nat.mul_one, Nat.zero_add]))) ?_
      refine Y.D_hide (Ei := [(34, _)]) rfl rfl (Y.Srcs.cons (Y.Src.op 4 rfl rfl) Y.Srcs.nil) rfl rfl (S_plain rfl (op_ldH Tryz.isAgg30 Tryz.sizeOf30 (Has.t rfl) (j := 2) rfl)) ?_
      refine Y.D_hide (Ei := [(6, _)]) rfl rfl (Y.Srcs.cons (Y.Src.pre rfl rfl) Y.Srcs.nil) rfl rfl (S_plain rfl (op_ldBA Tryz.isAgg49 Tryz.sizeOf49 (Has.t rfl) (i := 4) rfl rfl rfl)) ?_
      refine Y.D_hide (Ei := [(36, _)]) rfl rfl (Y.Srcs.cons (Y.Src.op 6 rfl rfl) Y.Srcs.nil) rfl rfl (S_plain rfl (op_bslice (xs := [.tmp 36]) Tryz.runUnderlying30 Tryz.sizeOf49 Tryz.zeroValue49 (Elems.cons (Has.t rfl) Elems.nil) rfl rfl rfl)) ?_
      refine Y.D_app (Ei := [(35, _), (37, _)]) rfl rfl rfl rfl (Y.Srcs.cons (Y.Src.op 5 rfl rfl) (Y.Srcs.cons (Y.Src.op 7 rfl rfl) Y.Srcs.nil)) rfl (A_append (inf := Tryz.t49) und_30 info_49 rfl rfl rfl (Has.t rfl) (Has.t rfl) (by simp) (fun T hT => by simp at hT; subst hT; exact El.ag rfl) (by show _ * 88 ≤ _; simp only [List.length_map, tab_len, List.length_cons, List.length_nil]; omega) (by simp only [List.length_map, tab_len, List.length_cons, List.length_nil]; omega)) ?_
      refine Y.D_done mixed rfl (by kernel_rfl) rfl (by simp [Y.okP]) rfl rfl (Y.F_val (Y.F_val (Y.F_val (Y.F_val (Y.F_val (Y.F_val (Y.F_val (Y.F_val (Y.F_app (fun v2 => Y.F_nil ?_))))))))))
      refine R_op rfl rfl rfl (op_idxB Tryz.runUnderlying31 Tryz.sizeOf30 (Has.t rfl) (Has.t rfl) rfl (by omega) (by rw [Nat.mul_one, Nat.zero_add])) ?_
      refine R_stH Tryz.sizeOf30 (Has.t rfl) (Has.t rfl) (by simp only [FRow, List.length_map, mix_len]; omega) (j := 2) (l := 5) rfl rfl rfl ?_
      refine R_nil ?_
      refine T_blk ?_
      refine T_region ?_
      refine R_op rfl rfl rfl (op_addN (Has.t rfl) (Has.cN 1) (by show _ < 9223372036854775808; first | omega | (simp only [lim]; omega))) ?_
      refine R_op rfl rfl rfl (op_move (Has.t rfl)) ?_
      refine R_nil ?_
      refine T_keep [0, 1, 2, 5] rfl (by decide) ?_
      refine T_again (k + 1, v2) he (by dsimp only; omega) (Sub.cons rfl (Sub.cons rfl (Sub.cons rfl (Sub.cons rfl (Sub.cons rfl (Sub.cons rfl (Sub.cons rfl Sub.nil))))))) (HSub.cons (fun _ _ _ h => h) (HSub.cons (fun _ _ _ h => h) (HSub.cons (fun _ _ _ h => h) (HSub.cons (rowO_of (by rw [tab_succ, List.map_append, pkm_at hd he]; rfl)) HSub.nil))))
    · simp only [decide_eq_false_iff_not] at he
      obtain rfl : k = z.length := Nat.le_antisymm hk (by omega)
      refine T_exit rfl ?_
      refine T_blk ?_
      refine T_unfocus 2 3 rfl rfl (by decide) (by simp only [FRow, List.length_map, mix_len]; omega) ?_
      refine T_region ?_
      refine R_op rfl rfl rfl (op_addN (Has.t rfl) (Has.cN 1) (by show _ < 9223372036854775808; first | omega | (simp only [lim]; omega))) ?_
      refine R_op rfl rfl rfl (op_move (Has.t rfl)) ?_
      refine R_nil ?_
      refine T_keep [0, 1, 2] rfl (by decide) ?_
      refine T_again (i + 1) hd (by omega) (Sub.cons rfl (Sub.cons rfl (Sub.cons rfl (Sub.cons rfl Sub.nil)))) (HSub.cons (fun _ _ _ h => h) (HSub.cons (fun _ _ _ h => h) (HSub.cons (matO_of (by rw [set_FRow, ← mix_set (f := (fun i => tab z.length fun k => gm s i k))])) HSub.nil)))
  · simp only [decide_eq_false_iff_not] at hd
    obtain rfl : i = z.length := Nat.le_antisymm hi (by omega)
    refine T_exit rfl ?_
    refine T_seq ?_
    refine T_region ?_
    refine R_op rfl rfl rfl (op_move (Has.t rfl)) ?_
    refine R_op rfl rfl rfl (op_assign (Has.t rfl)) ?_
    refine R_nil ?_
    exact T_retO B10 trivial [0, 2] ⟨⟨_, rfl, fun _ _ _ h => h⟩, ⟨_, rfl, (matO_of (by rw [mix_fin]))⟩, trivial⟩ (by decide) (rvs1 rfl (rv_tmp rfl))
theorem c_scat {z : List Qi} {s : List (List Qi)} (hsh : Shp s z.length z.length) (hl : z.length ≤ 8) : Fun Tryz.prog 80 [NetT z s] (NumM s) := (c_scatO hsh hl).fun fun B _ v S V h1 h2 => by
  have h3 := frz_matF (s := 5) (M := tab z.length fun i => tab z.length fun k => gm s i k) (tab_len _ _).symm v S V h1 h2
  rw [← mat_tab hsh] at h3; exact h3
set_option maxRecDepth 20000 in
theorem c_refs {z : List Qi} {s : List (List Qi)} (hl : z.length ≤ 8) : Fun Tryz.prog 167 [NetT z s] (NumsT z) := by
  refine Fun.intro Tryz.func167 rfl Tryz.ntmps167 rfl (fun cx => ?_)
  refine T_seq ?_
  refine T_region ?_
  refine R_new rfl rfl rfl (new_box (Has.t rfl)) (fun B1 => ?_)
  refine R_op rfl rfl rfl (op_assign Has.c) ?_
  refine R_nil ?_
  refine T_seq ?_
  refine T_region ?_
  refine R_op rfl rfl rfl (op_ldBA Tryz.isAgg33 Tryz.sizeOf33 (Has.t rfl) (i := 0) rfl rfl rfl) ?_
  refine R_op rfl rfl rfl (op_call Tryz.call74 c_Ports ⟨(Has.t rfl), trivial⟩) ?_
  refine R_new rfl rfl rfl (new_makeO (T := NumT Qi.zero) (i := Tryz.t49) und_30 info_49 rfl rfl (Has.t rfl) rfl num_zero_p (El.ag rfl) (by show 88 * _ ≤ _; omega) (by omega)) (fun B7 => ?_)
  refine R_op rfl rfl rfl (op_assign (Has.t rfl)) ?_
  refine R_nil ?_
  refine T_seq ?_
  refine T_seq ?_
  refine T_region ?_
  refine R_op rfl rfl rfl (op_move (Has.t rfl)) ?_
  refine R_op rfl rfl rfl (op_lenO Tryz.runUnderlying30 (Has.t rfl) (i := 1) rfl (show ((List.replicate z.length (NumT Qi.zero)).length : Int) = ((z.length : Nat) : Int) by simp)) ?_
  refine R_op rfl rfl rfl (op_move (Has.cN 0)) ?_
  refine R_nil ?_
  refine T_block ?_
  refine T_loop2 (fun (k : Nat) (out : List Qi) => FillS (fun i => gv z i) z.length out k) (fun (k : Nat) (out : List Qi) => z.length - k) (fun (k : Nat) (out : List Qi) => [(1, PtrB B1 0), (3, Is B7), (9, NT .i64 z.length), (10, NT .i64 k)]) (fun (k : Nat) (out : List Qi) => [box B1 33 [NumsT z, NumM s], rowO 49 5 B7 (out.map NumT)]) 0 (List.replicate z.length Qi.zero) (FillS.start _ _ _)
    (Sub.cons rfl (Sub.cons rfl (Sub.cons rfl (Sub.cons rfl Sub.nil)))) (HSub.cons (fun _ _ _ h => h) (HSub.cons (rowO_of (rep_mapF NumT _ _)) HSub.nil)) (fun k out hS => ?_)
  refine T_seq ?_
  refine T_region ?_
  refine R_op rfl rfl rfl (op_lssN (Has.t rfl) (Has.t rfl)) ?_
  refine R_nil ?_
  refine T_seq ?_
  refine T_cond (Has.t rfl) (fun hk => ?_) (fun hk => ?_)
  · simp only [decide_eq_true_eq] at hk
    have hlen := hS.len
    refine T_skip ?_
    refine T_seq ?_
    refine T_block ?_
    refine T_seq ?_
    refine T_region ?_
    refine R_op rfl rfl rfl (op_move (Has.t rfl)) ?_
    refine R_op rfl rfl rfl (op_assign (Has.t rfl)) ?_
    refine R_nil ?_
    refine T_region ?_
    refine R_op rfl rfl rfl (op_move (Has.t rfl)) ?_
    refine R_op rfl rfl rfl (op_move (Has.t rfl)) ?_
    refine R_op rfl rfl rfl (op_ldBA Tryz.isAgg33 Tryz.sizeOf33 (Has.t rfl) (i := 0) rfl rfl rfl) ?_
    refine R_op rfl rfl rfl (op_move (Has.t rfl)) ?_
    refine R_op rfl rfl rfl (op_addN (Has.t rfl) (Has.cN 1) (by show _ < 9223372036854775808; first | omega | (simp only [lim]; omega))) ?_
    refine R_op rfl rfl rfl (op_call Tryz.call71 (c_Ref (i := (k : Int) + 1) (by omega)) ⟨(Has.t rfl), (Has.t rfl), trivial⟩) ?_
    refine R_op rfl rfl rfl (op_move (Has.t rfl)) ?_
    refine R_op rfl rfl rfl (op_extract (Has.t rfl) rfl) ?_
    refine R_op rfl rfl rfl (op_extract (Has.t rfl) rfl) ?_
    refine R_op rfl rfl rfl (op_idxO Tryz.runUnderlying30 Tryz.sizeOf49 (Has.t rfl) (Has.t rfl) rfl (i := 1) rfl (by first | omega | (simp; omega)) rfl) ?_
    refine R_stO Tryz.sizeOf49 (Has.t rfl) (Has.t rfl) (El.ag rfl) (i := 1) rfl rfl (by first | omega | (simp; omega)) rfl ?_
    refine R_nil ?_
    refine T_blk ?_
    refine T_region ?_
    refine R_op rfl rfl rfl (op_addN (Has.t rfl) (Has.cN 1) (by show _ < 9223372036854775808; first | omega | (simp only [lim]; omega))) ?_
    refine R_op rfl rfl rfl (op_move (Has.t rfl)) ?_
    refine R_nil ?_
    refine T_again (k + 1, _) (hS.next hk (pkv_at hk)) (by dsimp only; omega) (Sub.cons rfl (Sub.cons rfl (Sub.cons rfl (Sub.cons rfl Sub.nil)))) (HSub.cons (fun _ _ _ h => h) (HSub.cons (rowO_of (set_mapF NumT _ _ _)) HSub.nil))
  · simp only [decide_eq_false_iff_not] at hk
    obtain rfl : k = z.length := Nat.le_antisymm hS.kle (by omega)
    have hfin := hS.fin.trans (list_tab (l := z) rfl).symm
    refine T_exit rfl ?_
    refine T_freeze (i := 1) (tt := 3) rfl rfl frz_row ?_
    refine T_seq ?_
    refine T_region ?_
    refine R_op rfl rfl rfl (op_move (Has.t rfl)) ?_
    refine R_op rfl rfl rfl (op_assign (Has.t rfl)) ?_
    refine R_nil ?_
    refine T_ret1 rfl (rv_to (rv_tmp rfl) ?_)
    exact (slT_of (by rw [hfin]))
end Go.Proofs.YtppibhcfaahgpaaGreat
namespace Go.Proofs.YtppibhcfaahgpaaGreat
open Go Go.RowKit
theorem meth_49_Div (v : Value) (w : World) : (method (Tryz.prog.types.size + Made.depth) 49 v "Div").run Tryz.prog w = .ok (174, v) w := by kernel_rfl
theorem meth_49_Sub (v : Value) (w : World) : (method (Tryz.prog.types.size + Made.depth) 49 v "Sub").run Tryz.prog w = .ok (58, v) w := by kernel_rfl
end Go.Proofs.YtppibhcfaahgpaaGreat
namespace Go.Proofs.YtppibhcfaahgpaaGreat
open Go Go.RowKit
set_option maxRecDepth 20000 in
theorem c_carO {p c : List (List Qi)} {n m L : Nat} (hp : Shp p n m) (hc : Shp c m m) (hfp : FitM p L) (hfc : FitM c L) (hL1 : 1 ≤ L) (hL : L ≤ 100000) (hn1 : 1 ≤ n) (hm1 : 1 ≤ m) (hn : n ≤ 8) (hm : m ≤ 8) : FunO Tryz.prog 82 [NumM p, NumM c] [] (Nat) (fun B => Is (.slice (some ⟨B, 0, none⟩) n n)) (fun B => [matO B 30 49 5 (FRow NumT (carM p c))]) (fun _ => True) := by
  have hpl := hp.1
  have hf1 := mulM_fit (n := n) (m := m) hfp hfc hL1 hL1 hm
  have hf2 := adjM_fit (n := n) (m := m) hfp hL1
  have hs1 : Shp (mulM p c n m m) n m := mulM_shp
  have hs2 : Shp (adjM p n m) m n := adjM_shp
  refine FunO.intro Tryz.func82 rfl Tryz.ntmps82 rfl (fun cx Z => ?_)
  refine T_seq ?_
  refine T_region ?_
  refine R_op rfl rfl rfl (op_assign Has.c) ?_
  refine R_nil ?_
  refine T_seq ?_
  refine T_seq ?_
  refine T_region ?_
  refine R_op rfl rfl rfl (op_move (Has.t rfl)) ?_
  refine R_op rfl rfl rfl (op_len Tryz.runUnderlying31 (Has.t rfl) len_map) ?_
  refine R_op rfl rfl rfl (op_eqlN (Has.t rfl) (Has.cN 0)) ?_
  refine R_nil ?_
  refine T_cond (Has.t rfl) (fun h0 => ?_) (fun h0 => ?_)
  · simp only [decide_eq_true_eq] at h0
    omega
  · refine T_skip ?_
    refine T_seq ?_
    refine T_region ?_
    refine R_op rfl rfl rfl (op_move (Has.t rfl)) ?_
    refine R_op rfl rfl rfl (op_move (Has.t rfl)) ?_
    refine R_op rfl rfl rfl (op_call Tryz.call153 (c_Prod hp hc hfp hfc hL1 hL1 (by omega) (by omega) hn1 hm1 hn hm hm) ⟨(Has.t rfl), (Has.t rfl), trivial⟩) ?_
    refine R_op rfl rfl rfl (op_move (Has.t rfl)) ?_
    refine R_op rfl rfl rfl (op_extract (Has.t rfl) rfl) ?_
    refine R_op rfl rfl rfl (op_extract (Has.t rfl) rfl) ?_
    refine R_op rfl rfl rfl (op_assign (Has.t rfl)) ?_
    refine R_op rfl rfl rfl (op_assign (Has.t rfl)) ?_
    refine R_nil ?_
    refine T_seq ?_
    refine T_region ?_
    refine R_op rfl rfl rfl (op_move (Has.t rfl)) ?_
    refine R_op rfl rfl rfl (op_call Tryz.call154 (c_Adj hp hn1 hn hm) ⟨(Has.t rfl), trivial⟩) ?_
    refine R_op rfl rfl rfl (op_move (Has.t rfl)) ?_
    refine R_op rfl rfl rfl (op_extract (Has.t rfl) rfl) ?_
    refine R_op rfl rfl rfl (op_extract (Has.t rfl) rfl) ?_
    refine R_op rfl rfl rfl (op_assign (Has.t rfl)) ?_
    refine R_op rfl rfl rfl (op_assign (Has.t rfl)) ?_
    refine R_nil ?_
    refine T_seq ?_
    refine T_region ?_
    refine R_op rfl rfl rfl (op_move (Has.t rfl)) ?_
    refine R_op rfl rfl rfl (op_move (Has.t rfl)) ?_
    refine R_call0 Tryz.call153 (c_ProdO (a := mulM p c n m m) (b := adjM p n m) hs1 hs2 hf1 hf2 (by omega) hL1 (by omega) (by omega) hn1 hm1 hn hm hn) ⟨(Has.t rfl), (Has.t rfl), trivial⟩ rfl (fun B28 _ => ?_)
    refine R_op rfl rfl rfl (op_move (Has.t rfl)) ?_
    refine R_op rfl rfl rfl (op_extract (Has.t rfl) rfl) ?_
    refine R_op rfl rfl rfl (op_extract (Has.t rfl) rfl) ?_
    refine R_op rfl rfl rfl (op_assign (Has.t rfl)) ?_
    refine R_op rfl rfl rfl (op_assign (Has.t rfl)) ?_
    refine R_nil ?_
    refine T_seq ?_
    refine T_region ?_
    refine R_op rfl rfl rfl (op_move (Has.t rfl)) ?_
    refine R_op rfl rfl rfl (op_assign (Has.t rfl)) ?_
    refine R_nil ?_
    exact T_retO B28 trivial [0, 1] ⟨⟨_, rfl, fun _ _ _ h => h⟩, ⟨_, rfl, (matO_of (by rw [car_eq hp hc]))⟩, trivial⟩ (by decide) (rvs1 rfl (rv_tmp rfl))
theorem c_car {p c : List (List Qi)} {n m L : Nat} (hp : Shp p n m) (hc : Shp c m m) (hfp : FitM p L) (hfc : FitM c L) (hL1 : 1 ≤ L) (hL : L ≤ 100000) (hn1 : 1 ≤ n) (hm1 : 1 ≤ m) (hn : n ≤ 8) (hm : m ≤ 8) : Fun Tryz.prog 82 [NumM p, NumM c] (NumM (carM p c)) := (c_carO hp hc hfp hfc hL1 hL hn1 hm1 hn hm).fun fun B _ v S V h1 h2 => frz_matF (s := 5) (M := carM p c) (by rw [carM_shp.1, hp.1]) v S V h1 h2
set_option maxHeartbeats 1000000 in
set_option maxRecDepth 20000 in
theorem c_Factor {z : List Qi} {s c : List (List Qi)} {g t0 : Qi} {L : Nat} (hz : FitL z L) (hs : FitM s L) (hc : FitM c L) (hg : FitC g L) (ht : FitC t0 L) (hL1 : 1 ≤ L) (hL : L ≤ 4000) (hsh : Shp s z.length z.length) (hch : Shp c z.length z.length) (hl : z.length ≤ 8) : Fun Tryz.prog 17 [NoisyT z s c, NumT g, NumT t0] (TupT [NumT (facR z s c g t0).1, IntT .i64 (facR z s c g t0).2]) := by
  haveI := hg; haveI := ht
  haveI hz0 : FitC Qi.zero 1 := FitC.zero (Nat.le_refl 1)
  have d1 : (dg (((1 : Nat) : Int)).natAbs).length = 1 := by decide
  have d2 : (dg (Int.natAbs 1)).length = 1 := by decide
  have hcl := hch.1
  refine Fun.intro Tryz.func17 rfl Tryz.ntmps17 rfl (fun cx => ?_)
  refine T_seq ?_
  refine T_region ?_
  refine R_new rfl rfl rfl (new_box (Has.t rfl)) (fun B3 => ?_)
  refine R_new rfl rfl rfl (new_box (Has.t rfl)) (fun B4 => ?_)
  refine R_new rfl rfl rfl (new_box (Has.t rfl)) (fun B5 => ?_)
  refine R_new rfl rfl rfl (new_alloc (Ts := [Is (.bool false), Is (.slice none 0 0), Is (.bool false), Is (.slice none 0 0), Is (.slice none 0 0)]) Tryz.zeroValue49 rfl (fun V => Cells.cons' ⟨rfl, trivial⟩ (Cells.cons' ⟨rfl, trivial⟩ (Cells.cons' ⟨rfl, trivial⟩ (Cells.cons' ⟨rfl, trivial⟩ (Cells.cons' ⟨rfl, trivial⟩ (Cells.nil))))))) (fun B6 => ?_)
  refine R_op rfl rfl rfl (op_assign (Has.cN 0)) ?_
  refine R_nil ?_
  refine T_seq ?_
  refine T_region ?_
  refine R_new rfl rfl rfl (new_alloc (Ts := [Is (.bool false), Is (.slice none 0 0), Is (.bool false), Is (.slice none 0 0), Is (.slice none 0 0)]) Tryz.zeroValue49 rfl (fun V => Cells.cons' ⟨rfl, trivial⟩ (Cells.cons' ⟨rfl, trivial⟩ (Cells.cons' ⟨rfl, trivial⟩ (Cells.cons' ⟨rfl, trivial⟩ (Cells.cons' ⟨rfl, trivial⟩ (Cells.nil))))))) (fun B8 => ?_)
  refine R_nil ?_
  refine T_seq ?_
  refine T_seq ?_
  refine D_start (m := 6) ?_
  refine D_step (Ei := [(5, _)]) rfl rfl (Srcs.cons (Src.pre rfl rfl) Srcs.nil) (S_plain rfl (op_ldBA Tryz.isAgg49 Tryz.sizeOf49 (Has.t rfl) (i := 2) rfl rfl rfl)) ?_
  refine D_step (Ei := [(18, _)]) rfl rfl (Srcs.cons (Src.op 0 rfl rfl) Srcs.nil) (S_plain rfl (op_call Tryz.call32 c_Real ⟨(Has.t rfl), trivial⟩)) ?_
  refine D_step (Ei := [(19, _)]) rfl rfl (Srcs.cons (Src.op 1 rfl rfl) Srcs.nil) (S_plain rfl (op_not (Has.t rfl))) ?_
  refine D_step (Ei := [(20, _)]) rfl rfl (Srcs.cons (Src.op 2 rfl rfl) Srcs.nil) (S_plain rfl (op_move (Has.t rfl))) ?_
  refine D_step (Ei := [(5, _), (21, _)]) rfl rfl (Srcs.cons (Src.pre rfl rfl) (Srcs.cons (Src.op 3 rfl rfl) Srcs.nil)) (S_when rfl rfl (Has.t rfl) (fun h => op_ldBA Tryz.isAgg49 Tryz.sizeOf49 (Has.t rfl) (i := 2) rfl rfl rfl)) ?_
  refine D_step (Ei := [(21, _)]) rfl rfl (Srcs.cons (Src.op 3 rfl rfl) Srcs.nil) (S_when rfl rfl (Has.t rfl) (fun h => op_call Tryz.call28 (c_Int (n := 0) (by decide) (by decide)) ⟨(Has.cN 0), trivial⟩)) ?_
  refine D_done mixed rfl (by kernel_rfl) (F_val (F_val (F_val (F_val (F_val (F_val (F_nil ?_)))))))
  refine R_step rfl rfl (S_when rfl rfl (Has.t rfl) (fun h => op_call Tryz.call33 (c_Cmp (x := t0) (y := Qi.zero) (M := 1) (by omega)) ⟨(Has.w rfl h), (Has.w rfl h), trivial⟩)) ?_
  refine R_step rfl rfl (S_when rfl rfl (Has.t rfl) (fun h => op_leq (Has.w rfl h) Has.c)) ?_
  refine R_op rfl rfl rfl (op_or (Has.t rfl) (fun h => (Has.w rfl h))) ?_
  refine R_nil ?_
  refine T_cond (Has.t rfl) (fun hb => ?_) (fun hb => ?_)
  · rw [npos_eq] at hb
    simp only [Bool.not_eq_true'] at hb
    have he : facR z s c g t0 = (Qi.zero, 1) := by rw [facR, if_pos hb]
    refine T_seq ?_
    refine T_region ?_
    refine R_op rfl rfl rfl (op_ldBA Tryz.isAgg49 Tryz.sizeOf49 (Has.t rfl) (i := 4) rfl rfl rfl) ?_
    refine R_stA Tryz.sizeOf49 (Has.t rfl) (Has.t rfl) rfl (i := 3) rfl (Nat.le_of_ble_eq_true rfl) rfl rfl ?_
    refine R_op rfl rfl rfl (op_assign (Has.cN 1)) ?_
    refine R_nil ?_
    refine T_ret2 rfl (rv_to (rv_cell Tryz.isAgg49 Tryz.sizeOf49 rfl (i := 3) rfl rfl) ?_) (rv_to (rv_tmp rfl) ?_)
    · exact (fun v V k => by rw [he]; exact num_zero v V k)
    · exact (fun v V k => by rw [he]; exact k)
  · rw [npos_eq] at hb
    simp only [Bool.not_eq_false'] at hb
    have hb2 : ¬ posQ t0 = false := by rw [hb]; decide
    refine T_skip ?_
    refine T_seq ?_
    refine T_seq ?_
    refine T_region ?_
    refine R_op rfl rfl rfl (op_fldB fa_35_1 (Has.t rfl) rfl) ?_
    refine R_op rfl rfl rfl (op_ldB Tryz.isAgg31 Tryz.sizeOf31 (Has.t rfl) (i := 0) rfl rfl) ?_
    refine R_op rfl rfl rfl (op_len Tryz.runUnderlying31 (Has.t rfl) len_map) ?_
    refine R_op rfl rfl rfl (op_neqN (Has.t rfl) (Has.cN 2)) ?_
    refine R_nil ?_
    refine T_cond (Has.t rfl) (fun hd => ?_) (fun hd => ?_)
    · have hd2 : z.length ≠ 2 := by rw [← hcl]; simpa using hd
      have he : facR z s c g t0 = (Qi.zero, 4) := by rw [facR, if_neg hb2, if_pos hd2]
      refine T_seq ?_
      refine T_region ?_
      refine R_op rfl rfl rfl (op_ldBA Tryz.isAgg49 Tryz.sizeOf49 (Has.t rfl) (i := 4) rfl rfl rfl) ?_
      refine R_stA Tryz.sizeOf49 (Has.t rfl) (Has.t rfl) rfl (i := 3) rfl (Nat.le_of_ble_eq_true rfl) rfl rfl ?_
      refine R_op rfl rfl rfl (op_assign (Has.cN 4)) ?_
      refine R_nil ?_
      refine T_ret2 rfl (rv_to (rv_cell Tryz.isAgg49 Tryz.sizeOf49 rfl (i := 3) rfl rfl) ?_) (rv_to (rv_tmp rfl) ?_)
      · exact (fun v V k => by rw [he]; exact num_zero v V k)
      · exact (fun v V k => by rw [he]; exact k)
    · have hd2 : z.length = 2 := by rw [← hcl]; simpa using hd
      have hd3 : ¬ z.length ≠ 2 := fun h => h hd2
      have hsh2 := hsh
      rw [hd2] at hsh hch
      have hs1 := hsh.1
      have hc1 := hch.1
      have hr0 := hsh.row (i := 0) (by decide)
      have hr1 := hsh.row (i := 1) (by decide)
      have hWf := facW_fit hs hg hL1
      have hW : Shp (facW s g) 1 2 := ⟨rfl, fun r hr => by have := List.mem_singleton.1 hr; subst this; rfl⟩
      have hXs : Shp (carM (facW s g) c) 1 1 := carM_shp
      have hX0 := hXs.row (i := 0) (by decide)
      have hp1 := pk1 (z := z) (by omega)
      haveI f1 : FitC (gm s 1 0) L := hs.get hL1 1 0
      haveI f2 : FitC (gm s 0 0) L := hs.get hL1 0 0
      haveI f3 : FitC (pkv z ((1 : Nat) : Int)) L := by rw [hp1]; exact hz.get hL1 0
      haveI f4 := facX_fit hs hc hg hL1 (by omega)
      have hpd : gm s 1 0 * (gm s 1 0).conj * (t0 * pkv z ((1 : Nat) : Int)) * (oneQ - g * g.conj) = facD z s g t0 := by rw [hp1, Qi.mul_conj_norm, Qi.mul_conj_norm, facD, Qi.mul_assoc']
      refine T_skip ?_
      refine T_seq ?_
      refine T_region ?_
      refine R_op rfl rfl rfl (op_fldB fa_35_0 (Has.t rfl) rfl) ?_
      refine R_op rfl rfl rfl (op_ldBA Tryz.isAgg33 Tryz.sizeOf33 (Has.t rfl) (i := 0) rfl rfl rfl) ?_
      refine R_op rfl rfl rfl (op_call Tryz.call80 (c_scat hsh2 (by omega)) ⟨(Has.t rfl), trivial⟩) ?_
      refine R_op rfl rfl rfl (op_call Tryz.call28 (c_Int (n := 1) (by decide) (by decide)) ⟨(Has.cN 1), trivial⟩) ?_
      refine R_op rfl rfl rfl (op_call Tryz.call81 c_of ⟨(Has.t rfl), trivial⟩) ?_
      refine R_new rfl rfl rfl (new_alloc (Ts := [Is (.bool false), Is (.slice none 0 0), Is (.bool false), Is (.slice none 0 0), Is (.slice none 0 0)]) Tryz.zeroValue49 rfl (fun V => Cells.cons' ⟨rfl, trivial⟩ (Cells.cons' ⟨rfl, trivial⟩ (Cells.cons' ⟨rfl, trivial⟩ (Cells.cons' ⟨rfl, trivial⟩ (Cells.cons' ⟨rfl, trivial⟩ (Cells.nil))))))) (fun B10 => ?_)
      refine R_op rfl rfl rfl (op_assign (Has.t rfl)) ?_
      refine R_stA Tryz.sizeOf49 (Has.t rfl) (Has.t rfl) rfl (i := 5) rfl (Nat.le_of_ble_eq_true rfl) rfl rfl ?_
      refine R_nil ?_
      refine T_seq ?_
      refine T_region ?_
      refine R_op rfl rfl rfl (op_fldB fa_35_0 (Has.t rfl) rfl) ?_
      refine R_op rfl rfl rfl (op_ldBA Tryz.isAgg33 Tryz.sizeOf33 (Has.t rfl) (i := 0) rfl rfl rfl) ?_
      refine R_op rfl rfl rfl (op_call Tryz.call71 (c_Ref (i := ((1 : Nat) : Int)) (by omega)) ⟨(Has.t rfl), (Has.cN 1), trivial⟩) ?_
      refine R_op rfl rfl rfl (op_move (Has.t rfl)) ?_
      refine R_op rfl rfl rfl (op_extract (Has.t rfl) rfl) ?_
      refine R_op rfl rfl rfl (op_extract (Has.t rfl) rfl) ?_
      refine R_new rfl rfl rfl (new_alloc (Ts := [Is (.bool false), Is (.slice none 0 0), Is (.bool false), Is (.slice none 0 0), Is (.slice none 0 0)]) Tryz.zeroValue49 rfl (fun V => Cells.cons' ⟨rfl, trivial⟩ (Cells.cons' ⟨rfl, trivial⟩ (Cells.cons' ⟨rfl, trivial⟩ (Cells.cons' ⟨rfl, trivial⟩ (Cells.cons' ⟨rfl, trivial⟩ (Cells.nil))))))) (fun B11 => ?_)
      refine R_stA Tryz.sizeOf49 (Has.t rfl) (Has.t rfl) rfl (i := 6) rfl (Nat.le_of_ble_eq_true rfl) rfl rfl ?_
      refine R_op rfl rfl rfl (op_assign (Has.t rfl)) ?_
      refine R_nil ?_
      refine T_seq ?_
      refine T_sub (E' := [(3, _), (4, _), (5, _), (6, _), (7, _), (8, _), (9, _), (10, _), (11, _)]) (Sub.cons rfl (Sub.cons rfl (Sub.cons rfl (Sub.cons rfl (Sub.cons rfl (Sub.cons rfl (Sub.cons rfl (Sub.cons rfl (Sub.cons rfl Sub.nil))))))))) ?_
      refine D_start (m := 18) ?_
      refine D_step (Ei := [(9, _)]) rfl rfl (Srcs.cons (Src.pre rfl rfl) Srcs.nil) (S_plain rfl (op_move (Has.t rfl))) ?_
      refine D_step (Ei := [(44, _)]) rfl rfl (Srcs.cons (Src.op 0 rfl rfl) Srcs.nil) (S_plain rfl (op_idx Tryz.runUnderlying31 Tryz.sizeOf30 (Has.t rfl) (Has.cN 1) rfl (map_get (getD_some (d := []) (by omega))))) ?_
      refine D_step (Ei := [(45, _)]) rfl rfl (Srcs.cons (Src.op 1 rfl rfl) Srcs.nil) (S_plain rfl (op_ld Tryz.isAgg30 Tryz.sizeOf30 (Has.t rfl))) ?_
      refine D_step (Ei := [(46, _)]) rfl rfl (Srcs.cons (Src.op 2 rfl rfl) Srcs.nil) (S_plain rfl (op_idx Tryz.runUnderlying30 Tryz.sizeOf49 (Has.t rfl) (Has.cN 0) rfl (map_get (getD_some (d := Qi.zero) (by rw [hr1]; decide))))) ?_
      refine D_step (Ei := [(47, _)]) rfl rfl (Srcs.cons (Src.op 3 rfl rfl) Srcs.nil) (S_plain rfl (op_ld Tryz.isAgg49 Tryz.sizeOf49 (Has.t rfl))) ?_
      refine D_step (Ei := [(48, _)]) rfl rfl (Srcs.cons (Src.op 4 rfl rfl) Srcs.nil) (S_plain rfl (op_iface mkif_49 (Has.t rfl))) ?_
      refine D_step (Ei := [(4, _)]) rfl rfl (Srcs.cons (Src.pre rfl rfl) Srcs.nil) (S_plain rfl (op_ldBA Tryz.isAgg49 Tryz.sizeOf49 (Has.t rfl) (i := 1) rfl rfl rfl)) ?_
      refine D_step (Ei := [(49, _), (50, _)]) rfl rfl (Srcs.cons (Src.op 5 rfl rfl) (Srcs.cons (Src.op 6 rfl rfl) Srcs.nil)) (S_plain rfl (op_invoke meth_49_Mul Tryz.call56 (c_Mul (by omega)) (Has.t rfl) ⟨(Has.t rfl), trivial⟩)) ?_
      refine D_step (Ei := [(10, _)]) rfl rfl (Srcs.cons (Src.pre rfl rfl) Srcs.nil) (S_plain rfl (op_ldBA Tryz.isAgg49 Tryz.sizeOf49 (Has.t rfl) (i := 5) rfl rfl rfl)) ?_
      refine D_step (Ei := [(52, _)]) rfl rfl (Srcs.cons (Src.op 8 rfl rfl) Srcs.nil) (S_plain rfl (op_iface mkif_49 (Has.t rfl))) ?_
      refine D_step (Ei := [(4, _)]) rfl rfl (Srcs.cons (Src.pre rfl rfl) Srcs.nil) (S_plain rfl (op_ldBA Tryz.isAgg49 Tryz.sizeOf49 (Has.t rfl) (i := 1) rfl rfl rfl)) ?_
      refine D_step (Ei := [(54, _)]) rfl rfl (Srcs.cons (Src.op 10 rfl rfl) Srcs.nil) (S_plain rfl (op_iface mkif_49 (Has.t rfl))) ?_
      refine D_step (Ei := [(9, _)]) rfl rfl (Srcs.cons (Src.pre rfl rfl) Srcs.nil) (S_plain rfl (op_move (Has.t rfl))) ?_
      refine D_step (Ei := [(56, _)]) rfl rfl (Srcs.cons (Src.op 12 rfl rfl) Srcs.nil) (S_plain rfl (op_idx Tryz.runUnderlying31 Tryz.sizeOf30 (Has.t rfl) (Has.cN 0) rfl (map_get (getD_some (d := []) (by omega))))) ?_
      refine D_step (Ei := [(57, _)]) rfl rfl (Srcs.cons (Src.op 13 rfl rfl) Srcs.nil) (S_plain rfl (op_ld Tryz.isAgg30 Tryz.sizeOf30 (Has.t rfl))) ?_
      refine D_step (Ei := [(58, _)]) rfl rfl (Srcs.cons (Src.op 14 rfl rfl) Srcs.nil) (S_plain rfl (op_idx Tryz.runUnderlying30 Tryz.sizeOf49 (Has.t rfl) (Has.cN 0) rfl (map_get (getD_some (d := Qi.zero) (by rw [hr0]; decide))))) ?_
      refine D_step (Ei := [(59, _)]) rfl rfl (Srcs.cons (Src.op 15 rfl rfl) Srcs.nil) (S_plain rfl (op_ld Tryz.isAgg49 Tryz.sizeOf49 (Has.t rfl))) ?_
      refine D_step (Ei := [(55, _), (60, _)]) rfl rfl (Srcs.cons (Src.op 11 rfl rfl) (Srcs.cons (Src.op 16 rfl rfl) Srcs.nil)) (S_plain rfl (op_invoke meth_49_Mul Tryz.call56 (c_Mul (by omega)) (Has.t rfl) ⟨(Has.t rfl), trivial⟩)) ?_
      refine D_done mixed rfl (by kernel_rfl) (F_val (F_val (F_val (F_val (F_val (F_val (F_val (F_val (F_val (F_val (F_val (F_val (F_val (F_val (F_val (F_val (F_val (F_val (F_nil ?_)))))))))))))))))))
      refine R_op rfl rfl rfl (op_invoke meth_49_Sub Tryz.call58 (c_Sub (by omega)) (Has.t rfl) ⟨(Has.t rfl), trivial⟩) ?_
      refine R_op rfl rfl rfl (op_bslice (xs := [.tmp 51, .tmp 62]) Tryz.runUnderlying30 Tryz.sizeOf49 Tryz.zeroValue49 (Elems.cons (Has.t rfl) (Elems.cons (Has.t rfl) Elems.nil)) rfl rfl rfl) ?_
      refine R_op rfl rfl rfl (op_bslice (xs := [.tmp 63]) Tryz.runUnderlying31 Tryz.sizeOf30 Tryz.zeroValue30 (Elems.cons (Has.t rfl) Elems.nil) rfl rfl rfl) ?_
      refine R_op rfl rfl rfl (op_assign (Has.t rfl)) ?_
      refine R_nil ?_
      refine T_seq ?_
      refine T_sub (E' := [(3, _), (4, _), (5, _), (6, _), (7, _), (8, _), (9, _), (10, _), (11, _), (13, _)]) (Sub.cons rfl (Sub.cons rfl (Sub.cons rfl (Sub.cons rfl (Sub.cons rfl (Sub.cons rfl (Sub.cons rfl (Sub.cons rfl (Sub.cons rfl (Sub.cons rfl Sub.nil)))))))))) ?_
      refine T_region ?_
      refine R_op rfl rfl rfl (op_move (Has.t rfl)) ?_
      refine R_op rfl rfl rfl (op_fldB fa_35_1 (Has.t rfl) rfl) ?_
      refine R_op rfl rfl rfl (op_ldB Tryz.isAgg31 Tryz.sizeOf31 (Has.t rfl) (i := 0) rfl rfl) ?_
      refine R_op rfl rfl rfl (op_call Tryz.call82 (c_car (p := facW s g) (c := c) (n := 1) (m := 2) (L := 2 * L + 4) hW hch hWf (hc.le (by omega)) (by omega) (by omega) (by decide) (by decide) (by decide) (by decide)) ⟨(Has.t rfl), (Has.t rfl), trivial⟩) ?_
      refine R_op rfl rfl rfl (op_idx Tryz.runUnderlying31 Tryz.sizeOf30 (Has.t rfl) (Has.cN 0) rfl (map_get (getD_some (d := []) (by rw [hXs.1]; decide)))) ?_
      refine R_op rfl rfl rfl (op_ld Tryz.isAgg30 Tryz.sizeOf30 (Has.t rfl)) ?_
      refine R_op rfl rfl rfl (op_idx Tryz.runUnderlying30 Tryz.sizeOf49 (Has.t rfl) (Has.cN 0) rfl (map_get (getD_some (d := Qi.zero) (by rw [hX0]; decide)))) ?_
      refine R_op rfl rfl rfl (op_ld Tryz.isAgg49 Tryz.sizeOf49 (Has.t rfl)) ?_
      refine R_new rfl rfl rfl (new_alloc (Ts := [Is (.bool false), Is (.slice none 0 0), Is (.bool false), Is (.slice none 0 0), Is (.slice none 0 0)]) Tryz.zeroValue49 rfl (fun V => Cells.cons' ⟨rfl, trivial⟩ (Cells.cons' ⟨rfl, trivial⟩ (Cells.cons' ⟨rfl, trivial⟩ (Cells.cons' ⟨rfl, trivial⟩ (Cells.cons' ⟨rfl, trivial⟩ (Cells.nil))))))) (fun B14 => ?_)
      refine R_stA Tryz.sizeOf49 (Has.t rfl) (Has.t rfl) rfl (i := 7) rfl (Nat.le_of_ble_eq_true rfl) rfl rfl ?_
      refine R_nil ?_
      refine T_seq ?_
      refine T_sub (E' := [(3, _), (4, _), (5, _), (6, _), (7, _), (8, _), (9, _), (10, _), (11, _), (14, _)]) (Sub.cons rfl (Sub.cons rfl (Sub.cons rfl (Sub.cons rfl (Sub.cons rfl (Sub.cons rfl (Sub.cons rfl (Sub.cons rfl (Sub.cons rfl (Sub.cons rfl Sub.nil)))))))))) ?_
      refine D_start (m := 32) ?_
      refine D_step (Ei := [(9, _)]) rfl rfl (Srcs.cons (Src.pre rfl rfl) Srcs.nil) (S_plain rfl (op_move (Has.t rfl))) ?_
      refine D_step (Ei := [(73, _)]) rfl rfl (Srcs.cons (Src.op 0 rfl rfl) Srcs.nil) (S_plain rfl (op_idx Tryz.runUnderlying31 Tryz.sizeOf30 (Has.t rfl) (Has.cN 1) rfl (map_get (getD_some (d := []) (by omega))))) ?_
      refine D_step (Ei := [(74, _)]) rfl rfl (Srcs.cons (Src.op 1 rfl rfl) Srcs.nil) (S_plain rfl (op_ld Tryz.isAgg30 Tryz.sizeOf30 (Has.t rfl))) ?_
      refine D_step (Ei := [(75, _)]) rfl rfl (Srcs.cons (Src.op 2 rfl rfl) Srcs.nil) (S_plain rfl (op_idx Tryz.runUnderlying30 Tryz.sizeOf49 (Has.t rfl) (Has.cN 0) rfl (map_get (getD_some (d := Qi.zero) (by rw [hr1]; decide))))) ?_
      refine D_step (Ei := [(76, _)]) rfl rfl (Srcs.cons (Src.op 3 rfl rfl) Srcs.nil) (S_plain rfl (op_ld Tryz.isAgg49 Tryz.sizeOf49 (Has.t rfl))) ?_
      refine D_step (Ei := [(77, _)]) rfl rfl (Srcs.cons (Src.op 4 rfl rfl) Srcs.nil) (S_plain rfl (op_iface mkif_49 (Has.t rfl))) ?_
      refine D_step (Ei := [(9, _)]) rfl rfl (Srcs.cons (Src.pre rfl rfl) Srcs.nil) (S_plain rfl (op_move (Has.t rfl))) ?_
      refine D_step (Ei := [(79, _)]) rfl rfl (Srcs.cons (Src.op 6 rfl rfl) Srcs.nil) (S_plain rfl (op_idx Tryz.runUnderlying31 Tryz.sizeOf30 (Has.t rfl) (Has.cN 1) rfl (map_get (getD_some (d := []) (by omega))))) ?_
      refine D_step (Ei := [(80, _)]) rfl rfl (Srcs.cons (Src.op 7 rfl rfl) Srcs.nil) (S_plain rfl (op_ld Tryz.isAgg30 Tryz.sizeOf30 (Has.t rfl))) ?_
      refine D_step (Ei := [(81, _)]) rfl rfl (Srcs.cons (Src.op 8 rfl rfl) Srcs.nil) (S_plain rfl (op_idx Tryz.runUnderlying30 Tryz.sizeOf49 (Has.t rfl) (Has.cN 0) rfl (map_get (getD_some (d := Qi.zero) (by rw [hr1]; decide))))) ?_
      refine D_step (Ei := [(82, _)]) rfl rfl (Srcs.cons (Src.op 9 rfl rfl) Srcs.nil) (S_plain rfl (op_ld Tryz.isAgg49 Tryz.sizeOf49 (Has.t rfl))) ?_
      refine D_step (Ei := [(83, _)]) rfl rfl (Srcs.cons (Src.op 10 rfl rfl) Srcs.nil) (S_plain rfl (op_iface mkif_49 (Has.t rfl))) ?_
      refine D_step (Ei := [(84, _)]) rfl rfl (Srcs.cons (Src.op 11 rfl rfl) Srcs.nil) (S_plain rfl (op_invoke meth_49_Conj Tryz.call263 c_Conj (Has.t rfl) trivial)) ?_
      refine D_step (Ei := [(78, _), (85, _)]) rfl rfl (Srcs.cons (Src.op 5 rfl rfl) (Srcs.cons (Src.op 12 rfl rfl) Srcs.nil)) (S_plain rfl (op_invoke meth_49_Mul Tryz.call56 (c_Mul (by omega)) (Has.t rfl) ⟨(Has.t rfl), trivial⟩)) ?_
      refine D_step (Ei := [(86, _)]) rfl rfl (Srcs.cons (Src.op 13 rfl rfl) Srcs.nil) (S_plain rfl (op_iface mkif_49 (Has.t rfl))) ?_
      refine D_step (Ei := [(5, _)]) rfl rfl (Srcs.cons (Src.pre rfl rfl) Srcs.nil) (S_plain rfl (op_ldBA Tryz.isAgg49 Tryz.sizeOf49 (Has.t rfl) (i := 2) rfl rfl rfl)) ?_
      refine D_step (Ei := [(11, _)]) rfl rfl (Srcs.cons (Src.pre rfl rfl) Srcs.nil) (S_plain rfl (op_ldBA Tryz.isAgg49 Tryz.sizeOf49 (Has.t rfl) (i := 6) rfl rfl rfl)) ?_
      refine D_step (Ei := [(88, _), (89, _)]) rfl rfl (Srcs.cons (Src.op 15 rfl rfl) (Srcs.cons (Src.op 16 rfl rfl) Srcs.nil)) (S_plain rfl (op_call Tryz.call56 (c_Mul (by omega)) ⟨(Has.t rfl), (Has.t rfl), trivial⟩)) ?_
      refine D_step (Ei := [(90, _)]) rfl rfl (Srcs.cons (Src.op 17 rfl rfl) Srcs.nil) (S_plain rfl (op_call Tryz.call81 c_of ⟨(Has.t rfl), trivial⟩)) ?_
      refine D_step (Ei := [(87, _), (91, _)]) rfl rfl (Srcs.cons (Src.op 14 rfl rfl) (Srcs.cons (Src.op 18 rfl rfl) Srcs.nil)) (S_plain rfl (op_invoke meth_49_Mul Tryz.call56 (c_Mul (by omega)) (Has.t rfl) ⟨(Has.t rfl), trivial⟩)) ?_
      refine D_step (Ei := [(92, _)]) rfl rfl (Srcs.cons (Src.op 19 rfl rfl) Srcs.nil) (S_plain rfl (op_iface mkif_49 (Has.t rfl))) ?_
      refine D_step (Ei := [(10, _)]) rfl rfl (Srcs.cons (Src.pre rfl rfl) Srcs.nil) (S_plain rfl (op_ldBA Tryz.isAgg49 Tryz.sizeOf49 (Has.t rfl) (i := 5) rfl rfl rfl)) ?_
      refine D_step (Ei := [(94, _)]) rfl rfl (Srcs.cons (Src.op 21 rfl rfl) Srcs.nil) (S_plain rfl (op_iface mkif_49 (Has.t rfl))) ?_
      refine D_step (Ei := [(4, _)]) rfl rfl (Srcs.cons (Src.pre rfl rfl) Srcs.nil) (S_plain rfl (op_ldBA Tryz.isAgg49 Tryz.sizeOf49 (Has.t rfl) (i := 1) rfl rfl rfl)) ?_
      refine D_step (Ei := [(96, _)]) rfl rfl (Srcs.cons (Src.op 23 rfl rfl) Srcs.nil) (S_plain rfl (op_iface mkif_49 (Has.t rfl))) ?_
      refine D_step (Ei := [(4, _)]) rfl rfl (Srcs.cons (Src.pre rfl rfl) Srcs.nil) (S_plain rfl (op_ldBA Tryz.isAgg49 Tryz.sizeOf49 (Has.t rfl) (i := 1) rfl rfl rfl)) ?_
      refine D_step (Ei := [(98, _)]) rfl rfl (Srcs.cons (Src.op 25 rfl rfl) Srcs.nil) (S_plain rfl (op_iface mkif_49 (Has.t rfl))) ?_
      refine D_step (Ei := [(99, _)]) rfl rfl (Srcs.cons (Src.op 26 rfl rfl) Srcs.nil) (S_plain rfl (op_invoke meth_49_Conj Tryz.call263 c_Conj (Has.t rfl) trivial)) ?_
      refine D_step (Ei := [(97, _), (100, _)]) rfl rfl (Srcs.cons (Src.op 24 rfl rfl) (Srcs.cons (Src.op 27 rfl rfl) Srcs.nil)) (S_plain rfl (op_invoke meth_49_Mul Tryz.call56 (c_Mul (by omega)) (Has.t rfl) ⟨(Has.t rfl), trivial⟩)) ?_
      refine D_step (Ei := [(95, _), (101, _)]) rfl rfl (Srcs.cons (Src.op 22 rfl rfl) (Srcs.cons (Src.op 28 rfl rfl) Srcs.nil)) (S_plain rfl (op_invoke meth_49_Sub Tryz.call58 (c_Sub (by omega)) (Has.t rfl) ⟨(Has.t rfl), trivial⟩)) ?_
      refine D_step (Ei := [(93, _), (102, _)]) rfl rfl (Srcs.cons (Src.op 20 rfl rfl) (Srcs.cons (Src.op 29 rfl rfl) Srcs.nil)) (S_plain rfl (op_invoke meth_49_Mul Tryz.call56 (c_Mul (by omega)) (Has.t rfl) ⟨(Has.t rfl), trivial⟩)) ?_
      refine D_new (Ei := []) rfl rfl rfl Srcs.nil (new_alloc (Ts := [Is (.bool false), Is (.slice none 0 0), Is (.bool false), Is (.slice none 0 0), Is (.slice none 0 0)]) Tryz.zeroValue49 rfl (fun V => Cells.cons' ⟨rfl, trivial⟩ (Cells.cons' ⟨rfl, trivial⟩ (Cells.cons' ⟨rfl, trivial⟩ (Cells.cons' ⟨rfl, trivial⟩ (Cells.cons' ⟨rfl, trivial⟩ (Cells.nil))))))) ?_
      refine D_done mixed rfl (by kernel_rfl) (F_val (F_val (F_val (F_val (F_val (F_val (F_val (F_val (F_val (F_val (F_val (F_val (F_val (F_val (F_val (F_val (F_val (F_val (F_val (F_val (F_val (F_val (F_val (F_val (F_val (F_val (F_val (F_val (F_val (F_val (F_val (F_new (fun B15 => F_nil ?_)))))))))))))))))))))))))))))))))
      refine R_stA Tryz.sizeOf49 (Has.t rfl) (Has.t rfl) rfl (i := 8) rfl (Nat.le_of_ble_eq_true rfl) rfl rfl ?_
      refine R_nil ?_
      refine T_seq ?_
      refine T_sub (E' := [(6, _), (7, _), (8, _), (10, _), (14, _), (15, _)]) (Sub.cons rfl (Sub.cons rfl (Sub.cons rfl (Sub.cons rfl (Sub.cons rfl (Sub.cons rfl Sub.nil)))))) ?_
      refine T_region ?_
      refine R_op rfl rfl rfl (op_ldBA Tryz.isAgg49 Tryz.sizeOf49 (Has.t rfl) (i := 7) rfl rfl rfl) ?_
      refine R_op rfl rfl rfl (op_iface mkif_49 (Has.t rfl)) ?_
      refine R_op rfl rfl rfl (op_ldBA Tryz.isAgg49 Tryz.sizeOf49 (Has.t rfl) (i := 8) rfl rfl rfl) ?_
      refine R_op rfl rfl rfl (op_invoke meth_49_Div Tryz.call174 (c_Div (x := facX s c g) (y := gm s 1 0 * (gm s 1 0).conj * (t0 * pkv z ((1 : Nat) : Int)) * (oneQ - g * g.conj)) (by omega)) (Has.t rfl) ⟨(Has.t rfl), trivial⟩) ?_
      refine R_op rfl rfl rfl (op_move (Has.t rfl)) ?_
      refine R_op rfl rfl rfl (op_extract (Has.t rfl) rfl) ?_
      refine R_op rfl rfl rfl (op_extract (Has.t rfl) rfl) ?_
      refine R_new rfl rfl rfl (new_alloc (Ts := [Is (.bool false), Is (.slice none 0 0), Is (.bool false), Is (.slice none 0 0), Is (.slice none 0 0)]) Tryz.zeroValue49 rfl (fun V => Cells.cons' ⟨rfl, trivial⟩ (Cells.cons' ⟨rfl, trivial⟩ (Cells.cons' ⟨rfl, trivial⟩ (Cells.cons' ⟨rfl, trivial⟩ (Cells.cons' ⟨rfl, trivial⟩ (Cells.nil))))))) (fun B16 => ?_)
      refine R_stA Tryz.sizeOf49 (Has.t rfl) (Has.t rfl) rfl (i := 9) rfl (Nat.le_of_ble_eq_true rfl) rfl rfl ?_
      refine R_op rfl rfl rfl (op_assign (Has.t rfl)) ?_
      refine R_nil ?_
      refine T_seq ?_
      refine T_seq ?_
      refine T_sub (E' := [(6, _), (7, _), (8, _), (10, _), (16, _), (17, _)]) (Sub.cons rfl (Sub.cons rfl (Sub.cons rfl (Sub.cons rfl (Sub.cons rfl (Sub.cons rfl Sub.nil)))))) ?_
      refine T_region ?_
      refine R_op rfl rfl rfl (op_move (Has.t rfl)) ?_
      refine R_op rfl rfl rfl (op_neq (Has.t rfl) Has.c) ?_
      refine R_nil ?_
      refine T_cond (Has.t rfl) (fun hk => ?_) (fun hk => ?_)
      · rw [hpd] at hk
        have hk2 : facD z s g t0 = Qi.zero := by
          by_cases h : facD z s g t0 = Qi.zero
          · exact h
          · rw [if_neg h] at hk; exact absurd hk (by decide)
        have he : facR z s c g t0 = (Qi.zero, 3) := by rw [facR, if_neg hb2, if_neg hd3, if_pos hk2]
        refine T_seq ?_
        refine T_region ?_
        refine R_op rfl rfl rfl (op_ldBA Tryz.isAgg49 Tryz.sizeOf49 (Has.t rfl) (i := 4) rfl rfl rfl) ?_
        refine R_stA Tryz.sizeOf49 (Has.t rfl) (Has.t rfl) rfl (i := 3) rfl (Nat.le_of_ble_eq_true rfl) rfl rfl ?_
        refine R_op rfl rfl rfl (op_assign (Has.cN 3)) ?_
        refine R_nil ?_
        refine T_ret2 rfl (rv_to (rv_cell Tryz.isAgg49 Tryz.sizeOf49 rfl (i := 3) rfl rfl) ?_) (rv_to (rv_tmp rfl) ?_)
        · exact (fun v V k => by rw [he]; exact num_zero v V k)
        · exact (fun v V k => by rw [he]; exact k)
      · have hk2 : ¬ facD z s g t0 = Qi.zero := fun h => by rw [hpd, if_pos h] at hk; exact absurd hk (by decide)
        have he : facR z s c g t0 = (oneQ + facX s c g / facD z s g t0, 0) := by rw [facR, if_neg hb2, if_neg hd3, if_neg hk2]
        have hv : oneQ + facX s c g / (gm s 1 0 * (gm s 1 0).conj * (t0 * pkv z ((1 : Nat) : Int)) * (oneQ - g * g.conj)) = (facR z s c g t0).1 := by rw [he, hpd]
        refine T_skip ?_
        refine T_seq ?_
        refine T_region ?_
        refine R_op rfl rfl rfl (op_ldBA Tryz.isAgg49 Tryz.sizeOf49 (Has.t rfl) (i := 5) rfl rfl rfl) ?_
        refine R_op rfl rfl rfl (op_iface mkif_49 (Has.t rfl)) ?_
        refine R_op rfl rfl rfl (op_ldBA Tryz.isAgg49 Tryz.sizeOf49 (Has.t rfl) (i := 9) rfl rfl rfl) ?_
        refine R_op rfl rfl rfl (op_invoke meth_49_Add Tryz.call59 (c_Add (by omega)) (Has.t rfl) ⟨(Has.t rfl), trivial⟩) ?_
        refine R_stA Tryz.sizeOf49 (Has.t rfl) (Has.t rfl) rfl (i := 3) rfl (Nat.le_of_ble_eq_true rfl) rfl rfl ?_
        refine R_op rfl rfl rfl (op_assign (Has.cN 0)) ?_
        refine R_nil ?_
        refine T_ret2 rfl (rv_to (rv_cell Tryz.isAgg49 Tryz.sizeOf49 rfl (i := 3) rfl rfl) ?_) (rv_to (rv_tmp rfl) ?_)
        · exact (num_of hv)
        · exact (fun v V k => by rw [he]; exact k)
end Go.Proofs.YtppibhcfaahgpaaGreat
namespace Go.Proofs.YtppibhcfaahgpaaGreat
open Go Go.RowKit
theorem flat_app (a b : List Value) : flat (a ++ b) = flat a ++ flat b := by simp [flat]
theorem flat_tk {s : Nat} {xs : List Value} (h : ∀ x, x ∈ xs → x.cells.size = s) (k : Nat) (hk : k ≤ xs.length) : flat (xs.take k) = (flat xs).take (k * s) := by
  have h1 : (flat (xs.take k)).length = k * s := by rw [flat_len _ (fun x hx => h x (List.mem_of_mem_take hx))]; simp [Nat.min_eq_left hk]
  have h2 : flat xs = flat (xs.take k) ++ flat (xs.drop k) := by rw [← flat_app, List.take_append_drop]
  rw [h2, List.take_left' h1]
theorem flat_dr {s : Nat} {xs : List Value} (h : ∀ x, x ∈ xs → x.cells.size = s) (k : Nat) (hk : k ≤ xs.length) : flat (xs.drop k) = (flat xs).drop (k * s) := by
  have h1 : (flat (xs.take k)).length = k * s := by rw [flat_len _ (fun x hx => h x (List.mem_of_mem_take hx))]; simp [Nat.min_eq_left hk]
  have h2 : flat xs = flat (xs.take k) ++ flat (xs.drop k) := by rw [← flat_app, List.take_append_drop]
  rw [h2, List.drop_left' h1]
theorem all_rep {T : Ty} {V : View} : ∀ {xs : List Value} {m : Nat}, (∀ x, x ∈ xs → T.p x V) → xs.length = m → AllT (List.replicate m T) xs V
  | [], 0, _, _ => trivial
  | x :: xs, m + 1, h, hl => ⟨h x (by simp), all_rep (fun y hy => h y (by simp [hy])) (by simpa using hl)⟩
theorem rep_all {T : Ty} {V : View} {xs : List Value} {m : Nat} (h : AllT (List.replicate m T) xs V) : ∀ x, x ∈ xs → T.p x V := fun x hx => by
  obtain ⟨U, h1, h2⟩ := h.mem x hx
  rw [(List.mem_replicate.1 h1).2] at h2; exact h2
def SecT (s : Nat) (v : Value) (lo len : Nat) : Ty := ⟨fun u _ => ∃ g l0 cap, v = .slice (some ⟨g, 0, none⟩) l0 cap ∧ lo + len ≤ l0 ∧ l0 ≤ cap ∧ u = .slice (some ⟨g, lo * s, none⟩) len (cap - lo), fun h _ => h⟩
instance shSec (s : Nat) (v : Value) (lo len : Nat) : Shape (SecT s v lo len) 1 false := shape_one fun u V h => by obtain ⟨_, _, _, _, _, _, rfl⟩ := h; trivial
section
variable {P : Program} {R : Post} {cx : Cx} {n : Nat} {k : List It} {E : Env} {H : Hp} {ops : Array Oper} {o : Oper} {rest : List Oper}
variable {d : Option Tmp} {t : TypeId} {pos : String} {af : Array Edge} {g : Option (Nat × Bool)}
theorem op_secLo {x lo : Operand} {i e e' s q : Nat} {v : Value} {Ts : List Ty} {kd : IntKind} {j : Int} (hU : ∀ w, (underlying t).run P w = .ok (.slice e) w) (hS : ∀ w, (sizeOf e).run P w = .ok s w)
    (hx : Has E x (Is v)) (hlo : Has E lo (IntT kd j)) (hj : j = (q : Int)) (hH : H[i]? = some (rowO e' s v Ts)) (hq : q < Ts.length) {t' : TypeId} : OpTy P n E H ⟨d, .slice t x (some lo) none none, t', pos, af, g⟩ (SecT s v q (Ts.length - q)) :=
  op_readO hH fun a V w S hA _ hs => by
    have e1 : a.eval x = v := hx n V a hs
    have e2 : a.eval lo = .int kd j := hlo n V a hs
    subst hj
    obtain ⟨xs, _, h2⟩ := hA
    rcases h2 with ⟨_, h0, _⟩ | ⟨g1, cap, cur, rfl, _, _, hle, _⟩
    · subst h0; simp at hq
    · refine ⟨.slice (some ⟨g1, q * s, none⟩) (Ts.length - q) (cap - q), ?_, g1, Ts.length, cap, rfl, by omega, hle, rfl⟩
      have hne : ¬ cap = q := by omega
      have hb : q ≤ Ts.length := by omega
      simp [execOp, e1, e2, Instr.sliceAt, Instr.slice, Instr.sliceBounds, Instr.sliceBound, asIntOf, Sem.run_bind, hU, hS, Result.andThen, hb, hne, Addr.add, hle]
      try exact fun h => h.symm
theorem op_secHi {x hi : Operand} {i e e' s q : Nat} {v : Value} {Ts : List Ty} {kd : IntKind} {j : Int} (hU : ∀ w, (underlying t).run P w = .ok (.slice e) w) (hS : ∀ w, (sizeOf e).run P w = .ok s w)
    (hx : Has E x (Is v)) (hhi : Has E hi (IntT kd j)) (hj : j = (q : Int)) (hH : H[i]? = some (rowO e' s v Ts)) (hq : q ≤ Ts.length) (h0 : 0 < Ts.length) {t' : TypeId} : OpTy P n E H ⟨d, .slice t x none (some hi) none, t', pos, af, g⟩ (SecT s v 0 q) :=
  op_readO hH fun a V w S hA _ hs => by
    have e1 : a.eval x = v := hx n V a hs
    have e2 : a.eval hi = .int kd j := hhi n V a hs
    subst hj
    obtain ⟨xs, _, h2⟩ := hA
    rcases h2 with ⟨_, h1, _⟩ | ⟨g1, cap, cur, rfl, _, _, hle, _⟩
    · subst h1; simp at h0
    · refine ⟨.slice (some ⟨g1, 0, none⟩) q cap, ?_, g1, Ts.length, cap, rfl, by omega, hle, by simp⟩
      have hb : q ≤ cap := by omega
      simp [execOp, e1, e2, Instr.sliceAt, Instr.slice, Instr.sliceBounds, Instr.sliceBound, asIntOf, Sem.run_bind, hU, hS, Result.andThen, hb, Addr.add]
theorem copy_core {x y : Operand} {i e e' s m lo p q : Nat} {ta tb : TypeId} {v : Value} {T : Ty} {a : Act} {w : World} {V : View} {b0 o0 cp dd : Nat} {ys : List Value} {t' : TypeId} (hU : ∀ w, (underlying ta).run P w = .ok (.slice e) w) (hS : ∀ w, (sizeOf e).run P w = .ok s w)
    (hinv : Inv cx V H w) (hH : H[i]? = some (rowO e' s v (List.replicate m T))) (hxv : (SecT s v lo p).p (a.eval x) V) (ey : a.eval y = .slice (some ⟨b0, o0, none⟩) q cp)
    (hrow : Row s (List.replicate q T) ys V) (hcells : ∀ (j : Nat) u, (flat ys)[j]? = some u → w.cell? ((⟨b0, o0, none⟩ : Addr).add j) = some u) :
    ∃ w', (execOp a.eval ⟨some dd, .call ⟨.builtin .copy, #[x, y], #[ta, tb]⟩, t', pos, af, g⟩).run P w = .ok (.value (goInt (Nat.min q p))) w' ∧ Inv cx V H w' := by
  obtain ⟨S, hR⟩ := (show HH cx.w0.heap.size w V (H ++ []) by simpa using hinv.hp).get hH
  obtain ⟨xs, hrx, h2⟩ := hR
  obtain ⟨g1, l0, cap0, hv, hlo, hlc, ex⟩ := hxv
  rcases h2 with ⟨h0, _⟩ | ⟨g2, cap, cur, h3, hS', hg, hle, hcm, hcs, htake⟩
  · rw [hv] at h0; cases h0
  rw [hv] at h3
  simp only [Value.slice.injEq, Option.some.injEq, Addr.mk.injEq, List.length_replicate] at h3
  obtain ⟨⟨rfl, _⟩, rfl, rfl⟩ := h3
  simp only [List.length_replicate] at hle htake
  have hk1 : Nat.min q p ≤ q := Nat.min_le_left _ _
  have hk2 : Nat.min q p ≤ p := Nat.min_le_right _ _
  generalize hkk : Nat.min q p = k at hk1 hk2
  have hyl : ys.length = q := by rw [hrow.all.length]; simp
  have hxl : xs.length = l0 := by rw [hrx.all.length]; simp
  have hyk : ∀ z, z ∈ ys.take k → z.cells.size = s := fun z hz => hrow.size z (List.mem_of_mem_take hz)
  have hfl : (flat (ys.take k)).length = k * s := by rw [flat_len _ hyk]; simp [Nat.min_eq_left (show k ≤ ys.length by omega)]
  have hg' : w.heap[g1]? = some (.cells cur e' (0, 0)) := hg
  have h1s : (lo + k) * s ≤ l0 * s := Nat.mul_le_mul_right _ (by omega)
  have h2s : l0 * s ≤ cap0 * s := Nat.mul_le_mul_right _ hle
  have h3s : (lo + k) * s = lo * s + k * s := Nat.add_mul _ _ _
  have hpl : ∀ u, u ∈ flat (ys.take k) → Plain u := fun u hu => by
    obtain ⟨z, hz, hu'⟩ := flat_mem.1 hu
    exact hrow.plain u (flat_mem.2 ⟨z, List.mem_of_mem_take hz, hu'⟩)
  obtain ⟨w', q1, ⟨c', q2, q2'⟩, q3, q4, q5, q6, q7⟩ := run_stores (P := P) (flat (ys.take k)) (lo * s) 0 w cur hg' (by rw [hfl]; omega) hpl
  have hf := run_firstCells_some (P := P) w s k ⟨b0, o0, none⟩ q cp (flat (ys.take k)) hfl (fun j u hu => hcells j u (by
    rw [flat_tk hrow.size k (by omega), List.getElem?_take] at hu
    split at hu
    · exact hu
    · cases hu))
  refine ⟨w', ?_, ?_⟩
  · simp [execOp, resolve, invoke, builtin, ex, ey, Builtin.copy_, Builtin.lenOf, Sem.run_bind, hU, hS, Result.andThen, hkk, hf, q1]
  · have hset : H.set i (rowO e' s v (List.replicate l0 T)) = H := by
      apply List.ext_getElem?
      intro j
      by_cases c : i = j
      · subst c; rw [List.getElem?_set_self (List.getElem?_eq_some_iff.1 hH).1, hH]
      · rw [List.getElem?_set_ne c]
    rw [← hset]
    refine hinv.upd hH q4 q5 q6 q7 (fun S2 hS2 => ?_)
    obtain ⟨xs2, hrx2, h4⟩ := hS2
    rcases h4 with ⟨h0, _⟩ | ⟨g3, cap3, cur3, h5, hS3, hg3, hle3, hcm3, hcs3, htake3⟩
    · rw [hv] at h0; cases h0
    rw [hv] at h5
    simp only [Value.slice.injEq, Option.some.injEq, Addr.mk.injEq] at h5
    obtain ⟨⟨rfl, _⟩, _, rfl⟩ := h5
    have hg4 : w.heap[g1]? = some (.cells cur3 e' (0, 0)) := hg3
    rw [hg'] at hg4; simp at hg4; subst hg4
    subst hS3
    have hx2l : xs2.length = l0 := by rw [hrx2.all.length]; simp
    simp only [List.length_replicate] at htake3
    refine ⟨fun b hb => q3 b (by simpa using hb), xs2.take lo ++ ys.take k ++ xs2.drop (lo + k), ⟨all_rep (fun z hz => ?_) ?_, fun z hz => ?_, fun u hu => ?_⟩, .inr ⟨g1, cap0, c', by rw [hv]; simp, rfl, q2, by simpa using hle, hcm, ?_, ?_⟩⟩
    · simp only [List.mem_append] at hz
      rcases hz with (hz | hz) | hz
      · exact rep_all hrx2.all z (List.mem_of_mem_take hz)
      · exact rep_all hrow.all z (List.mem_of_mem_take hz)
      · exact rep_all hrx2.all z (List.mem_of_mem_drop hz)
    · simp only [List.length_append, List.length_take, List.length_drop]; omega
    · simp only [List.mem_append] at hz
      rcases hz with (hz | hz) | hz
      · exact hrx2.size z (List.mem_of_mem_take hz)
      · exact hrow.size z (List.mem_of_mem_take hz)
      · exact hrx2.size z (List.mem_of_mem_drop hz)
    · obtain ⟨z, hz, hu'⟩ := flat_mem.1 hu
      simp only [List.mem_append] at hz
      rcases hz with (hz | hz) | hz
      · exact hrx2.plain u (flat_mem.2 ⟨z, List.mem_of_mem_take hz, hu'⟩)
      · exact hrow.plain u (flat_mem.2 ⟨z, List.mem_of_mem_take hz, hu'⟩)
      · exact hrx2.plain u (flat_mem.2 ⟨z, List.mem_of_mem_drop hz, hu'⟩)
    · have : c'.toList.length = cur.toList.length := by
        rw [q2']; simp only [List.length_append, List.length_take, List.length_drop, Array.length_toList, hfl]; omega
      simpa [hcs] using this
    · rw [q2', flat_app, flat_app, flat_tk hrx2.size lo (by omega), flat_dr hrx2.size (lo + k) (by omega), ← htake3, List.length_replicate, h3s]
      simp only [Nat.add_zero, hfl]
      exact take_put _ _ _ _ _ hfl (by omega) (by simp only [Array.length_toList]; omega)
theorem op_copySec {x y : Operand} {i e e' s m lo p q : Nat} {ta tb : TypeId} {v : Value} {T : Ty} {dd : Nat} (hU : ∀ w, (underlying ta).run P w = .ok (.slice e) w) (hS : ∀ w, (sizeOf e).run P w = .ok s w)
    (hH : H[i]? = some (rowO e' s v (List.replicate m T))) (hx : Has E x (SecT s v lo p)) (hy : Has E y (SecT s v 0 q)) {t' : TypeId} :
    OpTy P n E H ⟨some dd, .call ⟨.builtin .copy, #[x, y], #[ta, tb]⟩, t', pos, af, g⟩ (NT .i64 (Nat.min q p)) := fun cx X a w V hi hs K Q hK => by
  have hil := (List.getElem?_eq_some_iff.1 hH).1
  have hH' : (H ++ X)[i]? = some (rowO e' s v (List.replicate m T)) := by rw [List.getElem?_append_left hil]; exact hH
  obtain ⟨S, hR⟩ := (show HH cx.w0.heap.size w V ((H ++ X) ++ []) by simpa using hi.hp).get hH'
  obtain ⟨xs, hrx, h2⟩ := hR
  obtain ⟨g1, l0, cap0, hv, hlo, hlc, ey⟩ := hy n V a hs
  rcases h2 with ⟨h0, _⟩ | ⟨g2, cap, cur, h3, _, hg, hle, hcm, hcs, htake⟩
  · rw [hv] at h0; cases h0
  rw [hv] at h3
  simp only [Value.slice.injEq, Option.some.injEq, Addr.mk.injEq, List.length_replicate] at h3
  obtain ⟨⟨rfl, _⟩, rfl, rfl⟩ := h3
  have hxl : xs.length = l0 := by rw [hrx.all.length]; simp
  rw [Nat.zero_mul] at ey
  have hrow : Row s (List.replicate q T) (xs.take q) V := ⟨all_rep (fun z hz => rep_all hrx.all z (List.mem_of_mem_take hz)) (by simp; omega), fun z hz => hrx.size z (List.mem_of_mem_take hz), fun u hu => by
    obtain ⟨z, hz, hu'⟩ := flat_mem.1 hu; exact hrx.plain u (flat_mem.2 ⟨z, List.mem_of_mem_take hz, hu'⟩)⟩
  obtain ⟨w', h1, h4⟩ := copy_core (dd := dd) (pos := pos) (af := af) (g := g) (t' := t') (tb := tb) hU hS hi hH' (hx n V a hs) ey hrow (fun j u hu => by
    rw [flat_tk hrx.size q (by omega), ← htake, List.getElem?_take, List.getElem?_take] at hu
    split at hu
    · split at hu
      · rw [add_plain, cell_of_heap (show w.heap[g1]? = some (.cells cur e' (0, 0)) from hg), Nat.zero_add]; simpa using hu
      · cases hu
    · cases hu)
  simp only [Oper.wp, h1, Oper.upon_value]
  exact hK _ w' V h4 (VLe.refl V) rfl
theorem op_copyV {x y : Operand} {i e e' s m q : Nat} {ta tb : TypeId} {v : Value} {T : Ty} {dd : Nat} (hU : ∀ w, (underlying ta).run P w = .ok (.slice e) w) (hS : ∀ w, (sizeOf e).run P w = .ok s w)
    (hH : H[i]? = some (rowO e' s v (List.replicate m T))) (hx : Has E x (Is v)) (hy : Has E y (SlT s (List.replicate q T))) (hq : 0 < q) (hEl : El s T) (hm : 0 < m) {t' : TypeId} :
    OpTy P n E H ⟨some dd, .call ⟨.builtin .copy, #[x, y], #[ta, tb]⟩, t', pos, af, g⟩ (NT .i64 (Nat.min q m)) := fun cx X a w V hi hs K Q hK => by
  obtain ⟨b0, o0, cp, ys, ey, _, hrow, hcells⟩ := SlT.row (hy n V a hs) (by intro h; have := congrArg List.length h; simp at this; omega) (fun U hU => by rw [(List.mem_replicate.1 hU).2]; exact hEl)
  simp only [List.length_replicate] at ey
  have hil := (List.getElem?_eq_some_iff.1 hH).1
  have hH' : (H ++ X)[i]? = some (rowO e' s v (List.replicate m T)) := by rw [List.getElem?_append_left hil]; exact hH
  obtain ⟨S, hR⟩ := (show HH cx.w0.heap.size w V ((H ++ X) ++ []) by simpa using hi.hp).get hH'
  have hxv : (SecT s v 0 m).p (a.eval x) V := by
    obtain ⟨xs, _, h2⟩ := hR
    rcases h2 with ⟨_, h0, _⟩ | ⟨g1, cap, cur, hv, _, _, hle, _⟩
    · have := congrArg List.length h0; simp at this; omega
    · simp only [List.length_replicate] at hv hle
      have ex : a.eval x = v := hx n V a hs
      exact ⟨g1, m, cap, hv, by omega, hle, by rw [ex, hv]; simp⟩
  obtain ⟨w', h1, h2⟩ := copy_core (dd := dd) (pos := pos) (af := af) (g := g) (t' := t') (tb := tb) hU hS hi hH' hxv ey hrow (hcells w hi.on)
  simp only [Oper.wp, h1, Oper.upon_value]
  exact hK _ w' V h2 (VLe.refl V) rfl
end
end Go.Proofs.YtppibhcfaahgpaaGreat
namespace Go.Proofs.YtppibhcfaahgpaaGreat
open Go Go.RowKit
set_option maxRecDepth 20000 in
theorem c_Mul64 {n : Nat} (h : n < 4294967296) : Fun Tryz.prog 234 [NT .u64 1, NT .u64 n] (TupT [NT .u64 0, NT .u64 n]) := by
  refine Fun.intro Tryz.func234 rfl Tryz.ntmps234 rfl (fun cx => ?_)
  refine T_seq ?_
  refine T_region ?_
  refine R_op rfl rfl rfl (op_assign (Has.cN 0)) ?_
  refine R_op rfl rfl rfl (op_assign (Has.cN 0)) ?_
  refine R_nil ?_
  refine T_seq ?_
  refine T_region ?_
  refine R_op rfl rfl rfl (op_move (Has.t rfl)) ?_
  refine R_op rfl rfl rfl (OpTy.nat (op_andN rfl (Has.t rfl) (Has.cN 4294967295) (by show _ < 18446744073709551616; first | omega | (simp only [lim]; omega)) (by show _ < 18446744073709551616; first | omega | (simp only [lim]; omega))) (show (1 : Nat) &&& 4294967295 = 1 by decide)) ?_
  refine R_op rfl rfl rfl (op_assign (Has.t rfl)) ?_
  refine R_nil ?_
  refine T_seq ?_
  refine T_region ?_
  refine R_op rfl rfl rfl (op_move (Has.t rfl)) ?_
  refine R_op rfl rfl rfl (OpTy.nat (op_shrN (Has.t rfl) (Has.cN 32) (by decide)) (show (1 : Nat) / 2 ^ 32 = 0 by decide)) ?_
  refine R_op rfl rfl rfl (op_assign (Has.t rfl)) ?_
  refine R_nil ?_
  refine T_seq ?_
  refine T_region ?_
  refine R_op rfl rfl rfl (op_move (Has.t rfl)) ?_
  refine R_op rfl rfl rfl (OpTy.nat (op_andN rfl (Has.t rfl) (Has.cN 4294967295) (by show _ < 18446744073709551616; first | omega | (simp only [lim]; omega)) (by show _ < 18446744073709551616; first | omega | (simp only [lim]; omega))) (show n &&& 4294967295 = n from (Nat.and_two_pow_sub_one_eq_mod n 32).trans (Nat.mod_eq_of_lt h))) ?_
  refine R_op rfl rfl rfl (op_assign (Has.t rfl)) ?_
  refine R_nil ?_
  refine T_seq ?_
  refine T_region ?_
  refine R_op rfl rfl rfl (op_move (Has.t rfl)) ?_
  refine R_op rfl rfl rfl (OpTy.nat (op_shrN (Has.t rfl) (Has.cN 32) (by decide)) (show n / 2 ^ 32 = 0 from Nat.div_eq_of_lt h)) ?_
  refine R_op rfl rfl rfl (op_assign (Has.t rfl)) ?_
  refine R_nil ?_
  refine T_seq ?_
  refine T_region ?_
  refine R_op rfl rfl rfl (op_move (Has.t rfl)) ?_
  refine R_op rfl rfl rfl (op_move (Has.t rfl)) ?_
  refine R_op rfl rfl rfl (OpTy.nat (op_mulN (Has.t rfl) (Has.t rfl) (by show _ < 18446744073709551616; first | omega | (simp only [lim]; omega))) (Nat.one_mul n)) ?_
  refine R_op rfl rfl rfl (op_assign (Has.t rfl)) ?_
  refine R_nil ?_
  refine T_seq ?_
  refine T_region ?_
  refine R_op rfl rfl rfl (op_move (Has.t rfl)) ?_
  refine R_op rfl rfl rfl (op_move (Has.t rfl)) ?_
  refine R_op rfl rfl rfl (OpTy.nat (op_mulN (Has.t rfl) (Has.t rfl) (by show _ < 18446744073709551616; first | omega | (simp only [lim]; omega))) (Nat.zero_mul n)) ?_
  refine R_op rfl rfl rfl (op_move (Has.t rfl)) ?_
  refine R_op rfl rfl rfl (OpTy.nat (op_shrN (Has.t rfl) (Has.cN 32) (by decide)) (show n / 2 ^ 32 = 0 from Nat.div_eq_of_lt h)) ?_
  refine R_op rfl rfl rfl (op_addN (Has.t rfl) (Has.t rfl) (by show _ < 18446744073709551616; first | omega | (simp only [lim]; omega))) ?_
  refine R_op rfl rfl rfl (op_assign (Has.t rfl)) ?_
  refine R_nil ?_
  refine T_seq ?_
  refine T_region ?_
  refine R_op rfl rfl rfl (op_move (Has.t rfl)) ?_
  refine R_op rfl rfl rfl (OpTy.nat (op_andN rfl (Has.t rfl) (Has.cN 4294967295) (by show _ < 18446744073709551616; first | omega | (simp only [lim]; omega)) (by show _ < 18446744073709551616; first | omega | (simp only [lim]; omega))) (show (0 + 0 : Nat) &&& 4294967295 = 0 by decide)) ?_
  refine R_op rfl rfl rfl (op_assign (Has.t rfl)) ?_
  refine R_nil ?_
  refine T_seq ?_
  refine T_region ?_
  refine R_op rfl rfl rfl (op_move (Has.t rfl)) ?_
  refine R_op rfl rfl rfl (OpTy.nat (op_shrN (Has.t rfl) (Has.cN 32) (by decide)) (show (0 + 0 : Nat) / 2 ^ 32 = 0 by decide)) ?_
  refine R_op rfl rfl rfl (op_assign (Has.t rfl)) ?_
  refine R_nil ?_
  refine T_seq ?_
  refine T_region ?_
  refine R_op rfl rfl rfl (op_move (Has.t rfl)) ?_
  refine R_op rfl rfl rfl (op_move (Has.t rfl)) ?_
  refine R_op rfl rfl rfl (op_move (Has.t rfl)) ?_
  refine R_op rfl rfl rfl (OpTy.nat (op_mulN (Has.t rfl) (Has.t rfl) (by show _ < 18446744073709551616; first | omega | (simp only [lim]; omega))) (show (1 * 0 : Nat) = 0 by decide)) ?_
  refine R_op rfl rfl rfl (op_addN (Has.t rfl) (Has.t rfl) (by show _ < 18446744073709551616; first | omega | (simp only [lim]; omega))) ?_
  refine R_op rfl rfl rfl (op_assign (Has.t rfl)) ?_
  refine R_nil ?_
  refine T_seq ?_
  refine T_region ?_
  refine R_op rfl rfl rfl (op_move (Has.t rfl)) ?_
  refine R_op rfl rfl rfl (op_move (Has.t rfl)) ?_
  refine R_op rfl rfl rfl (OpTy.nat (op_mulN (Has.t rfl) (Has.t rfl) (by show _ < 18446744073709551616; first | omega | (simp only [lim]; omega))) (show (0 * 0 : Nat) = 0 by decide)) ?_
  refine R_op rfl rfl rfl (op_move (Has.t rfl)) ?_
  refine R_op rfl rfl rfl (op_addN (Has.t rfl) (Has.t rfl) (by show _ < 18446744073709551616; first | omega | (simp only [lim]; omega))) ?_
  refine R_op rfl rfl rfl (op_move (Has.t rfl)) ?_
  refine R_op rfl rfl rfl (OpTy.nat (op_shrN (Has.t rfl) (Has.cN 32) (by decide)) (show (0 + 0 : Nat) / 2 ^ 32 = 0 by decide)) ?_
  refine R_op rfl rfl rfl (op_addN (Has.t rfl) (Has.t rfl) (by show _ < 18446744073709551616; first | omega | (simp only [lim]; omega))) ?_
  refine R_op rfl rfl rfl (op_assign (Has.t rfl)) ?_
  refine R_nil ?_
  refine T_seq ?_
  refine T_region ?_
  refine R_op rfl rfl rfl (op_move (Has.t rfl)) ?_
  refine R_op rfl rfl rfl (op_move (Has.t rfl)) ?_
  refine R_op rfl rfl rfl (OpTy.nat (op_mulN (Has.t rfl) (Has.t rfl) (by show _ < 18446744073709551616; first | omega | (simp only [lim]; omega))) (Nat.one_mul n)) ?_
  refine R_op rfl rfl rfl (op_assign (Has.t rfl)) ?_
  refine R_nil ?_
  refine T_ret2 rfl (rv_to (rv_tmp rfl) ?_) (rv_tmp rfl)
  exact (nt_of (by decide))
set_option maxRecDepth 20000 in
theorem c_bMul {n : Nat} (h : n < 4294967296) : Fun Tryz.prog 209 [NT .u64 1, NT .u64 n] (TupT [NT .u64 0, NT .u64 n]) := by
  refine Fun.intro Tryz.func209 rfl Tryz.ntmps209 rfl (fun cx => ?_)
  refine T_seq ?_
  refine T_region ?_
  refine R_op rfl rfl rfl (op_assign (Has.cN 0)) ?_
  refine R_op rfl rfl rfl (op_assign (Has.cN 0)) ?_
  refine R_nil ?_
  refine T_seq ?_
  refine T_cond Has.c (fun hf => ?_) (fun hf => ?_)
  · exact absurd hf (by decide)
  · refine T_skip ?_
    refine T_seq ?_
    refine T_region ?_
    refine R_op rfl rfl rfl (op_move (Has.t rfl)) ?_
    refine R_op rfl rfl rfl (op_move (Has.t rfl)) ?_
    refine R_op rfl rfl rfl (op_call Tryz.call234 (c_Mul64 h) ⟨(Has.t rfl), (Has.t rfl), trivial⟩) ?_
    refine R_op rfl rfl rfl (op_move (Has.t rfl)) ?_
    refine R_op rfl rfl rfl (op_extract (Has.t rfl) rfl) ?_
    refine R_op rfl rfl rfl (op_extract (Has.t rfl) rfl) ?_
    refine R_op rfl rfl rfl (op_assign (Has.t rfl)) ?_
    refine R_op rfl rfl rfl (op_assign (Has.t rfl)) ?_
    refine R_nil ?_
    refine T_seq ?_
    refine T_region ?_
    refine R_op rfl rfl rfl (op_move (Has.t rfl)) ?_
    refine R_op rfl rfl rfl (op_move (Has.t rfl)) ?_
    refine R_op rfl rfl rfl (op_assign (Has.t rfl)) ?_
    refine R_op rfl rfl rfl (op_assign (Has.t rfl)) ?_
    refine R_nil ?_
    exact T_ret2 rfl (rv_tmp rfl) (rv_tmp rfl)
set_option maxRecDepth 20000 in
theorem c_RepO {m : Nat} (h1 : 1 ≤ m) (hm : m ≤ 1000) : FunO Tryz.prog 168 [NumsT [Qi.zero], NT .i64 m] [] ({v : Value // exactH v}) (fun v => Is v.1) (fun v => [rowO 49 5 v.1 ((tab m fun _ => Qi.zero).map NumT)]) (fun _ => True) := by
  refine FunO.intro Tryz.func168 rfl Tryz.ntmps168 rfl (fun cx Z => ?_)
  refine T_seq ?_
  refine T_region ?_
  refine R_op rfl rfl rfl (op_assign Has.c) ?_
  refine R_nil ?_
  refine T_seq ?_
  refine T_seq ?_
  refine T_region ?_
  refine R_op rfl rfl rfl (op_move (Has.t rfl)) ?_
  refine R_op rfl rfl rfl (op_lssN (Has.t rfl) (Has.cN 0)) ?_
  refine R_nil ?_
  refine T_cond (Has.t rfl) (fun h0 => ?_) (fun h0 => ?_)
  · simp only [decide_eq_true_eq] at h0
    omega
  · refine T_skip ?_
    refine T_seq ?_
    refine T_region ?_
    refine R_op rfl rfl rfl (op_move (Has.t rfl)) ?_
    refine R_op rfl rfl rfl (op_len Tryz.runUnderlying30 (Has.t rfl) (show (([Qi.zero].map NumT).length : Int) = ((1 : Nat) : Int) from rfl)) ?_
    refine R_op rfl rfl rfl (op_convN Tryz.runUnderlying3 Tryz.runUnderlying241 (Has.t rfl) (by show _ < 18446744073709551616; first | omega | (simp only [lim]; omega))) ?_
    refine R_op rfl rfl rfl (op_move (Has.t rfl)) ?_
    refine R_op rfl rfl rfl (op_convN Tryz.runUnderlying3 Tryz.runUnderlying241 (Has.t rfl) (by show _ < 18446744073709551616; first | omega | (simp only [lim]; omega))) ?_
    refine R_op rfl rfl rfl (op_call Tryz.call209 (c_bMul (by omega)) ⟨(Has.t rfl), (Has.t rfl), trivial⟩) ?_
    refine R_op rfl rfl rfl (op_move (Has.t rfl)) ?_
    refine R_op rfl rfl rfl (op_extract (Has.t rfl) rfl) ?_
    refine R_op rfl rfl rfl (op_extract (Has.t rfl) rfl) ?_
    refine R_op rfl rfl rfl (op_assign (Has.t rfl)) ?_
    refine R_op rfl rfl rfl (op_assign (Has.t rfl)) ?_
    refine R_nil ?_
    refine T_seq ?_
    refine T_seq ?_
    refine T_region ?_
    refine R_op rfl rfl rfl (op_move (Has.t rfl)) ?_
    refine R_op rfl rfl rfl (op_gtrN (Has.t rfl) (Has.cN 0)) ?_
    refine R_op rfl rfl rfl (op_move (Has.t rfl)) ?_
    refine R_step rfl rfl (S_when rfl rfl (Has.t rfl) (fun h => op_move (Has.t rfl))) ?_
    refine R_step rfl rfl (S_when rfl rfl (Has.t rfl) (fun h => op_gtrN (Has.w rfl h) (Has.cN 9223372036854775807))) ?_
    refine R_op rfl rfl rfl (op_or (Has.t rfl) (fun h => (Has.w rfl h))) ?_
    refine R_nil ?_
    refine T_cond (Has.t rfl) (fun h2 => ?_) (fun h2 => ?_)
    · simp only [Bool.or_eq_true, decide_eq_true_eq] at h2
      omega
    · refine T_skip ?_
      refine T_seq ?_
      refine T_region ?_
      refine R_op rfl rfl rfl (op_move (Has.t rfl)) ?_
      refine R_op rfl rfl rfl (op_convN Tryz.runUnderlying241 Tryz.runUnderlying3 (Has.t rfl) (by show _ < 9223372036854775808; first | omega | (simp only [lim]; omega))) ?_
      refine R_makeE (T := NumT Qi.zero) (i := Tryz.t49) und_30 info_49 rfl rfl (Has.t rfl) rfl num_zero_p (El.ag rfl) (by show 88 * _ ≤ _; omega) (by omega) rfl (fun B30 hB30 => ?_)
      refine R_op rfl rfl rfl (op_assign (Has.t rfl)) ?_
      refine R_nil ?_
      refine T_seq ?_
      refine T_region ?_
      refine R_op rfl rfl rfl (op_move (Has.t rfl)) ?_
      refine R_op rfl rfl rfl (op_move (Has.t rfl)) ?_
      refine R_op rfl rfl rfl (op_copyV (q := 1) (T := NumT Qi.zero) Tryz.runUnderlying30 Tryz.sizeOf49 (i := 1) rfl (Has.t rfl) (Has.t rfl) (by decide) (El.ag rfl) (by omega)) ?_
      refine R_op rfl rfl rfl (op_assign (Has.t rfl)) ?_
      refine R_nil ?_
      refine T_seq ?_
      refine T_block ?_
      refine T_loop (fun (k : Nat) => 1 ≤ k ∧ k ≤ m) (fun (k : Nat) => m - k) (fun (k : Nat) => [(7, Is B30), (8, NT .i64 k)]) (fun (k : Nat) => [Z, rowO 49 5 B30 (List.replicate m (NumT Qi.zero))]) (Nat.min 1 m) ⟨by show 1 ≤ min 1 m; omega, by show min 1 m ≤ m; omega⟩
        (Sub.cons rfl (Sub.cons rfl Sub.nil)) (HSub.refl _) (fun k ⟨hk1, hk⟩ => ?_)
      refine T_seq ?_
      refine T_seq ?_
      refine T_region ?_
      refine R_op rfl rfl rfl (op_move (Has.t rfl)) ?_
      refine R_op rfl rfl rfl (op_move (Has.t rfl)) ?_
      refine R_op rfl rfl rfl (op_lenO Tryz.runUnderlying30 (Has.t rfl) (i := 1) rfl (show ((List.replicate m (NumT Qi.zero)).length : Int) = ((m : Nat) : Int) by simp)) ?_
      refine R_op rfl rfl rfl (op_lssN (Has.t rfl) (Has.t rfl)) ?_
      refine R_nil ?_
      refine T_cond (Has.t rfl) (fun hd => ?_) (fun hd => ?_)
      · simp only [decide_eq_true_eq] at hd
        have hlen : (List.replicate m (NumT Qi.zero)).length = m := by simp
        have h5 : Nat.min k ((List.replicate m (NumT Qi.zero)).length - k) = min k (m - k) := by rw [hlen]
        refine T_skip ?_
        refine T_block ?_
        refine D_start (m := 8) ?_
        refine D_step (Ei := [(8, _)]) rfl rfl (Srcs.cons (Src.pre rfl rfl) Srcs.nil) (S_plain rfl (op_move (Has.t rfl))) ?_
        refine D_step (Ei := [(7, _)]) rfl rfl (Srcs.cons (Src.pre rfl rfl) Srcs.nil) (S_plain rfl (op_move (Has.t rfl))) ?_
        refine D_step (Ei := [(8, _)]) rfl rfl (Srcs.cons (Src.pre rfl rfl) Srcs.nil) (S_plain rfl (op_move (Has.t rfl))) ?_
        refine D_step (Ei := [(39, _), (40, _)]) rfl rfl (Srcs.cons (Src.op 1 rfl rfl) (Srcs.cons (Src.op 2 rfl rfl) Srcs.nil)) (S_plain rfl (op_secLo Tryz.runUnderlying30 Tryz.sizeOf49 (Has.t rfl) (Has.t rfl) rfl (i := 1) rfl (by rw [hlen]; exact hd))) ?_
        refine D_step (Ei := [(7, _)]) rfl rfl (Srcs.cons (Src.pre rfl rfl) Srcs.nil) (S_plain rfl (op_move (Has.t rfl))) ?_
        refine D_step (Ei := [(8, _)]) rfl rfl (Srcs.cons (Src.pre rfl rfl) Srcs.nil) (S_plain rfl (op_move (Has.t rfl))) ?_
        refine D_step (Ei := [(42, _), (43, _)]) rfl rfl (Srcs.cons (Src.op 4 rfl rfl) (Srcs.cons (Src.op 5 rfl rfl) Srcs.nil)) (S_plain rfl (op_secHi Tryz.runUnderlying30 Tryz.sizeOf49 (Has.t rfl) (Has.t rfl) rfl (i := 1) rfl (by rw [hlen]; omega) (by rw [hlen]; omega))) ?_
        refine D_step (Ei := [(41, _), (44, _)]) rfl rfl (Srcs.cons (Src.op 3 rfl rfl) (Srcs.cons (Src.op 6 rfl rfl) Srcs.nil)) (S_plain rfl (op_copySec (T := NumT Qi.zero) Tryz.runUnderlying30 Tryz.sizeOf49 (i := 1) rfl (Has.t rfl) (Has.t rfl))) ?_
        refine D_done mixed rfl (by kernel_rfl) (F_val (F_val (F_val (F_val (F_val (F_val (F_val (F_val (F_nil ?_)))))))))
        refine R_op rfl rfl rfl (op_addN (Has.t rfl) (Has.t rfl) (by show _ < 9223372036854775808; omega)) ?_
        refine R_op rfl rfl rfl (op_assign (Has.t rfl)) ?_
        refine R_nil ?_
        refine T_blk ?_
        refine T_again (k + Nat.min k ((List.replicate m (NumT Qi.zero)).length - k)) ⟨by omega, by omega⟩ (by omega) (Sub.cons rfl (Sub.cons rfl Sub.nil)) (HSub.refl _)
      · refine T_exit rfl ?_
        refine T_seq ?_
        refine T_region ?_
        refine R_op rfl rfl rfl (op_move (Has.t rfl)) ?_
        refine R_op rfl rfl rfl (op_assign (Has.t rfl)) ?_
        refine R_nil ?_
        exact T_retO ⟨B30, hB30⟩ trivial [0, 1] ⟨⟨_, rfl, fun _ _ _ h => h⟩, ⟨_, rfl, (rowO_of (by rw [tab_const, rep_mapF]))⟩, trivial⟩ (by decide) (rvs1 rfl (rv_tmp rfl))
end Go.Proofs.YtppibhcfaahgpaaGreat
namespace Go.Proofs.YtppibhcfaahgpaaGreat
open Go Go.RowKit
theorem bld_35_0_1 {n : Nat} {E : Env} {H : Hp} {d : Option Tmp} {t : TypeId} {pos : String} {af : Array Edge} {g : Option (Nat × Bool)} {x0 x1 : Operand} {T0 T1 T2 : Ty} (h0 : Has E x0 (AggT [T0, T1])) [s1 : Shape T2 1 false] (h1 : Has E x1 T2) :
    OpTy Tryz.prog n E H ⟨d, .build 35 #[(0, x0), (1, x1)], t, pos, af, g⟩ (AggT [T0, T1, T2]) :=
  op_build (parts := [(0, x0), (1, x1)]) fun a V w hs => by
    obtain ⟨v0, e0, c0⟩ := h0 n V a hs
    obtain ⟨c0_0, c0_1, rfl⟩ : ∃ c0_0 c0_1, v0 = [c0_0, c0_1] := list2 (by simpa using c0.length)
    have p1 := h1 n V a hs
    generalize e1 : a.eval x1 = v1 at p1
    have q1 := (s1.ok v1 V p1).2.2 rfl
    refine ⟨.agg #[c0_0, c0_1, v1], ?_, [c0_0, c0_1, v1], rfl, Cells.cons' (c0.at (i := 0) rfl rfl) (Cells.cons' (c0.at (i := 1) rfl rfl) (Cells.cons' (⟨p1, q1⟩) (Cells.nil)))⟩
    simp [e0, e1, Instr.build, Instr.fill, Sem.run_bind, Result.andThen, cells_agg, q1.cells, Tryz.zeroValue35, Tryz.runUnderlying35, Tryz.sizeOf31, Tryz.sizeOf33]
end Go.Proofs.YtppibhcfaahgpaaGreat
namespace Go.Proofs.YtppibhcfaahgpaaGreat
open Go Go.RowKit
set_option maxRecDepth 20000 in
theorem c_zerosO {n : Nat} (hn : n ≤ 1000) : FunO Tryz.prog 99 [NT .i64 n, NT .i64 n] [] (Nat) (fun B => Is (.slice (some ⟨B, 0, none⟩) n n)) (fun B => [matP exactH B 30 49 5 (FRow NumT (zeroM n n))]) (fun _ => True) := by
  refine FunO.intro Tryz.func99 rfl Tryz.ntmps99 rfl (fun cx Z => ?_)
  refine T_seq ?_
  refine T_region ?_
  refine R_op rfl rfl rfl (op_assign Has.c) ?_
  refine R_nil ?_
  refine T_seq ?_
  refine T_region ?_
  refine R_op rfl rfl rfl (op_move (Has.t rfl)) ?_
  refine R_new rfl rfl rfl (new_make (T := Is (.slice none 0 0)) (i := Tryz.t30) Tryz.underlying31 info_30 rfl rfl (Has.t rfl) rfl (fun _ => rfl) trivial (by show 24 * _ ≤ _; omega) (by omega)) (fun B8 => ?_)
  refine R_op rfl rfl rfl (op_assign (Has.t rfl)) ?_
  refine R_nil ?_
  refine T_seq ?_
  refine T_seq ?_
  refine T_region ?_
  refine R_op rfl rfl rfl (op_move (Has.t rfl)) ?_
  refine R_op rfl rfl rfl (op_lenI Tryz.runUnderlying31 (Has.t rfl)) ?_
  refine R_op rfl rfl rfl (op_move (Has.cN 0)) ?_
  refine R_nil ?_
  refine T_block ?_
  refine T_conv 1 rfl (mat_nilE exactH ⟨none, 0, rfl⟩ (e := 49) (s := 5)) ?_
  refine T_loop (fun (k : Nat) => k ≤ n) (fun (k : Nat) => n - k) (fun (k : Nat) => [(1, NT .i64 n), (5, Is (.slice (some ⟨B8, 0, none⟩) n n)), (10, NT .i64 n), (11, NT .i64 k)]) (fun (k : Nat) => [Z, matP exactH B8 30 49 5 (FRow NumT (mixT (fun _ => (tab n fun _ => Qi.zero)) [] n k))]) 0 (Nat.zero_le _)
    (Sub.cons rfl (Sub.cons rfl (Sub.cons rfl (Sub.cons rfl Sub.nil)))) (HSub.cons (fun _ _ _ h => h) (HSub.cons (matO_of (by rw [← mix_zero, tab_const]; exact rep_FRow NumT n)) HSub.nil)) (fun k hk => ?_)
  refine T_seq ?_
  refine T_region ?_
  refine R_op rfl rfl rfl (op_lssN (Has.t rfl) (Has.t rfl)) ?_
  refine R_nil ?_
  refine T_seq ?_
  refine T_cond (Has.t rfl) (fun hd => ?_) (fun hd => ?_)
  · simp only [decide_eq_true_eq] at hd
    refine T_focusE 1 (k) rfl (frow_mix hd) (fun v hv => ?_)
    refine T_skip ?_
    refine T_seq ?_
    refine T_block ?_
    refine T_seq ?_
    refine T_region ?_
    refine R_op rfl rfl rfl (op_move (Has.t rfl)) ?_
    refine R_op rfl rfl rfl (op_assign (Has.t rfl)) ?_
    refine R_nil ?_
    refine T_region ?_
    refine R_op rfl rfl rfl (op_move (Has.t rfl)) ?_
    refine R_op rfl rfl rfl (op_move (Has.t rfl)) ?_
    refine R_op rfl rfl rfl (op_call Tryz.call28 (c_Int (n := 0) (by decide) (by decide)) ⟨(Has.cN 0), trivial⟩) ?_
    refine R_op rfl rfl rfl (op_call Tryz.call81 c_of ⟨(Has.t rfl), trivial⟩) ?_
    refine R_op rfl rfl rfl (op_bslice (xs := [.tmp 17]) Tryz.runUnderlying30 Tryz.sizeOf49 Tryz.zeroValue49 (Elems.cons (Has.t rfl) Elems.nil) rfl rfl rfl) ?_
    refine R_op rfl rfl rfl (op_move (Has.t rfl)) ?_
    refine R_call0 Tryz.call168 (c_RepO (m := n) (by omega) hn) ⟨(Has.t rfl), (Has.t rfl), trivial⟩ rfl (fun B20 _ => ?_)
    have hB20 := B20.2
    refine R_op rfl rfl rfl (op_idxB Tryz.runUnderlying31 Tryz.sizeOf30 (Has.t rfl) (Has.t rfl) rfl (by omega) (by rw [Nat.mul_one, Nat.zero_add])) ?_
    refine R_stH Tryz.sizeOf30 (Has.t rfl) (Has.t rfl) (by simp only [FRow, List.length_map, mix_len]; omega) (j := 1) (l := 3) rfl rfl rfl ?_
    refine R_nil ?_
    refine T_blk ?_
    refine T_unfocus 1 3 rfl rfl (by decide) (by simp only [FRow, List.length_map, mix_len]; omega) ?_
    refine T_region ?_
    refine R_op rfl rfl rfl (op_addN (Has.t rfl) (Has.cN 1) (by show _ < 9223372036854775808; first | omega | (simp only [lim]; omega))) ?_
    refine R_op rfl rfl rfl (op_move (Has.t rfl)) ?_
    refine R_nil ?_
    refine T_keep [0, 1] rfl (by decide) ?_
    refine T_again (k + 1) hd (by omega) (Sub.cons rfl (Sub.cons rfl (Sub.cons rfl (Sub.cons rfl Sub.nil)))) (HSub.cons (fun _ _ _ h => h) (HSub.cons (matO_of (by rw [set_FRow, ← mix_set (f := fun _ => (tab n fun _ => Qi.zero))])) HSub.nil))
  · simp only [decide_eq_false_iff_not] at hd
    obtain rfl : n = k := Nat.le_antisymm (by omega) hk
    refine T_exit rfl ?_
    refine T_seq ?_
    refine T_region ?_
    refine R_op rfl rfl rfl (op_move (Has.t rfl)) ?_
    refine R_op rfl rfl rfl (op_assign (Has.t rfl)) ?_
    refine R_nil ?_
    exact T_retO B8 trivial [0, 1] ⟨⟨_, rfl, fun _ _ _ h => h⟩, ⟨_, rfl, (matO_of (by rw [mix_fin]; rfl))⟩, trivial⟩ (by decide) (rvs1 rfl (rv_tmp rfl))
set_option maxRecDepth 20000 in
theorem c_thermO {z : List Qi} {s : List (List Qi)} {L : Nat} (hz : FitL z L) (hs : FitM s L) (hL1 : 1 ≤ L) (hL : L ≤ 4000) (hsh : Shp s z.length z.length) (hl1 : 1 ≤ z.length) (hl : z.length ≤ 8) : FunO Tryz.prog 96 [NetT z s] [] (Nat) (fun B => Is (.slice (some ⟨B, 0, none⟩) z.length z.length)) (fun B => [matP exactH B 30 49 5 (FRow NumT (ownM z s))]) (fun _ => True) := by
  have hs1 := hs.le (Nat.le_refl L)
  have hsl := hsh.1
  have hD := diag_shp z
  have hDf := diag_fit hz hL1
  have hXf := carM_fit hs hDf hL1 (by rw [hD.1]; exact hl)
  have hX : Shp (carM s (diagM z)) s.length s.length := carM_shp
  refine FunO.intro Tryz.func96 rfl Tryz.ntmps96 rfl (fun cx Z => ?_)
  refine T_seq ?_
  refine T_region ?_
  refine R_new rfl rfl rfl (new_box (Has.t rfl)) (fun B1 => ?_)
  refine R_op rfl rfl rfl (op_assign Has.c) ?_
  refine R_nil ?_
  refine T_seq ?_
  refine D_start (m := 3) ?_
  refine D_step (Ei := [(1, _)]) rfl rfl (Srcs.cons (Src.pre rfl rfl) Srcs.nil) (S_plain rfl (op_ldBA Tryz.isAgg33 Tryz.sizeOf33 (Has.t rfl) (i := 1) rfl rfl rfl)) ?_
  refine D_step (Ei := [(10, _)]) rfl rfl (Srcs.cons (Src.op 0 rfl rfl) Srcs.nil) (S_plain rfl (op_call Tryz.call74 c_Ports ⟨(Has.t rfl), trivial⟩)) ?_
  refine D_step (Ei := [(1, _)]) rfl rfl (Srcs.cons (Src.pre rfl rfl) Srcs.nil) (S_plain rfl (op_ldBA Tryz.isAgg33 Tryz.sizeOf33 (Has.t rfl) (i := 1) rfl rfl rfl)) ?_
  refine D_done mixed rfl (by kernel_rfl) (F_val (F_val (F_val (F_nil ?_))))
  refine R_op rfl rfl rfl (op_call Tryz.call74 c_Ports ⟨(Has.t rfl), trivial⟩) ?_
  refine R_call0 Tryz.call99 (c_zerosO (n := z.length) (by omega)) ⟨(Has.t rfl), (Has.t rfl), trivial⟩ rfl (fun B14 _ => ?_)
  refine R_op rfl rfl rfl (op_assign (Has.t rfl)) ?_
  refine R_nil ?_
  refine T_seq ?_
  refine T_seq ?_
  refine T_region ?_
  refine R_op rfl rfl rfl (op_ldBA Tryz.isAgg33 Tryz.sizeOf33 (Has.t rfl) (i := 1) rfl rfl rfl) ?_
  refine R_op rfl rfl rfl (op_call Tryz.call167 (c_refs (by omega)) ⟨(Has.t rfl), trivial⟩) ?_
  refine R_op rfl rfl rfl (op_len Tryz.runUnderlying30 (Has.t rfl) len_map) ?_
  refine R_op rfl rfl rfl (op_move (Has.cN 0)) ?_
  refine R_nil ?_
  refine T_block ?_
  refine T_loop (fun (i : Nat) => i ≤ z.length) (fun (i : Nat) => z.length - i) (fun (i : Nat) => [(1, PtrB B1 0), (3, Is (.slice (some ⟨B14, 0, none⟩) z.length z.length)), (16, NumsT z), (17, NT .i64 z.length), (18, NT .i64 i)]) (fun (i : Nat) => [Z, box B1 33 [NumsT z, NumM s], matP exactH B14 30 49 5 (FRow NumT (mixT (fun i => (tab z.length fun _ => Qi.zero).set i (gv z i)) (tab z.length fun _ => Qi.zero) z.length i))]) 0 (Nat.zero_le _)
    (Sub.cons rfl (Sub.cons rfl (Sub.cons rfl (Sub.cons rfl (Sub.cons rfl Sub.nil))))) (HSub.cons (fun _ _ _ h => h) (HSub.cons (fun _ _ _ h => h) (HSub.cons (matO_of (by rw [zeroM, mix_zero])) HSub.nil))) (fun i hi => ?_)
  refine T_seq ?_
  refine T_region ?_
  refine R_op rfl rfl rfl (op_lssN (Has.t rfl) (Has.t rfl)) ?_
  refine R_nil ?_
  refine T_seq ?_
  refine T_cond (Has.t rfl) (fun hd => ?_) (fun hd => ?_)
  · simp only [decide_eq_true_eq] at hd
    have hzl := tab_len z.length fun _ => Qi.zero
    refine T_focusE 2 (i) rfl (frow_mix hd) (fun v hv => ?_)
    refine T_skip ?_
    refine T_seq ?_
    refine T_block ?_
    refine T_seq ?_
    refine T_region ?_
    refine R_op rfl rfl rfl (op_move (Has.t rfl)) ?_
    refine R_op rfl rfl rfl (op_idx Tryz.runUnderlying30 Tryz.sizeOf49 (Has.t rfl) (Has.t rfl) rfl (map_get (getD_some (d := Qi.zero) hd))) ?_
    refine R_op rfl rfl rfl (op_ld Tryz.isAgg49 Tryz.sizeOf49 (Has.t rfl)) ?_
    refine R_new rfl rfl rfl (new_alloc (Ts := [Is (.bool false), Is (.slice none 0 0), Is (.bool false), Is (.slice none 0 0), Is (.slice none 0 0)]) Tryz.zeroValue49 rfl (fun V => Cells.cons' ⟨rfl, trivial⟩ (Cells.cons' ⟨rfl, trivial⟩ (Cells.cons' ⟨rfl, trivial⟩ (Cells.cons' ⟨rfl, trivial⟩ (Cells.cons' ⟨rfl, trivial⟩ (Cells.nil))))))) (fun B5 => ?_)
    refine R_op rfl rfl rfl (op_assign (Has.t rfl)) ?_
    refine R_stA Tryz.sizeOf49 (Has.t rfl) (Has.t rfl) rfl (i := 4) rfl (Nat.le_of_ble_eq_true rfl) rfl rfl ?_
    refine R_nil ?_
    refine D_start (m := 7) ?_
    refine D_step (Ei := [(3, _)]) rfl rfl (Srcs.cons (Src.pre rfl rfl) Srcs.nil) (S_plain rfl (op_move (Has.t rfl))) ?_
    refine D_step (Ei := [(4, _)]) rfl rfl (Srcs.cons (Src.pre rfl rfl) Srcs.nil) (S_plain rfl (op_move (Has.t rfl))) ?_
    refine D_step (Ei := [(23, _), (24, _)]) rfl rfl (Srcs.cons (Src.op 0 rfl rfl) (Srcs.cons (Src.op 1 rfl rfl) Srcs.nil)) (S_plain rfl (op_idxB Tryz.runUnderlying31 Tryz.sizeOf30 (Has.t rfl) (Has.t rfl) rfl (by omega) (by rw [Nat.mul_one, Nat.zero_add]))) ?_
    refine D_step (Ei := [(25, _)]) rfl rfl (Srcs.cons (Src.op 2 rfl rfl) Srcs.nil) (S_plain rfl (op_ldH Tryz.isAgg30 Tryz.sizeOf30 (Has.t rfl) (j := 2) rfl)) ?_
    refine D_step (Ei := [(4, _)]) rfl rfl (Srcs.cons (Src.pre rfl rfl) Srcs.nil) (S_plain rfl (op_move (Has.t rfl))) ?_
    refine D_step (Ei := [(5, _)]) rfl rfl (Srcs.cons (Src.pre rfl rfl) Srcs.nil) (S_plain rfl (op_ldBA Tryz.isAgg49 Tryz.sizeOf49 (Has.t rfl) (i := 4) rfl rfl rfl)) ?_
    refine D_step (Ei := [(28, _)]) rfl rfl (Srcs.cons (Src.op 5 rfl rfl) Srcs.nil) (S_plain rfl (op_call Tryz.call81 c_of ⟨(Has.t rfl), trivial⟩)) ?_
    refine D_done mixed rfl (by kernel_rfl) (F_val (F_val (F_val (F_val (F_val (F_val (F_val (F_nil ?_))))))))
    refine R_op rfl rfl rfl (op_idxO Tryz.runUnderlying30 Tryz.sizeOf49 (Has.t rfl) (Has.t rfl) rfl (i := 3) rfl (by simp only [List.length_map, tab_len]; omega) rfl) ?_
    refine R_stO Tryz.sizeOf49 (Has.t rfl) (Has.t rfl) (El.ag rfl) (i := 3) rfl rfl (by simp only [List.length_map, tab_len]; omega) rfl ?_
    refine R_nil ?_
    refine T_blk ?_
    refine T_unfocus 2 3 rfl rfl (by decide) (by simp only [FRow, List.length_map, mix_len]; omega) ?_
    refine T_region ?_
    refine R_op rfl rfl rfl (op_addN (Has.t rfl) (Has.cN 1) (by show _ < 9223372036854775808; first | omega | (simp only [lim]; omega))) ?_
    refine R_op rfl rfl rfl (op_move (Has.t rfl)) ?_
    refine R_nil ?_
    refine T_keep [0, 1, 2] rfl (by decide) ?_
    refine T_again (i + 1) hd (by omega) (Sub.cons rfl (Sub.cons rfl (Sub.cons rfl (Sub.cons rfl (Sub.cons rfl Sub.nil))))) (HSub.cons (fun _ _ _ h => h) (HSub.cons (fun _ _ _ h => h) (HSub.cons (matO_of (by rw [← mix_set (f := (fun i => (tab z.length fun _ => Qi.zero).set i (gv z i))), ← set_FRow, ← set_mapF])) HSub.nil)))
  · simp only [decide_eq_false_iff_not] at hd
    obtain rfl : i = z.length := Nat.le_antisymm hi (by omega)
    rw [mix_fin]
    refine T_exit rfl ?_
    refine T_seq ?_
    refine T_region ?_
    refine R_op rfl rfl rfl (op_ldBA Tryz.isAgg33 Tryz.sizeOf33 (Has.t rfl) (i := 1) rfl rfl rfl) ?_
    refine R_op rfl rfl rfl (op_call Tryz.call80 (c_scat hsh hl) ⟨(Has.t rfl), trivial⟩) ?_
    refine R_op rfl rfl rfl (op_move (Has.t rfl)) ?_
    refine R_lend Tryz.call82 (c_carO (p := s) (c := diagM z) (n := z.length) (m := z.length) (L := L) hsh hD hs hDf hL1 (by omega) hl1 hl1 hl hl) (j := 2) (tt := 34) rfl rfl (frz_matF (s := 5) (M := diagM z) hD.1.symm) noiMat (fun _ => inferInstance) (fun _ B hB => by simp only [List.mem_singleton] at hB; subst hB; exact sinsMatF) ⟨(Has.t rfl), (Has.t rfl), trivial⟩ rfl (fun B35 _ => ?_)
    refine R_op rfl rfl rfl (op_assign (Has.t rfl)) ?_
    refine R_nil ?_
    refine T_seq ?_
    refine T_seq ?_
    refine T_freeze (i := 3) (tt := 6) rfl rfl (frz_matF (s := 5) (M := carM s (diagM z)) (hX.1.trans hsl).symm) ?_
    refine T_region ?_
    refine R_op rfl rfl rfl (op_move (Has.t rfl)) ?_
    refine R_op rfl rfl rfl (op_len Tryz.runUnderlying31 (Has.t rfl) len_map) ?_
    refine R_op rfl rfl rfl (op_move (Has.cN 0)) ?_
    refine R_nil ?_
    refine T_block ?_
    refine T_keep [0, 2] rfl (by decide) ?_
    refine T_loop (fun (i : Nat) => i ≤ z.length) (fun (i : Nat) => z.length - i) (fun (i : Nat) => [(3, Is (.slice (some ⟨B14, 0, none⟩) z.length z.length)), (36, NumM (carM s (diagM z))), (37, NT .i64 z.length), (38, NT .i64 i)]) (fun (i : Nat) => [Z, matP exactH B14 30 49 5 (FRow NumT (mixG (fun i => tab z.length fun j => gm (diagM z) i j - gm (carM s (diagM z)) i j) (fun i => tab z.length fun j => gm (diagM z) i j) z.length i))]) 0 (Nat.zero_le _)
      (Sub.cons rfl (Sub.cons rfl (Sub.to rfl (nt_of (hX.1.trans hsl)) (Sub.cons rfl Sub.nil)))) (HSub.cons (fun _ _ _ h => h) (HSub.cons (matO_of (by rw [← mixG_zero]; exact congrArg _ (mat_tab hD))) HSub.nil)) (fun i hi => ?_)
    refine T_seq ?_
    refine T_region ?_
    refine R_op rfl rfl rfl (op_lssN (Has.t rfl) (Has.t rfl)) ?_
    refine R_nil ?_
    refine T_seq ?_
    refine T_cond (Has.t rfl) (fun he => ?_) (fun he => ?_)
    · simp only [decide_eq_true_eq] at he
      have hxr := hX.row (i := i) (by omega)
      refine T_focusE 1 (i) rfl (frow_mixG he) (fun v hv => ?_)
      refine T_skip ?_
      refine T_seq ?_
      refine T_block ?_
      refine T_seq ?_
      refine T_region ?_
      refine R_op rfl rfl rfl (op_move (Has.t rfl)) ?_
      refine R_op rfl rfl rfl (op_idx Tryz.runUnderlying31 Tryz.sizeOf30 (Has.t rfl) (Has.t rfl) rfl (map_get (getD_some (d := []) (by rw [hX.1]; omega)))) ?_
      refine R_op rfl rfl rfl (op_ld Tryz.isAgg30 Tryz.sizeOf30 (Has.t rfl)) ?_
      refine R_op rfl rfl rfl (op_assign (Has.t rfl)) ?_
      refine R_op rfl rfl rfl (op_assign (Has.t rfl)) ?_
      refine R_nil ?_
      refine T_seq ?_
      refine T_region ?_
      refine R_op rfl rfl rfl (op_move (Has.t rfl)) ?_
      refine R_op rfl rfl rfl (op_len Tryz.runUnderlying30 (Has.t rfl) len_map) ?_
      refine R_op rfl rfl rfl (op_move (Has.cN 0)) ?_
      refine R_nil ?_
      refine T_block ?_
      refine T_loop (fun (j : Nat) => j ≤ z.length) (fun (j : Nat) => z.length - j) (fun (j : Nat) => [(3, Is (.slice (some ⟨B14, 0, none⟩) z.length z.length)), (7, NT .i64 i), (8, NumsT ((carM s (diagM z)).getD i [])), (36, NumM (carM s (diagM z))), (37, NT .i64 z.length), (38, NT .i64 i), (44, NT .i64 z.length), (45, NT .i64 j)]) (fun (j : Nat) => [Z, matQ exactH B14 30 49 5 (FRow NumT (mixG (fun i => tab z.length fun j => gm (diagM z) i j - gm (carM s (diagM z)) i j) (fun i => tab z.length fun j => gm (diagM z) i j) z.length i)) i v, rowO 49 5 v ((mixG (fun j => gm (diagM z) i j - gm (carM s (diagM z)) i j) (fun j => gm (diagM z) i j) z.length j).map NumT)]) 0 (Nat.zero_le _)
        (Sub.cons rfl (Sub.cons rfl (Sub.cons rfl (Sub.cons rfl (Sub.cons rfl (Sub.cons rfl (Sub.to rfl (nt_of (hxr.trans hsl)) (Sub.cons rfl Sub.nil)))))))) (HSub.cons (fun _ _ _ h => h) (HSub.cons (fun _ _ _ h => h) (HSub.cons (rowO_of (by rw [← mixG_zero])) HSub.nil))) (fun j hj => ?_)
      refine T_seq ?_
      refine T_region ?_
      refine R_op rfl rfl rfl (op_lssN (Has.t rfl) (Has.t rfl)) ?_
      refine R_nil ?_
      refine T_seq ?_
      refine T_cond (Has.t rfl) (fun hf => ?_) (fun hf => ?_)
      · simp only [decide_eq_true_eq] at hf
        have hrl := mixG_len (fun j => gm (diagM z) i j - gm (carM s (diagM z)) i j) (fun j => gm (diagM z) i j) z.length j
        haveI f1 : FitC (gm (diagM z) i j) L := hDf.get hL1 i j
        haveI f2 : FitC (gm (carM s (diagM z)) i j) (200 * L + 300) := hXf.get (by omega) i j
        refine T_skip ?_
        refine T_seq ?_
        refine T_block ?_
        refine T_seq ?_
        refine T_region ?_
        refine R_op rfl rfl rfl (op_move (Has.t rfl)) ?_
        refine R_op rfl rfl rfl (op_assign (Has.t rfl)) ?_
        refine R_nil ?_
        refine D_start (m := 18) ?_
        refine D_step (Ei := [(3, _)]) rfl rfl (Srcs.cons (Src.pre rfl rfl) Srcs.nil) (S_plain rfl (op_move (Has.t rfl))) ?_
        refine D_step (Ei := [(7, _)]) rfl rfl (Srcs.cons (Src.pre rfl rfl) Srcs.nil) (S_plain rfl (op_move (Has.t rfl))) ?_
        refine D_step (Ei := [(48, _), (49, _)]) rfl rfl (Srcs.cons (Src.op 0 rfl rfl) (Srcs.cons (Src.op 1 rfl rfl) Srcs.nil)) (S_plain rfl (op_idxB Tryz.runUnderlying31 Tryz.sizeOf30 (Has.t rfl) (Has.t rfl) rfl (by omega) (by rw [Nat.mul_one, Nat.zero_add]))) ?_
        refine D_step (Ei := [(50, _)]) rfl rfl (Srcs.cons (Src.op 2 rfl rfl) Srcs.nil) (S_plain rfl (op_ldH Tryz.isAgg30 Tryz.sizeOf30 (Has.t rfl) (j := 1) rfl)) ?_
        refine D_step (Ei := [(9, _)]) rfl rfl (Srcs.cons (Src.pre rfl rfl) Srcs.nil) (S_plain rfl (op_move (Has.t rfl))) ?_
        refine D_step (Ei := [(3, _)]) rfl rfl (Srcs.cons (Src.pre rfl rfl) Srcs.nil) (S_plain rfl (op_move (Has.t rfl))) ?_
        refine D_step (Ei := [(7, _)]) rfl rfl (Srcs.cons (Src.pre rfl rfl) Srcs.nil) (S_plain rfl (op_move (Has.t rfl))) ?_
        refine D_step (Ei := [(53, _), (54, _)]) rfl rfl (Srcs.cons (Src.op 5 rfl rfl) (Srcs.cons (Src.op 6 rfl rfl) Srcs.nil)) (S_plain rfl (op_idxB Tryz.runUnderlying31 Tryz.sizeOf30 (Has.t rfl) (Has.t rfl) rfl (by omega) (by rw [Nat.mul_one, Nat.zero_add]))) ?_
        refine D_step (Ei := [(55, _)]) rfl rfl (Srcs.cons (Src.op 7 rfl rfl) Srcs.nil) (S_plain rfl (op_ldH Tryz.isAgg30 Tryz.sizeOf30 (Has.t rfl) (j := 1) rfl)) ?_
        refine D_step (Ei := [(9, _)]) rfl rfl (Srcs.cons (Src.pre rfl rfl) Srcs.nil) (S_plain rfl (op_move (Has.t rfl))) ?_
        refine D_step (Ei := [(56, _), (57, _)]) rfl rfl (Srcs.cons (Src.op 8 rfl rfl) (Srcs.cons (Src.op 9 rfl rfl) Srcs.nil)) (S_plain rfl (op_idxO Tryz.runUnderlying30 Tryz.sizeOf49 (Has.t rfl) (Has.t rfl) rfl (i := 2) rfl (by simp only [List.length_map, hrl]; omega) rfl)) ?_
        refine D_step (Ei := [(58, _)]) rfl rfl (Srcs.cons (Src.op 10 rfl rfl) Srcs.nil) (S_plain rfl (op_ldO Tryz.isAgg49 Tryz.sizeOf49 (Has.t rfl) (i := 2) rfl rfl (map_get (mixG_get hf)))) ?_
        refine D_step (Ei := [(59, _)]) rfl rfl (Srcs.cons (Src.op 11 rfl rfl) Srcs.nil) (S_plain rfl (op_iface mkif_49 (Has.t rfl))) ?_
        refine D_step (Ei := [(8, _)]) rfl rfl (Srcs.cons (Src.pre rfl rfl) Srcs.nil) (S_plain rfl (op_move (Has.t rfl))) ?_
        refine D_step (Ei := [(9, _)]) rfl rfl (Srcs.cons (Src.pre rfl rfl) Srcs.nil) (S_plain rfl (op_move (Has.t rfl))) ?_
        refine D_step (Ei := [(61, _), (62, _)]) rfl rfl (Srcs.cons (Src.op 13 rfl rfl) (Srcs.cons (Src.op 14 rfl rfl) Srcs.nil)) (S_plain rfl (op_idx Tryz.runUnderlying30 Tryz.sizeOf49 (Has.t rfl) (Has.t rfl) rfl (map_get (getD_some (d := Qi.zero) (by rw [hxr]; omega))))) ?_
        refine D_step (Ei := [(63, _)]) rfl rfl (Srcs.cons (Src.op 15 rfl rfl) Srcs.nil) (S_plain rfl (op_ld Tryz.isAgg49 Tryz.sizeOf49 (Has.t rfl))) ?_
        refine D_step (Ei := [(60, _), (64, _)]) rfl rfl (Srcs.cons (Src.op 12 rfl rfl) (Srcs.cons (Src.op 16 rfl rfl) Srcs.nil)) (S_plain rfl (op_invoke meth_49_Sub Tryz.call58 (c_Sub (by omega)) (Has.t rfl) ⟨(Has.t rfl), trivial⟩)) ?_
        refine D_done mixed rfl (by kernel_rfl) (F_val (F_val (F_val (F_val (F_val (F_val (F_val (F_val (F_val (F_val (F_val (F_val (F_val (F_val (F_val (F_val (F_val (F_val (F_nil ?_)))))))))))))))))))
        refine R_op rfl rfl rfl (op_idxO Tryz.runUnderlying30 Tryz.sizeOf49 (Has.t rfl) (Has.t rfl) rfl (i := 2) rfl (by simp only [List.length_map, hrl]; omega) rfl) ?_
        refine R_stO Tryz.sizeOf49 (Has.t rfl) (Has.t rfl) (El.ag rfl) (i := 2) rfl rfl (by simp only [List.length_map, hrl]; omega) rfl ?_
        refine R_nil ?_
        refine T_blk ?_
        refine T_region ?_
        refine R_op rfl rfl rfl (op_addN (Has.t rfl) (Has.cN 1) (by show _ < 9223372036854775808; first | omega | (simp only [lim]; omega))) ?_
        refine R_op rfl rfl rfl (op_move (Has.t rfl)) ?_
        refine R_nil ?_
        refine T_again (j + 1) hf (by omega) (Sub.cons rfl (Sub.cons rfl (Sub.cons rfl (Sub.cons rfl (Sub.cons rfl (Sub.cons rfl (Sub.cons rfl (Sub.cons rfl Sub.nil)))))))) (HSub.cons (fun _ _ _ h => h) (HSub.cons (fun _ _ _ h => h) (HSub.cons (rowO_of (by rw [set_mapF, ← mixG_set (f := fun j => gm (diagM z) i j - gm (carM s (diagM z)) i j)])) HSub.nil)))
      · simp only [decide_eq_false_iff_not] at hf
        obtain rfl : j = z.length := Nat.le_antisymm hj (by omega)
        refine T_exit rfl ?_
        refine T_blk ?_
        refine T_unfocus 1 2 rfl rfl (by decide) (by simp only [FRow, List.length_map, mixG_len]; omega) ?_
        refine T_region ?_
        refine R_op rfl rfl rfl (op_addN (Has.t rfl) (Has.cN 1) (by show _ < 9223372036854775808; first | omega | (simp only [lim]; omega))) ?_
        refine R_op rfl rfl rfl (op_move (Has.t rfl)) ?_
        refine R_nil ?_
        refine T_keep [0, 1] rfl (by decide) ?_
        refine T_again (i + 1) he (by omega) (Sub.cons rfl (Sub.cons rfl (Sub.cons rfl (Sub.cons rfl Sub.nil)))) (HSub.cons (fun _ _ _ h => h) (HSub.cons (matO_of (by rw [set_FRow, mixG_fin, ← mixG_set (f := (fun i => tab z.length fun j => gm (diagM z) i j - gm (carM s (diagM z)) i j))])) HSub.nil))
    · simp only [decide_eq_false_iff_not] at he
      obtain rfl : i = z.length := Nat.le_antisymm hi (by omega)
      refine T_exit rfl ?_
      refine T_seq ?_
      refine T_region ?_
      refine R_op rfl rfl rfl (op_move (Has.t rfl)) ?_
      refine R_op rfl rfl rfl (op_assign (Has.t rfl)) ?_
      refine R_nil ?_
      exact T_retO B14 trivial [0, 1] ⟨⟨_, rfl, fun _ _ _ h => h⟩, ⟨_, rfl, (matO_of (by rw [mixG_fin]; rfl))⟩, trivial⟩ (by decide) (rvs1 rfl (rv_tmp rfl))
set_option maxRecDepth 20000 in
theorem c_Own {z : List Qi} {s : List (List Qi)} {t : Qi} {L : Nat} (hz : FitL z L) (hs : FitM s L) (ht : FitC t L) (hL1 : 1 ≤ L) (hL : L ≤ 4000) (hsh : Shp s z.length z.length) (hl1 : 1 ≤ z.length) (hl : z.length ≤ 8) : Fun Tryz.prog 22 [NetT z s, NumT t] (TupT [NoisyT (okL (wrmE t) z) (okL (wrmE t) s) (okL (wrmE t) (scaM t (ownM z s) z.length)), IntT .i64 (wrmE t)]) := by
  haveI := ht
  have hOs := ownM_shp z s
  have hOf := ownM_fit hz hs hL1 hl
  refine Fun.intro Tryz.func22 rfl Tryz.ntmps22 rfl (fun cx => ?_)
  refine T_seq ?_
  refine T_region ?_
  refine R_new rfl rfl rfl (new_box (Has.t rfl)) (fun B2 => ?_)
  refine R_new rfl rfl rfl (new_box (Has.t rfl)) (fun B3 => ?_)
  refine R_new rfl rfl rfl (new_alloc (Ts := [Is (.slice none 0 0), Is (.slice none 0 0), Is (.slice none 0 0)]) Tryz.zeroValue35 rfl (fun V => Cells.cons' ⟨rfl, trivial⟩ (Cells.cons' ⟨rfl, trivial⟩ (Cells.cons' ⟨rfl, trivial⟩ (Cells.nil))))) (fun B4 => ?_)
  refine R_op rfl rfl rfl (op_assign (Has.cN 0)) ?_
  refine R_nil ?_
  refine T_seq ?_
  refine T_seq ?_
  refine T_region ?_
  refine R_op rfl rfl rfl (op_ldBA Tryz.isAgg49 Tryz.sizeOf49 (Has.t rfl) (i := 1) rfl rfl rfl) ?_
  refine R_op rfl rfl rfl (op_call Tryz.call95 (c_warm (by omega)) ⟨(Has.t rfl), trivial⟩) ?_
  refine R_op rfl rfl rfl (op_not (Has.t rfl)) ?_
  refine R_nil ?_
  refine T_cond (Has.t rfl) (fun hb => ?_) (fun hb => ?_)
  · have he : wrmE t ≠ 0 := by simp only [Bool.not_eq_true'] at hb; rw [wrmE, hb]; decide
    have he1 : wrmE t = 1 := by simp only [Bool.not_eq_true'] at hb; rw [wrmE, hb]; rfl
    refine T_seq ?_
    refine T_region ?_
    refine R_op rfl rfl rfl (OpTy.imp (bld_35_ ) noisy_nil) ?_
    refine R_stA Tryz.sizeOf35 (Has.t rfl) (Has.t rfl) rfl (i := 2) rfl (Nat.le_of_ble_eq_true rfl) rfl rfl ?_
    refine R_op rfl rfl rfl (op_assign (Has.cN 1)) ?_
    refine R_nil ?_
    refine T_ret2 rfl (rv_to (rv_cell Tryz.isAgg35 Tryz.sizeOf35 rfl (i := 2) rfl rfl) ?_) (rv_to (rv_tmp rfl) ?_)
    · exact (own_bad he)
    · exact (int_of he1.symm)
  · have he : wrmE t = 0 := by simp only [Bool.not_eq_false'] at hb; rw [wrmE, hb]; rfl
    refine T_skip ?_
    refine T_seq ?_
    refine T_region ?_
    refine R_op rfl rfl rfl (op_ldBA Tryz.isAgg33 Tryz.sizeOf33 (Has.t rfl) (i := 0) rfl rfl rfl) ?_
    refine R_call0 Tryz.call96 (c_thermO hz hs hL1 hL hsh hl1 hl) ⟨(Has.t rfl), trivial⟩ rfl (fun B15 _ => ?_)
    refine R_op rfl rfl rfl (op_assign (Has.t rfl)) ?_
    refine R_nil ?_
    refine T_seq ?_
    refine T_seq ?_
    refine T_region ?_
    refine R_op rfl rfl rfl (op_move (Has.t rfl)) ?_
    refine R_op rfl rfl rfl (op_lenI Tryz.runUnderlying31 (Has.t rfl)) ?_
    refine R_op rfl rfl rfl (op_move (Has.cN 0)) ?_
    refine R_nil ?_
    refine T_block ?_
    refine T_loop (fun (i : Nat) => i ≤ z.length) (fun (i : Nat) => z.length - i) (fun (i : Nat) => [(2, PtrB B2 0), (3, PtrB B3 0), (4, PtrB B4 0), (6, Is (.slice (some ⟨B15, 0, none⟩) z.length z.length)), (16, Is (.slice (some ⟨B15, 0, none⟩) z.length z.length)), (17, NT .i64 z.length), (18, NT .i64 i)]) (fun (i : Nat) => [box B2 33 [NumsT z, NumM s], box B3 49 [BoolT (decide (t.a < 0)), NatT t.a.natAbs, BoolT (decide (t.b < 0)), NatT t.b.natAbs, NatT (du t)], box B4 35 [Is (.slice none 0 0), Is (.slice none 0 0), Is (.slice none 0 0)], matP exactH B15 30 49 5 (FRow NumT (mixG (fun i => tab z.length fun j => t * gm (ownM z s) i j) (fun i => tab z.length fun j => gm (ownM z s) i j) z.length i))]) 0 (Nat.zero_le _)
      (Sub.cons rfl (Sub.cons rfl (Sub.cons rfl (Sub.cons rfl (Sub.cons rfl (Sub.cons rfl (Sub.cons rfl Sub.nil))))))) (HSub.cons (fun _ _ _ h => h) (HSub.cons (fun _ _ _ h => h) (HSub.cons (fun _ _ _ h => h) (HSub.cons (matO_of (by rw [← mixG_zero]; exact congrArg _ (mat_tab hOs))) HSub.nil)))) (fun i hi => ?_)
    refine T_seq ?_
    refine T_region ?_
    refine R_op rfl rfl rfl (op_lssN (Has.t rfl) (Has.t rfl)) ?_
    refine R_nil ?_
    refine T_seq ?_
    refine T_cond (Has.t rfl) (fun he2 => ?_) (fun he2 => ?_)
    · simp only [decide_eq_true_eq] at he2
      refine T_focusE 3 (i) rfl (frow_mixG he2) (fun v hv => ?_)
      refine T_skip ?_
      refine T_seq ?_
      refine T_block ?_
      refine T_seq ?_
      refine T_region ?_
      refine R_op rfl rfl rfl (op_idxB Tryz.runUnderlying31 Tryz.sizeOf30 (Has.t rfl) (Has.t rfl) rfl (by omega) (by rw [Nat.mul_one, Nat.zero_add])) ?_
      refine R_op rfl rfl rfl (op_ldH Tryz.isAgg30 Tryz.sizeOf30 (Has.t rfl) (j := 3) rfl) ?_
      refine R_op rfl rfl rfl (op_assign (Has.t rfl)) ?_
      refine R_nil ?_
      refine T_seq ?_
      refine T_region ?_
      refine R_op rfl rfl rfl (op_move (Has.t rfl)) ?_
      refine R_op rfl rfl rfl (op_lenO Tryz.runUnderlying30 (Has.t rfl) (i := 4) rfl (show (((tab z.length fun j => gm (ownM z s) i j).map NumT).length : Int) = ((z.length : Nat) : Int) by rw [List.length_map, tab_len])) ?_
      refine R_op rfl rfl rfl (op_move (Has.cN 0)) ?_
      refine R_nil ?_
      refine T_block ?_
      refine T_loop (fun (j : Nat) => j ≤ z.length) (fun (j : Nat) => z.length - j) (fun (j : Nat) => [(2, PtrB B2 0), (3, PtrB B3 0), (4, PtrB B4 0), (6, Is (.slice (some ⟨B15, 0, none⟩) z.length z.length)), (8, Is v), (16, Is (.slice (some ⟨B15, 0, none⟩) z.length z.length)), (17, NT .i64 z.length), (18, NT .i64 i), (23, NT .i64 z.length), (24, NT .i64 j)]) (fun (j : Nat) => [box B2 33 [NumsT z, NumM s], box B3 49 [BoolT (decide (t.a < 0)), NatT t.a.natAbs, BoolT (decide (t.b < 0)), NatT t.b.natAbs, NatT (du t)], box B4 35 [Is (.slice none 0 0), Is (.slice none 0 0), Is (.slice none 0 0)], matQ exactH B15 30 49 5 (FRow NumT (mixG (fun i => tab z.length fun j => t * gm (ownM z s) i j) (fun i => tab z.length fun j => gm (ownM z s) i j) z.length i)) i v, rowO 49 5 v ((mixG (fun j => t * gm (ownM z s) i j) (fun j => gm (ownM z s) i j) z.length j).map NumT)]) 0 (Nat.zero_le _)
        (Sub.cons rfl (Sub.cons rfl (Sub.cons rfl (Sub.cons rfl (Sub.cons rfl (Sub.cons rfl (Sub.cons rfl (Sub.cons rfl (Sub.cons rfl (Sub.cons rfl Sub.nil)))))))))) (HSub.cons (fun _ _ _ h => h) (HSub.cons (fun _ _ _ h => h) (HSub.cons (fun _ _ _ h => h) (HSub.cons (fun _ _ _ h => h) (HSub.cons (rowO_of (by rw [← mixG_zero])) HSub.nil))))) (fun j hj => ?_)
      refine T_seq ?_
      refine T_region ?_
      refine R_op rfl rfl rfl (op_lssN (Has.t rfl) (Has.t rfl)) ?_
      refine R_nil ?_
      refine T_seq ?_
      refine T_cond (Has.t rfl) (fun hf => ?_) (fun hf => ?_)
      · simp only [decide_eq_true_eq] at hf
        have hrl := mixG_len (fun j => t * gm (ownM z s) i j) (fun j => gm (ownM z s) i j) z.length j
        haveI f1 : FitC (gm (ownM z s) i j) (201 * L + 301) := hOf.get (by omega) i j
        refine T_skip ?_
        refine T_seq ?_
        refine T_block ?_
        refine T_seq ?_
        refine T_region ?_
        refine R_op rfl rfl rfl (op_move (Has.t rfl)) ?_
        refine R_op rfl rfl rfl (op_assign (Has.t rfl)) ?_
        refine R_nil ?_
        refine D_start (m := 10) ?_
        refine D_step (Ei := [(8, _)]) rfl rfl (Srcs.cons (Src.pre rfl rfl) Srcs.nil) (S_plain rfl (op_move (Has.t rfl))) ?_
        refine D_step (Ei := [(9, _)]) rfl rfl (Srcs.cons (Src.pre rfl rfl) Srcs.nil) (S_plain rfl (op_move (Has.t rfl))) ?_
        refine D_step (Ei := [(3, _)]) rfl rfl (Srcs.cons (Src.pre rfl rfl) Srcs.nil) (S_plain rfl (op_ldBA Tryz.isAgg49 Tryz.sizeOf49 (Has.t rfl) (i := 1) rfl rfl rfl)) ?_
        refine D_step (Ei := [(29, _)]) rfl rfl (Srcs.cons (Src.op 2 rfl rfl) Srcs.nil) (S_plain rfl (op_call Tryz.call81 c_of ⟨(Has.t rfl), trivial⟩)) ?_
        refine D_step (Ei := [(30, _)]) rfl rfl (Srcs.cons (Src.op 3 rfl rfl) Srcs.nil) (S_plain rfl (op_iface mkif_49 (Has.t rfl))) ?_
        refine D_step (Ei := [(8, _)]) rfl rfl (Srcs.cons (Src.pre rfl rfl) Srcs.nil) (S_plain rfl (op_move (Has.t rfl))) ?_
        refine D_step (Ei := [(9, _)]) rfl rfl (Srcs.cons (Src.pre rfl rfl) Srcs.nil) (S_plain rfl (op_move (Has.t rfl))) ?_
        refine D_step (Ei := [(32, _), (33, _)]) rfl rfl (Srcs.cons (Src.op 5 rfl rfl) (Srcs.cons (Src.op 6 rfl rfl) Srcs.nil)) (S_plain rfl (op_idxO Tryz.runUnderlying30 Tryz.sizeOf49 (Has.t rfl) (Has.t rfl) rfl (i := 4) rfl (by simp only [List.length_map, hrl]; omega) rfl)) ?_
        refine D_step (Ei := [(34, _)]) rfl rfl (Srcs.cons (Src.op 7 rfl rfl) Srcs.nil) (S_plain rfl (op_ldO Tryz.isAgg49 Tryz.sizeOf49 (Has.t rfl) (i := 4) rfl rfl (map_get (mixG_get hf)))) ?_
        refine D_step (Ei := [(31, _), (35, _)]) rfl rfl (Srcs.cons (Src.op 4 rfl rfl) (Srcs.cons (Src.op 8 rfl rfl) Srcs.nil)) (S_plain rfl (op_invoke meth_49_Mul Tryz.call56 (c_Mul (by omega)) (Has.t rfl) ⟨(Has.t rfl), trivial⟩)) ?_
        refine D_done mixed rfl (by kernel_rfl) (F_val (F_val (F_val (F_val (F_val (F_val (F_val (F_val (F_val (F_val (F_nil ?_)))))))))))
        refine R_op rfl rfl rfl (op_idxO Tryz.runUnderlying30 Tryz.sizeOf49 (Has.t rfl) (Has.t rfl) rfl (i := 4) rfl (by simp only [List.length_map, hrl]; omega) rfl) ?_
        refine R_stO Tryz.sizeOf49 (Has.t rfl) (Has.t rfl) (El.ag rfl) (i := 4) rfl rfl (by simp only [List.length_map, hrl]; omega) rfl ?_
        refine R_nil ?_
        refine T_blk ?_
        refine T_region ?_
        refine R_op rfl rfl rfl (op_addN (Has.t rfl) (Has.cN 1) (by show _ < 9223372036854775808; first | omega | (simp only [lim]; omega))) ?_
        refine R_op rfl rfl rfl (op_move (Has.t rfl)) ?_
        refine R_nil ?_
        refine T_again (j + 1) hf (by omega) (Sub.cons rfl (Sub.cons rfl (Sub.cons rfl (Sub.cons rfl (Sub.cons rfl (Sub.cons rfl (Sub.cons rfl (Sub.cons rfl (Sub.cons rfl (Sub.cons rfl Sub.nil)))))))))) (HSub.cons (fun _ _ _ h => h) (HSub.cons (fun _ _ _ h => h) (HSub.cons (fun _ _ _ h => h) (HSub.cons (fun _ _ _ h => h) (HSub.cons (rowO_of (by rw [set_mapF, ← mixG_set (f := fun j => t * gm (ownM z s) i j)])) HSub.nil)))))
      · simp only [decide_eq_false_iff_not] at hf
        obtain rfl : j = z.length := Nat.le_antisymm hj (by omega)
        refine T_exit rfl ?_
        refine T_blk ?_
        refine T_unfocus 3 4 rfl rfl (by decide) (by simp only [FRow, List.length_map, mixG_len]; omega) ?_
        refine T_region ?_
        refine R_op rfl rfl rfl (op_addN (Has.t rfl) (Has.cN 1) (by show _ < 9223372036854775808; first | omega | (simp only [lim]; omega))) ?_
        refine R_op rfl rfl rfl (op_move (Has.t rfl)) ?_
        refine R_nil ?_
        refine T_keep [0, 1, 2, 3] rfl (by decide) ?_
        refine T_again (i + 1) he2 (by omega) (Sub.cons rfl (Sub.cons rfl (Sub.cons rfl (Sub.cons rfl (Sub.cons rfl (Sub.cons rfl (Sub.cons rfl Sub.nil))))))) (HSub.cons (fun _ _ _ h => h) (HSub.cons (fun _ _ _ h => h) (HSub.cons (fun _ _ _ h => h) (HSub.cons (matO_of (by rw [set_FRow, mixG_fin, ← mixG_set (f := (fun i => tab z.length fun j => t * gm (ownM z s) i j))])) HSub.nil))))
    · simp only [decide_eq_false_iff_not] at he2
      obtain rfl : i = z.length := Nat.le_antisymm hi (by omega)
      rw [mixG_fin]
      refine T_exit rfl ?_
      refine T_seq ?_
      refine T_freeze (i := 3) (tt := 6) rfl rfl (frz_matF (s := 5) (M := (scaM t (ownM z s) z.length)) scaM_shp.1.symm) ?_
      refine T_region ?_
      refine R_op rfl rfl rfl (op_ldBA Tryz.isAgg33 Tryz.sizeOf33 (Has.t rfl) (i := 0) rfl rfl rfl) ?_
      refine R_op rfl rfl rfl (op_move (Has.t rfl)) ?_
      refine R_op rfl rfl rfl (bld_35_0_1 (Has.t rfl) (Has.t rfl)) ?_
      refine R_stA Tryz.sizeOf35 (Has.t rfl) (Has.t rfl) rfl (i := 2) rfl (Nat.le_of_ble_eq_true rfl) rfl rfl ?_
      refine R_op rfl rfl rfl (op_assign (Has.cN 0)) ?_
      refine R_nil ?_
      refine T_ret2 rfl (rv_to (rv_cell Tryz.isAgg35 Tryz.sizeOf35 rfl (i := 2) rfl rfl) ?_) (rv_to (rv_tmp rfl) ?_)
      · exact (own_good he)
      · exact (int_of he.symm)
end Go.Proofs.YtppibhcfaahgpaaGreat
namespace Go.Proofs.YtppibhcfaahgpaaGreat
open Go Go.RowKit
theorem bld_27_ {n : Nat} {E : Env} {H : Hp} {d : Option Tmp} {t : TypeId} {pos : String} {af : Array Edge} {g : Option (Nat × Bool)}  :
    OpTy Tryz.prog n E H ⟨d, .build 27 #[], t, pos, af, g⟩ (AggT [Is (.int .i64 0), Is (.int .i64 0), Is (.int .i64 0)]) :=
  op_build (parts := []) fun a V w hs => by
    refine ⟨.agg #[(.int .i64 0), (.int .i64 0), (.int .i64 0)], ?_, [(.int .i64 0), (.int .i64 0), (.int .i64 0)], rfl, Cells.cons' (⟨rfl, trivial⟩) (Cells.cons' (⟨rfl, trivial⟩) (Cells.cons' (⟨rfl, trivial⟩) (Cells.nil)))⟩
    simp [Instr.build, Instr.fill, Sem.run_bind, Result.andThen, cells_agg, Tryz.zeroValue27, Tryz.runUnderlying27, Tryz.sizeOf2]
theorem bld_27_0 {n : Nat} {E : Env} {H : Hp} {d : Option Tmp} {t : TypeId} {pos : String} {af : Array Edge} {g : Option (Nat × Bool)} {x0 : Operand} {T0 : Ty} [s0 : Shape T0 1 false] (h0 : Has E x0 T0) :
    OpTy Tryz.prog n E H ⟨d, .build 27 #[(0, x0)], t, pos, af, g⟩ (AggT [T0, Is (.int .i64 0), Is (.int .i64 0)]) :=
  op_build (parts := [(0, x0)]) fun a V w hs => by
    have p0 := h0 n V a hs
    generalize e0 : a.eval x0 = v0 at p0
    have q0 := (s0.ok v0 V p0).2.2 rfl
    refine ⟨.agg #[v0, (.int .i64 0), (.int .i64 0)], ?_, [v0, (.int .i64 0), (.int .i64 0)], rfl, Cells.cons' (⟨p0, q0⟩) (Cells.cons' (⟨rfl, trivial⟩) (Cells.cons' (⟨rfl, trivial⟩) (Cells.nil)))⟩
    simp [e0, Instr.build, Instr.fill, Sem.run_bind, Result.andThen, cells_agg, q0.cells, Tryz.zeroValue27, Tryz.runUnderlying27, Tryz.sizeOf2]
theorem bld_27_0_2 {n : Nat} {E : Env} {H : Hp} {d : Option Tmp} {t : TypeId} {pos : String} {af : Array Edge} {g : Option (Nat × Bool)} {x0 x2 : Operand} {T0 T2 : Ty} [s0 : Shape T0 1 false] (h0 : Has E x0 T0) [s2 : Shape T2 1 false] (h2 : Has E x2 T2) :
    OpTy Tryz.prog n E H ⟨d, .build 27 #[(0, x0), (2, x2)], t, pos, af, g⟩ (AggT [T0, Is (.int .i64 0), T2]) :=
  op_build (parts := [(0, x0), (2, x2)]) fun a V w hs => by
    have p0 := h0 n V a hs
    generalize e0 : a.eval x0 = v0 at p0
    have q0 := (s0.ok v0 V p0).2.2 rfl
    have p2 := h2 n V a hs
    generalize e2 : a.eval x2 = v2 at p2
    have q2 := (s2.ok v2 V p2).2.2 rfl
    refine ⟨.agg #[v0, (.int .i64 0), v2], ?_, [v0, (.int .i64 0), v2], rfl, Cells.cons' (⟨p0, q0⟩) (Cells.cons' (⟨rfl, trivial⟩) (Cells.cons' (⟨p2, q2⟩) (Cells.nil)))⟩
    simp [e0, e2, Instr.build, Instr.fill, Sem.run_bind, Result.andThen, cells_agg, q0.cells, q2.cells, Tryz.zeroValue27, Tryz.runUnderlying27, Tryz.sizeOf2]
end Go.Proofs.YtppibhcfaahgpaaGreat
namespace Go.Proofs.YtppibhcfaahgpaaGreat
open Go Go.RowKit
set_option maxHeartbeats 1000000 in
set_option maxRecDepth 20000 in
theorem c_awake  : Fun Tryz.prog 15 [] (BoolT true) := by
  refine Fun.intro Tryz.func15 rfl Tryz.ntmps15 rfl (fun cx => ?_)
  refine T_seq ?_
  refine T_region ?_
  refine R_op rfl rfl rfl (op_assign Has.c) ?_
  refine R_nil ?_
  refine T_seq ?_
  refine T_region ?_
  refine R_op rfl rfl rfl (bld_27_0_2 Has.c Has.c) ?_
  refine R_new rfl rfl rfl (new_alloc (Ts := [Is (.int .i64 0), Is (.int .i64 0), Is (.int .i64 0)]) Tryz.zeroValue27 rfl (fun V => Cells.cons' ⟨rfl, trivial⟩ (Cells.cons' ⟨rfl, trivial⟩ (Cells.cons' ⟨rfl, trivial⟩ (Cells.nil))))) (fun B1 => ?_)
  refine R_stA Tryz.sizeOf27 (Has.t rfl) (Has.t rfl) rfl (i := 0) rfl (Nat.le_of_ble_eq_true rfl) rfl rfl ?_
  refine R_nil ?_
  refine T_seq ?_
  refine Y.D_start (m := 18) [] ?_
  refine Y.D_hide (Ei := []) rfl rfl Y.Srcs.nil rfl rfl (S_plain rfl (bld_27_0 Has.c)) ?_
  refine Y.D_hide (Ei := []) rfl rfl Y.Srcs.nil rfl rfl (S_plain rfl (bld_27_0 Has.c)) ?_
  refine Y.D_hide (Ei := [(12, _), (13, _)]) rfl rfl (Y.Srcs.cons (Y.Src.op 0 rfl rfl) (Y.Srcs.cons (Y.Src.op 1 rfl rfl) Y.Srcs.nil)) rfl rfl (S_plain rfl (op_bslice (xs := [.tmp 12, .tmp 13]) Tryz.runUnderlying22 Tryz.sizeOf27 Tryz.zeroValue27 (Elems.cons (Has.t rfl) (Elems.cons (Has.t rfl) Elems.nil)) rfl rfl rfl)) ?_
  refine Y.D_hide (Ei := [(14, _)]) rfl rfl (Y.Srcs.cons (Y.Src.op 2 rfl rfl) Y.Srcs.nil) rfl rfl (S_plain rfl (op_call Tryz.call30 (c_lawList (l := [r50, r50]) (by decide)) ⟨(Has.t rfl), trivial⟩)) ?_
  refine Y.D_hide (Ei := []) rfl rfl Y.Srcs.nil rfl rfl (S_plain rfl (bld_27_ )) ?_
  refine Y.D_hide (Ei := [(1, _)]) rfl rfl (Y.Srcs.cons (Y.Src.pre rfl rfl) Y.Srcs.nil) rfl rfl (S_plain rfl (op_ldBA Tryz.isAgg27 Tryz.sizeOf27 (Has.t rfl) (i := 0) rfl rfl rfl)) ?_
  refine Y.D_hide (Ei := [(16, _), (17, _)]) rfl rfl (Y.Srcs.cons (Y.Src.op 4 rfl rfl) (Y.Srcs.cons (Y.Src.op 5 rfl rfl) Y.Srcs.nil)) rfl rfl (S_plain rfl (op_bslice (xs := [.tmp 16, .tmp 17]) Tryz.runUnderlying22 Tryz.sizeOf27 Tryz.zeroValue27 (Elems.cons (Has.t rfl) (Elems.cons (Has.t rfl) Elems.nil)) rfl rfl rfl)) ?_
  refine Y.D_hide (Ei := [(1, _)]) rfl rfl (Y.Srcs.cons (Y.Src.pre rfl rfl) Y.Srcs.nil) rfl rfl (S_plain rfl (op_ldBA Tryz.isAgg27 Tryz.sizeOf27 (Has.t rfl) (i := 0) rfl rfl rfl)) ?_
  refine Y.D_hide (Ei := []) rfl rfl Y.Srcs.nil rfl rfl (S_plain rfl (bld_27_ )) ?_
  refine Y.D_hide (Ei := [(19, _), (20, _)]) rfl rfl (Y.Srcs.cons (Y.Src.op 7 rfl rfl) (Y.Srcs.cons (Y.Src.op 8 rfl rfl) Y.Srcs.nil)) rfl rfl (S_plain rfl (op_bslice (xs := [.tmp 19, .tmp 20]) Tryz.runUnderlying22 Tryz.sizeOf27 Tryz.zeroValue27 (Elems.cons (Has.t rfl) (Elems.cons (Has.t rfl) Elems.nil)) rfl rfl rfl)) ?_
  refine Y.D_hide (Ei := [(18, _), (21, _)]) rfl rfl (Y.Srcs.cons (Y.Src.op 6 rfl rfl) (Y.Srcs.cons (Y.Src.op 9 rfl rfl) Y.Srcs.nil)) rfl rfl (S_plain rfl (op_bslice (xs := [.tmp 18, .tmp 21]) Tryz.runUnderlying23 Tryz.sizeOf22 Tryz.zeroValue22 (Elems.cons (Has.t rfl) (Elems.cons (Has.t rfl) Elems.nil)) rfl rfl rfl)) ?_
  refine Y.D_hide (Ei := [(22, _)]) rfl rfl (Y.Srcs.cons (Y.Src.op 10 rfl rfl) Y.Srcs.nil) rfl rfl (S_plain rfl (op_call Tryz.call31 (c_lawRows (m := [[rNil, rHalf], [rHalf, rNil]]) (by decide) (by intro r hr; simp at hr; rcases hr with rfl | rfl <;> decide)) ⟨(Has.t rfl), trivial⟩)) ?_
  refine Y.D_hide (Ei := [(15, _), (23, _)]) rfl rfl (Y.Srcs.cons (Y.Src.op 3 rfl rfl) (Y.Srcs.cons (Y.Src.op 11 rfl rfl) Y.Srcs.nil)) rfl rfl (S_plain rfl (op_call Tryz.call29 (Fun.imp (c_netNew (z := awZ) (s := awS) (L := 2) aw_fz (by decide) (by decide) (by decide)) aw_net) ⟨(Has.t rfl), (Has.t rfl), trivial⟩)) ?_
  refine Y.D_hide (Ei := [(24, _)]) rfl rfl (Y.Srcs.cons (Y.Src.op 12 rfl rfl) Y.Srcs.nil) rfl rfl (S_plain rfl (op_move (Has.t rfl))) ?_
  refine Y.D_hide (Ei := [(11, _)]) rfl rfl (Y.Srcs.cons (Y.Src.op 13 rfl rfl) Y.Srcs.nil) rfl rfl (S_plain rfl (op_extract (Has.t rfl) rfl)) ?_
  refine Y.D_hide (Ei := [(11, _)]) rfl rfl (Y.Srcs.cons (Y.Src.op 13 rfl rfl) Y.Srcs.nil) rfl rfl (S_plain rfl (op_extract (Has.t rfl) rfl)) ?_
  refine Y.D_newp (Ei := []) (fun bb => box bb 33 [NumsT awZ, NumM awS]) 17 rfl rfl rfl Y.Srcs.nil rfl rfl (by kernel_rfl) (new_alloc (Ts := [Is (.slice none 0 0), Is (.slice none 0 0)]) Tryz.zeroValue33 rfl (fun V => Cells.cons' ⟨rfl, trivial⟩ (Cells.cons' ⟨rfl, trivial⟩ (Cells.nil)))) ?_
  refine Y.D_putN (Ei := [(25, _)]) 16 rfl rfl rfl rfl rfl rfl (Y.Srcs.cons (Y.Src.op 14 rfl rfl) Y.Srcs.nil) (fun bb => P_stA Tryz.sizeOf33 (Has.t rfl) (Has.t rfl) rfl (i := 0) rfl (Nat.le_of_ble_eq_true rfl) rfl rfl) ?_
  refine Y.D_done mixed rfl (by kernel_rfl) rfl (by simp [Y.okP]) rfl rfl (Y.F_val (Y.F_val (Y.F_val (Y.F_val (Y.F_val (Y.F_val (Y.F_val (Y.F_val (Y.F_val (Y.F_val (Y.F_val (Y.F_val (Y.F_val (Y.F_val (Y.F_val (Y.F_val (Y.F_newp (fun B2 => Y.F_putN (Y.F_nil ?_)))))))))))))))))))
  refine R_op rfl rfl rfl (op_assign (Has.t rfl)) ?_
  refine R_nil ?_
  refine T_seq ?_
  refine Y.D_start (m := 8) [] ?_
  refine Y.D_hide (Ei := [(2, _)]) rfl rfl (Y.Srcs.cons (Y.Src.pre rfl rfl) Y.Srcs.nil) rfl rfl (S_plain rfl (op_ldBA Tryz.isAgg33 Tryz.sizeOf33 (Has.t rfl) (i := 1) rfl rfl rfl)) ?_
  refine Y.D_hide (Ei := []) rfl rfl Y.Srcs.nil rfl rfl (S_plain rfl (op_call Tryz.call28 (c_Int (n := 290) (by decide) (by decide)) ⟨(Has.cN 290), trivial⟩)) ?_
  refine Y.D_hide (Ei := [(28, _), (29, _)]) rfl rfl (Y.Srcs.cons (Y.Src.op 0 rfl rfl) (Y.Srcs.cons (Y.Src.op 1 rfl rfl) Y.Srcs.nil)) rfl rfl (S_plain rfl (op_call Tryz.call22 (Fun.imp (c_Own (z := awZ) (s := awS) (t := Qi.ofInt 290) (L := 2) aw_fz aw_fs aw_ft (by decide) (by decide) aw_shp (by decide) (by decide)) aw_own) ⟨(Has.t rfl), (Has.t rfl), trivial⟩)) ?_
  refine Y.D_hide (Ei := [(30, _)]) rfl rfl (Y.Srcs.cons (Y.Src.op 2 rfl rfl) Y.Srcs.nil) rfl rfl (S_plain rfl (op_move (Has.t rfl))) ?_
  refine Y.D_hide (Ei := [(27, _)]) rfl rfl (Y.Srcs.cons (Y.Src.op 3 rfl rfl) Y.Srcs.nil) rfl rfl (S_plain rfl (op_extract (Has.t rfl) rfl)) ?_
  refine Y.D_hide (Ei := [(27, _)]) rfl rfl (Y.Srcs.cons (Y.Src.op 3 rfl rfl) Y.Srcs.nil) rfl rfl (S_plain rfl (op_extract (Has.t rfl) rfl)) ?_
  refine Y.D_newp (Ei := []) (fun bb => box bb 35 [NumsT awZ, NumM awS, NumM awC]) 7 rfl rfl rfl Y.Srcs.nil rfl rfl (by kernel_rfl) (new_alloc (Ts := [Is (.slice none 0 0), Is (.slice none 0 0), Is (.slice none 0 0)]) Tryz.zeroValue35 rfl (fun V => Cells.cons' ⟨rfl, trivial⟩ (Cells.cons' ⟨rfl, trivial⟩ (Cells.cons' ⟨rfl, trivial⟩ (Cells.nil))))) ?_
  refine Y.D_putN (Ei := [(31, _)]) 6 rfl rfl rfl rfl rfl rfl (Y.Srcs.cons (Y.Src.op 4 rfl rfl) Y.Srcs.nil) (fun bb => P_stA Tryz.sizeOf35 (Has.t rfl) (Has.t rfl) rfl (i := 0) rfl (Nat.le_of_ble_eq_true rfl) rfl rfl) ?_
  refine Y.D_done mixed rfl (by kernel_rfl) rfl (by simp [Y.okP]) rfl rfl (Y.F_val (Y.F_val (Y.F_val (Y.F_val (Y.F_val (Y.F_val (Y.F_newp (fun B4 => Y.F_putN (Y.F_nil ?_)))))))))
  refine R_op rfl rfl rfl (op_assign (Has.t rfl)) ?_
  refine R_nil ?_
  refine T_seq ?_
  refine T_region ?_
  refine R_op rfl rfl rfl (op_ldBA Tryz.isAgg35 Tryz.sizeOf35 (Has.t rfl) (i := 2) rfl rfl rfl) ?_
  refine R_op rfl rfl rfl (op_call Tryz.call37 (Fun.imp (c_noiAt (z := awZ) (s := awS) (c := awC) (i := ((2 : Nat) : Int)) (j := ((2 : Nat) : Int)) aw_cs2 (by rw [aw_cs.1]; decide)) aw_at) ⟨(Has.t rfl), (Has.cN 2), (Has.cN 2), trivial⟩) ?_
  refine R_op rfl rfl rfl (op_move (Has.t rfl)) ?_
  refine R_op rfl rfl rfl (op_extract (Has.t rfl) rfl) ?_
  refine R_op rfl rfl rfl (op_extract (Has.t rfl) rfl) ?_
  refine R_new rfl rfl rfl (new_alloc (Ts := [Is (.bool false), Is (.slice none 0 0), Is (.bool false), Is (.slice none 0 0), Is (.slice none 0 0)]) Tryz.zeroValue49 rfl (fun V => Cells.cons' ⟨rfl, trivial⟩ (Cells.cons' ⟨rfl, trivial⟩ (Cells.cons' ⟨rfl, trivial⟩ (Cells.cons' ⟨rfl, trivial⟩ (Cells.cons' ⟨rfl, trivial⟩ (Cells.nil))))))) (fun B6 => ?_)
  refine R_stA Tryz.sizeOf49 (Has.t rfl) (Has.t rfl) rfl (i := 3) rfl (Nat.le_of_ble_eq_true rfl) rfl rfl ?_
  refine R_op rfl rfl rfl (op_assign (Has.t rfl)) ?_
  refine R_nil ?_
  refine T_seq ?_
  refine Y.D_start (m := 9) [] ?_
  refine Y.D_hide (Ei := [(4, _)]) rfl rfl (Y.Srcs.cons (Y.Src.pre rfl rfl) Y.Srcs.nil) rfl rfl (S_plain rfl (op_ldBA Tryz.isAgg35 Tryz.sizeOf35 (Has.t rfl) (i := 2) rfl rfl rfl)) ?_
  refine Y.D_hide (Ei := []) rfl rfl Y.Srcs.nil rfl rfl (S_plain rfl (op_call Tryz.call28 (c_Int (n := 0) (by decide) (by decide)) ⟨(Has.cN 0), trivial⟩)) ?_
  refine Y.D_hide (Ei := []) rfl rfl Y.Srcs.nil rfl rfl (S_plain rfl (op_call Tryz.call28 (c_Int (n := 290) (by decide) (by decide)) ⟨(Has.cN 290), trivial⟩)) ?_
  refine Y.D_hide (Ei := [(39, _), (40, _), (41, _)]) rfl rfl (Y.Srcs.cons (Y.Src.op 0 rfl rfl) (Y.Srcs.cons (Y.Src.op 1 rfl rfl) (Y.Srcs.cons (Y.Src.op 2 rfl rfl) Y.Srcs.nil))) rfl rfl (S_plain rfl (op_call Tryz.call17 (Fun.imp (c_Factor (z := awZ) (s := awS) (c := awC) (g := Qi.ofInt 0) (t0 := Qi.ofInt 290) (L := 1000) (aw_fz.le (by decide)) (aw_fs.le (by decide)) aw_fc (aw_f0.le (by decide)) (aw_ft.le (by decide)) (by decide) (by decide) aw_shp aw_cs (by decide)) aw_fac) ⟨(Has.t rfl), (Has.t rfl), (Has.t rfl), trivial⟩)) ?_
  refine Y.D_hide (Ei := [(42, _)]) rfl rfl (Y.Srcs.cons (Y.Src.op 3 rfl rfl) Y.Srcs.nil) rfl rfl (S_plain rfl (op_move (Has.t rfl))) ?_
  refine Y.D_hide (Ei := [(38, _)]) rfl rfl (Y.Srcs.cons (Y.Src.op 4 rfl rfl) Y.Srcs.nil) rfl rfl (S_plain rfl (op_extract (Has.t rfl) rfl)) ?_
  refine Y.D_hide (Ei := [(38, _)]) rfl rfl (Y.Srcs.cons (Y.Src.op 4 rfl rfl) Y.Srcs.nil) rfl rfl (S_plain rfl (op_extract (Has.t rfl) rfl)) ?_
  refine Y.D_newp (Ei := []) (fun bb => box bb 49 [BoolT (decide ((Qi.ofInt 4).a < 0)), NatT (Qi.ofInt 4).a.natAbs, BoolT (decide ((Qi.ofInt 4).b < 0)), NatT (Qi.ofInt 4).b.natAbs, NatT (du (Qi.ofInt 4))]) 8 rfl rfl rfl Y.Srcs.nil rfl rfl (by kernel_rfl) (new_alloc (Ts := [Is (.bool false), Is (.slice none 0 0), Is (.bool false), Is (.slice none 0 0), Is (.slice none 0 0)]) Tryz.zeroValue49 rfl (fun V => Cells.cons' ⟨rfl, trivial⟩ (Cells.cons' ⟨rfl, trivial⟩ (Cells.cons' ⟨rfl, trivial⟩ (Cells.cons' ⟨rfl, trivial⟩ (Cells.cons' ⟨rfl, trivial⟩ (Cells.nil))))))) ?_
  refine Y.D_putN (Ei := [(43, _)]) 7 rfl rfl rfl rfl rfl rfl (Y.Srcs.cons (Y.Src.op 5 rfl rfl) Y.Srcs.nil) (fun bb => P_stA Tryz.sizeOf49 (Has.t rfl) (Has.t rfl) rfl (i := 0) rfl (Nat.le_of_ble_eq_true rfl) rfl rfl) ?_
  refine Y.D_done mixed rfl (by kernel_rfl) rfl (by simp [Y.okP]) rfl rfl (Y.F_val (Y.F_val (Y.F_val (Y.F_val (Y.F_val (Y.F_val (Y.F_val (Y.F_newp (fun B8 => Y.F_putN (Y.F_nil ?_))))))))))
  refine R_op rfl rfl rfl (op_assign (Has.t rfl)) ?_
  refine R_nil ?_
  refine T_seq ?_
  refine T_region ?_
  refine R_op rfl rfl rfl (op_move (Has.t rfl)) ?_
  refine R_op rfl rfl rfl (op_eql (Has.t rfl) Has.c) ?_
  refine R_op rfl rfl rfl (op_move (Has.t rfl)) ?_
  refine R_step rfl rfl (S_when rfl rfl (Has.t rfl) (fun h => op_move (Has.t rfl))) ?_
  refine R_step rfl rfl (S_when rfl rfl (Has.t rfl) (fun h => op_eql (Has.w rfl h) Has.c)) ?_
  refine R_op rfl rfl rfl (op_and (Has.t rfl) (fun h => (Has.w rfl h))) ?_
  refine R_op rfl rfl rfl (op_move (Has.t rfl)) ?_
  refine R_step rfl rfl (S_when rfl rfl (Has.t rfl) (fun h => op_move (Has.t rfl))) ?_
  refine R_step rfl rfl (S_when rfl rfl (Has.t rfl) (fun h => op_eql (Has.w rfl h) Has.c)) ?_
  refine R_op rfl rfl rfl (op_and (Has.t rfl) (fun h => (Has.w rfl h))) ?_
  refine R_op rfl rfl rfl (op_move (Has.t rfl)) ?_
  refine R_step rfl rfl (S_when rfl rfl (Has.t rfl) (fun h => op_move (Has.t rfl))) ?_
  refine R_step rfl rfl (S_when rfl rfl (Has.t rfl) (fun h => op_eql (Has.w rfl h) Has.c)) ?_
  refine R_op rfl rfl rfl (op_and (Has.t rfl) (fun h => (Has.w rfl h))) ?_
  refine R_op rfl rfl rfl (op_move (Has.t rfl)) ?_
  refine R_step rfl rfl (S_when rfl rfl (Has.t rfl) (fun h => op_ldBA Tryz.isAgg49 Tryz.sizeOf49 (Has.t rfl) (i := 3) rfl rfl rfl)) ?_
  refine R_step rfl rfl (S_when rfl rfl (Has.t rfl) (fun h => op_call Tryz.call75 (c_Text (x := Qi.ofInt 10875) (L := 2) (hx := (@fitInt 10875).le (by decide)) (by decide)) ⟨(Has.w rfl h), trivial⟩)) ?_
  refine R_step rfl rfl (S_when rfl rfl (Has.t rfl) (fun h => op_eqS (Has.w rfl h) (Has.cS (l := [49, 48, 56, 55, 53]) rfl))) ?_
  refine R_op rfl rfl rfl (op_and (Has.t rfl) (fun h => (Has.w rfl h))) ?_
  refine R_op rfl rfl rfl (op_move (Has.t rfl)) ?_
  refine R_step rfl rfl (S_when rfl rfl (Has.t rfl) (fun h => op_ldBA Tryz.isAgg49 Tryz.sizeOf49 (Has.t rfl) (i := 4) rfl rfl rfl)) ?_
  refine R_step rfl rfl (S_when rfl rfl (Has.t rfl) (fun h => op_call Tryz.call75 (c_Text (x := Qi.ofInt 4) (L := 2) (hx := (@fitInt 4).le (by decide)) (by decide)) ⟨(Has.w rfl h), trivial⟩)) ?_
  refine R_step rfl rfl (S_when rfl rfl (Has.t rfl) (fun h => op_eqS (Has.w rfl h) (Has.cS (l := [52]) rfl))) ?_
  refine R_op rfl rfl rfl (op_and (Has.t rfl) (fun h => (Has.w rfl h))) ?_
  refine R_op rfl rfl rfl (op_assign (Has.t rfl)) ?_
  refine R_nil ?_
  refine T_ret1 rfl (rv_to (rv_tmp rfl) ?_)
  exact (bool_of (by rw [aw_t1, aw_t2]; rfl))
end Go.Proofs.YtppibhcfaahgpaaGreat
namespace Go.Proofs.YtppibhcfaahgpaaGreat
open Go Go.RowKit
theorem is_ref {z : List Qi} {i : Nat} (h : i < z.length) : ∀ v V, (TupT [NumT (pkv z ((i + 1 : Nat) : Int)), IntT .i64 (if 1 ≤ ((i + 1 : Nat) : Int) ∧ ((i + 1 : Nat) : Int) ≤ z.length then 0 else 1)]).p v V → (TupT [NumT (gv z i), IntT .i64 0]).p v V := by
  rw [show pkv z ((i + 1 : Nat) : Int) = gv z i from pkv_at h, if_pos (by omega)]; exact fun _ _ h => h
theorem is_at {n : Nat} {s : List (List Qi)} {i j : Nat} (h : i < n) (k : j < n) : ∀ v V, (TupT [NumT (pkm n s ((i + 1 : Nat) : Int) ((j + 1 : Nat) : Int)), IntT .i64 (if (1 ≤ ((i + 1 : Nat) : Int) ∧ ((i + 1 : Nat) : Int) ≤ n) ∧ 1 ≤ ((j + 1 : Nat) : Int) ∧ ((j + 1 : Nat) : Int) ≤ n then 0 else 1)]).p v V → (TupT [NumT (gm s i j), IntT .i64 0]).p v V := by
  rw [show pkm n s ((i + 1 : Nat) : Int) ((j + 1 : Nat) : Int) = gm s i j from pkm_at h k, if_pos (by omega)]; exact fun _ _ h => h
set_option maxRecDepth 20000 in
theorem c_is5 {z : List Qi} {s c : List (List Qi)} {L : Nat} (hz : FitL z L) (hs : FitM s L) (hc : FitM c L) (hL1 : 1 ≤ L) (hL : L ≤ 8796093022208) (hsh : Shp s z.length z.length) (hch : Shp c z.length z.length) (hl : z.length ≤ 1000) : Fun Tryz.prog 25 [NoisyT z s c, RNoisyT z s c] (BoolT true) := by
  have hcl := hch.1
  have hch2 : Shp c c.length c.length := by rw [hcl]; exact hch
  refine Fun.intro Tryz.func25 rfl Tryz.ntmps25 rfl (fun cx => ?_)
  refine T_seq ?_
  refine T_region ?_
  refine R_new rfl rfl rfl (new_box (Has.t rfl)) (fun B2 => ?_)
  refine R_new rfl rfl rfl (new_box (Has.t rfl)) (fun B3 => ?_)
  refine R_op rfl rfl rfl (op_assign Has.c) ?_
  refine R_nil ?_
  refine T_seq ?_
  refine T_region ?_
  refine R_op rfl rfl rfl (op_ldBA Tryz.isAgg35 Tryz.sizeOf35 (Has.t rfl) (i := 0) rfl rfl rfl) ?_
  refine R_op rfl rfl rfl (op_call Tryz.call23 c_noiNet ⟨(Has.t rfl), trivial⟩) ?_
  refine R_new rfl rfl rfl (new_alloc (Ts := [Is (.slice none 0 0), Is (.slice none 0 0)]) Tryz.zeroValue33 rfl (fun V => Cells.cons' ⟨rfl, trivial⟩ (Cells.cons' ⟨rfl, trivial⟩ (Cells.nil)))) (fun B5 => ?_)
  refine R_stA Tryz.sizeOf33 (Has.t rfl) (Has.t rfl) rfl (i := 2) rfl (Nat.le_of_ble_eq_true rfl) rfl rfl ?_
  refine R_nil ?_
  refine T_seq ?_
  refine T_seq ?_
  refine D_start (m := 15) ?_
  refine D_step (Ei := [(5, _)]) rfl rfl (Srcs.cons (Src.pre rfl rfl) Srcs.nil) (S_plain rfl (op_ldBA Tryz.isAgg33 Tryz.sizeOf33 (Has.t rfl) (i := 2) rfl rfl rfl)) ?_
  refine D_step (Ei := [(16, _)]) rfl rfl (Srcs.cons (Src.op 0 rfl rfl) Srcs.nil) (S_plain rfl (op_call Tryz.call74 c_Ports ⟨(Has.t rfl), trivial⟩)) ?_
  refine D_step (Ei := [(3, _)]) rfl rfl (Srcs.cons (Src.pre rfl rfl) Srcs.nil) (S_plain rfl (op_fldB fa_41_0 (Has.t rfl) rfl)) ?_
  refine D_step (Ei := [(18, _)]) rfl rfl (Srcs.cons (Src.op 2 rfl rfl) Srcs.nil) (S_plain rfl (op_fldB fa_39_0 (Has.t rfl) rfl)) ?_
  refine D_step (Ei := [(19, _)]) rfl rfl (Srcs.cons (Src.op 3 rfl rfl) Srcs.nil) (S_plain rfl (op_ldB Tryz.isAgg36 Tryz.sizeOf36 (Has.t rfl) (i := 1) rfl rfl)) ?_
  refine D_step (Ei := [(20, _)]) rfl rfl (Srcs.cons (Src.op 4 rfl rfl) Srcs.nil) (S_plain rfl (op_len Tryz.runUnderlying36 (Has.t rfl) len_map)) ?_
  refine D_step (Ei := [(17, _), (21, _)]) rfl rfl (Srcs.cons (Src.op 1 rfl rfl) (Srcs.cons (Src.op 5 rfl rfl) Srcs.nil)) (S_plain rfl (op_neqN (Has.t rfl) (Has.t rfl))) ?_
  refine D_step (Ei := [(22, _)]) rfl rfl (Srcs.cons (Src.op 6 rfl rfl) Srcs.nil) (S_plain rfl (op_move (Has.t rfl))) ?_
  refine D_step (Ei := [(3, _), (23, _)]) rfl rfl (Srcs.cons (Src.pre rfl rfl) (Srcs.cons (Src.op 7 rfl rfl) Srcs.nil)) (S_when rfl rfl (Has.t rfl) (fun h => op_fldB fa_41_1 (Has.t rfl) rfl)) ?_
  refine D_step (Ei := [(24, _), (23, _)]) rfl rfl (Srcs.cons (Src.op 8 rfl rfl) (Srcs.cons (Src.op 7 rfl rfl) Srcs.nil)) (S_when rfl rfl (Has.t rfl) (fun h => op_ldB Tryz.isAgg37 Tryz.sizeOf37 (Has.w rfl h) (i := 1) rfl rfl)) ?_
  refine D_step (Ei := [(25, _), (23, _)]) rfl rfl (Srcs.cons (Src.op 9 rfl rfl) (Srcs.cons (Src.op 7 rfl rfl) Srcs.nil)) (S_when rfl rfl (Has.t rfl) (fun h => op_len Tryz.runUnderlying37 (Has.w rfl h) len_map)) ?_
  refine D_step (Ei := [(3, _), (23, _)]) rfl rfl (Srcs.cons (Src.pre rfl rfl) (Srcs.cons (Src.op 7 rfl rfl) Srcs.nil)) (S_when rfl rfl (Has.t rfl) (fun h => op_fldB fa_41_0 (Has.t rfl) rfl)) ?_
  refine D_step (Ei := [(27, _), (23, _)]) rfl rfl (Srcs.cons (Src.op 11 rfl rfl) (Srcs.cons (Src.op 7 rfl rfl) Srcs.nil)) (S_when rfl rfl (Has.t rfl) (fun h => op_fldB fa_39_0 (Has.w rfl h) rfl)) ?_
  refine D_step (Ei := [(28, _), (23, _)]) rfl rfl (Srcs.cons (Src.op 12 rfl rfl) (Srcs.cons (Src.op 7 rfl rfl) Srcs.nil)) (S_when rfl rfl (Has.t rfl) (fun h => op_ldB Tryz.isAgg36 Tryz.sizeOf36 (Has.w rfl h) (i := 1) rfl rfl)) ?_
  refine D_step (Ei := [(29, _), (23, _)]) rfl rfl (Srcs.cons (Src.op 13 rfl rfl) (Srcs.cons (Src.op 7 rfl rfl) Srcs.nil)) (S_when rfl rfl (Has.t rfl) (fun h => op_len Tryz.runUnderlying36 (Has.w rfl h) len_map)) ?_
  refine D_done mixed rfl (by kernel_rfl) (F_val (F_val (F_val (F_val (F_val (F_val (F_val (F_val (F_val (F_val (F_val (F_val (F_val (F_val (F_val (F_nil ?_))))))))))))))))
  refine R_step rfl rfl (S_when rfl rfl (Has.t rfl) (fun h => op_neqN (Has.w rfl h) (Has.w rfl h))) ?_
  refine R_op rfl rfl rfl (op_or (Has.t rfl) (fun h => (Has.w rfl h))) ?_
  refine R_nil ?_
  refine T_condF (Has.t rfl) (by simp [hcl]) ?_
  refine T_skip ?_
  refine T_seq ?_
  refine T_seq ?_
  refine T_region ?_
  refine R_op rfl rfl rfl (op_fldB fa_41_1 (Has.t rfl) rfl) ?_
  refine R_op rfl rfl rfl (op_ldB Tryz.isAgg37 Tryz.sizeOf37 (Has.t rfl) (i := 1) rfl rfl) ?_
  refine R_op rfl rfl rfl (op_len Tryz.runUnderlying37 (Has.t rfl) len_map) ?_
  refine R_op rfl rfl rfl (op_move (Has.cN 0)) ?_
  refine R_nil ?_
  refine T_block ?_
  refine T_loop (fun (i : Nat) => i ≤ z.length) (fun (i : Nat) => z.length - i) (fun (i : Nat) => [(2, PtrB B2 0), (3, PtrB B3 0), (5, PtrB B5 0), (35, NT .i64 z.length), (36, NT .i64 i)]) (fun (i : Nat) => [box B2 35 [NumsT z, NumM s, NumM c], box B3 41 [QsT z, QM s, QM c], box B5 33 [NumsT z, NumM s]]) 0 (Nat.zero_le _)
    (Sub.cons rfl (Sub.cons rfl (Sub.cons rfl (Sub.to rfl (nt_of hcl) (Sub.cons rfl Sub.nil))))) (HSub.refl _) (fun i hi => ?_)
  refine T_seq ?_
  refine T_region ?_
  refine R_op rfl rfl rfl (op_lssN (Has.t rfl) (Has.t rfl)) ?_
  refine R_nil ?_
  refine T_seq ?_
  refine T_cond (Has.t rfl) (fun hd => ?_) (fun hd => ?_)
  · simp only [decide_eq_true_eq] at hd
    haveI f1 : FitC (gv z i) L := hz.get hL1 i
    refine T_skip ?_
    refine T_seq ?_
    refine T_block ?_
    refine T_seq ?_
    refine T_region ?_
    refine R_op rfl rfl rfl (op_move (Has.t rfl)) ?_
    refine R_op rfl rfl rfl (op_assign (Has.t rfl)) ?_
    refine R_nil ?_
    refine T_seq ?_
    refine T_region ?_
    refine R_op rfl rfl rfl (op_ldBA Tryz.isAgg33 Tryz.sizeOf33 (Has.t rfl) (i := 2) rfl rfl rfl) ?_
    refine R_op rfl rfl rfl (op_move (Has.t rfl)) ?_
    refine R_op rfl rfl rfl (op_addN (Has.t rfl) (Has.cN 1) (by show _ < 9223372036854775808; first | omega | (simp only [lim]; omega))) ?_
    refine R_op rfl rfl rfl (op_call Tryz.call71 (Fun.imp (c_Ref (z := z) (s := s) (i := ((i + 1 : Nat) : Int)) (by omega)) (is_ref hd)) ⟨(Has.t rfl), (Has.t rfl), trivial⟩) ?_
    refine R_op rfl rfl rfl (op_move (Has.t rfl)) ?_
    refine R_op rfl rfl rfl (op_extract (Has.t rfl) rfl) ?_
    refine R_op rfl rfl rfl (op_extract (Has.t rfl) rfl) ?_
    refine R_new rfl rfl rfl (new_alloc (Ts := [Is (.bool false), Is (.slice none 0 0), Is (.bool false), Is (.slice none 0 0), Is (.slice none 0 0)]) Tryz.zeroValue49 rfl (fun V => Cells.cons' ⟨rfl, trivial⟩ (Cells.cons' ⟨rfl, trivial⟩ (Cells.cons' ⟨rfl, trivial⟩ (Cells.cons' ⟨rfl, trivial⟩ (Cells.cons' ⟨rfl, trivial⟩ (Cells.nil))))))) (fun B7 => ?_)
    refine R_stA Tryz.sizeOf49 (Has.t rfl) (Has.t rfl) rfl (i := 3) rfl (Nat.le_of_ble_eq_true rfl) rfl rfl ?_
    refine R_op rfl rfl rfl (op_assign (Has.t rfl)) ?_
    refine R_nil ?_
    refine T_seq ?_
    refine T_seq ?_
    refine D_start (m := 10) ?_
    refine D_step (Ei := [(8, _)]) rfl rfl (Srcs.cons (Src.pre rfl rfl) Srcs.nil) (S_plain rfl (op_move (Has.t rfl))) ?_
    refine D_step (Ei := [(46, _)]) rfl rfl (Srcs.cons (Src.op 0 rfl rfl) Srcs.nil) (S_plain rfl (op_neq (Has.t rfl) Has.c)) ?_
    refine D_step (Ei := [(47, _)]) rfl rfl (Srcs.cons (Src.op 1 rfl rfl) Srcs.nil) (S_plain rfl (op_move (Has.t rfl))) ?_
    refine D_step (Ei := [(7, _), (48, _)]) rfl rfl (Srcs.cons (Src.pre rfl rfl) (Srcs.cons (Src.op 2 rfl rfl) Srcs.nil)) (S_when rfl rfl (Has.t rfl) (fun h => op_ldBA Tryz.isAgg49 Tryz.sizeOf49 (Has.t rfl) (i := 3) rfl rfl rfl)) ?_
    refine D_step (Ei := [(3, _), (48, _)]) rfl rfl (Srcs.cons (Src.pre rfl rfl) (Srcs.cons (Src.op 2 rfl rfl) Srcs.nil)) (S_when rfl rfl (Has.t rfl) (fun h => op_fldB fa_41_0 (Has.t rfl) rfl)) ?_
    refine D_step (Ei := [(50, _), (48, _)]) rfl rfl (Srcs.cons (Src.op 4 rfl rfl) (Srcs.cons (Src.op 2 rfl rfl) Srcs.nil)) (S_when rfl rfl (Has.t rfl) (fun h => op_fldB fa_39_0 (Has.w rfl h) rfl)) ?_
    refine D_step (Ei := [(51, _), (48, _)]) rfl rfl (Srcs.cons (Src.op 5 rfl rfl) (Srcs.cons (Src.op 2 rfl rfl) Srcs.nil)) (S_when rfl rfl (Has.t rfl) (fun h => op_ldB Tryz.isAgg36 Tryz.sizeOf36 (Has.w rfl h) (i := 1) rfl rfl)) ?_
    refine D_step (Ei := [(6, _), (48, _)]) rfl rfl (Srcs.cons (Src.pre rfl rfl) (Srcs.cons (Src.op 2 rfl rfl) Srcs.nil)) (S_when rfl rfl (Has.t rfl) (fun h => op_move (Has.t rfl))) ?_
    refine D_step (Ei := [(52, _), (53, _), (48, _)]) rfl rfl (Srcs.cons (Src.op 6 rfl rfl) (Srcs.cons (Src.op 7 rfl rfl) (Srcs.cons (Src.op 2 rfl rfl) Srcs.nil))) (S_when rfl rfl (Has.t rfl) (fun h => op_idx Tryz.runUnderlying36 Tryz.sizeOf57 (Has.w rfl h) (Has.w rfl h) rfl (map_get (getD_some (d := Qi.zero) (by first | omega | (simp at h; omega)))))) ?_
    refine D_step (Ei := [(54, _), (48, _)]) rfl rfl (Srcs.cons (Src.op 8 rfl rfl) (Srcs.cons (Src.op 2 rfl rfl) Srcs.nil)) (S_when rfl rfl (Has.t rfl) (fun h => op_ld Tryz.isAgg57 Tryz.sizeOf57 (Has.w rfl h))) ?_
    refine D_done mixed rfl (by kernel_rfl) (F_val (F_val (F_val (F_val (F_val (F_val (F_val (F_val (F_val (F_val (F_nil ?_)))))))))))
    refine R_step rfl rfl (S_when rfl rfl (Has.t rfl) (fun h => op_call Tryz.call21 (c_lawIs (x := gv z i) (y := gv z i) (L := L) (M := L) hL hL) ⟨(Has.w rfl h), (Has.w rfl h), trivial⟩)) ?_
    refine R_step rfl rfl (S_when rfl rfl (Has.t rfl) (fun h => op_not (Has.w rfl h))) ?_
    refine R_op rfl rfl rfl (op_or (Has.t rfl) (fun h => (Has.w rfl h))) ?_
    refine R_nil ?_
    refine T_condF (Has.t rfl) (by simp) ?_
    refine T_skip ?_
    refine T_seq ?_
    refine T_region ?_
    refine R_op rfl rfl rfl (op_fldB fa_41_1 (Has.t rfl) rfl) ?_
    refine R_op rfl rfl rfl (op_ldB Tryz.isAgg37 Tryz.sizeOf37 (Has.t rfl) (i := 1) rfl rfl) ?_
    refine R_op rfl rfl rfl (op_len Tryz.runUnderlying37 (Has.t rfl) len_map) ?_
    refine R_op rfl rfl rfl (op_move (Has.cN 0)) ?_
    refine R_nil ?_
    refine T_block ?_
    refine T_keep [0, 1, 2] rfl (by decide) ?_
    refine T_loop (fun (j : Nat) => j ≤ z.length) (fun (j : Nat) => z.length - j) (fun (j : Nat) => [(2, PtrB B2 0), (3, PtrB B3 0), (5, PtrB B5 0), (6, NT .i64 i), (35, NT .i64 z.length), (36, NT .i64 i), (61, NT .i64 z.length), (62, NT .i64 j)]) (fun (j : Nat) => [box B2 35 [NumsT z, NumM s, NumM c], box B3 41 [QsT z, QM s, QM c], box B5 33 [NumsT z, NumM s]]) 0 (Nat.zero_le _)
      (Sub.cons rfl (Sub.cons rfl (Sub.cons rfl (Sub.cons rfl (Sub.cons rfl (Sub.cons rfl (Sub.to rfl (nt_of hcl) (Sub.cons rfl Sub.nil)))))))) (HSub.refl _) (fun j hj => ?_)
    refine T_seq ?_
    refine T_region ?_
    refine R_op rfl rfl rfl (op_lssN (Has.t rfl) (Has.t rfl)) ?_
    refine R_nil ?_
    refine T_seq ?_
    refine T_cond (Has.t rfl) (fun hf => ?_) (fun hf => ?_)
    · simp only [decide_eq_true_eq] at hf
      haveI f2 : FitC (gm s i j) L := hs.get hL1 i j
      haveI f3 : FitC (gm c i j) L := hc.get hL1 i j
      have hsr := hsh.row hd
      have hcr := hch.row hd
      have hs1 := hsh.1
      refine T_skip ?_
      refine T_seq ?_
      refine T_block ?_
      refine T_seq ?_
      refine T_region ?_
      refine R_op rfl rfl rfl (op_move (Has.t rfl)) ?_
      refine R_op rfl rfl rfl (op_assign (Has.t rfl)) ?_
      refine R_nil ?_
      refine T_seq ?_
      refine T_region ?_
      refine R_op rfl rfl rfl (op_ldBA Tryz.isAgg33 Tryz.sizeOf33 (Has.t rfl) (i := 2) rfl rfl rfl) ?_
      refine R_op rfl rfl rfl (op_move (Has.t rfl)) ?_
      refine R_op rfl rfl rfl (op_addN (Has.t rfl) (Has.cN 1) (by show _ < 9223372036854775808; first | omega | (simp only [lim]; omega))) ?_
      refine R_op rfl rfl rfl (op_move (Has.t rfl)) ?_
      refine R_op rfl rfl rfl (op_addN (Has.t rfl) (Has.cN 1) (by show _ < 9223372036854775808; first | omega | (simp only [lim]; omega))) ?_
      refine R_op rfl rfl rfl (op_call Tryz.call72 (Fun.imp (c_At (z := z) (s := s) (i := ((i + 1 : Nat) : Int)) (j := ((j + 1 : Nat) : Int)) hsh (by omega)) (is_at hd hf)) ⟨(Has.t rfl), (Has.t rfl), (Has.t rfl), trivial⟩) ?_
      refine R_op rfl rfl rfl (op_move (Has.t rfl)) ?_
      refine R_op rfl rfl rfl (op_extract (Has.t rfl) rfl) ?_
      refine R_op rfl rfl rfl (op_extract (Has.t rfl) rfl) ?_
      refine R_new rfl rfl rfl (new_alloc (Ts := [Is (.bool false), Is (.slice none 0 0), Is (.bool false), Is (.slice none 0 0), Is (.slice none 0 0)]) Tryz.zeroValue49 rfl (fun V => Cells.cons' ⟨rfl, trivial⟩ (Cells.cons' ⟨rfl, trivial⟩ (Cells.cons' ⟨rfl, trivial⟩ (Cells.cons' ⟨rfl, trivial⟩ (Cells.cons' ⟨rfl, trivial⟩ (Cells.nil))))))) (fun B10 => ?_)
      refine R_stA Tryz.sizeOf49 (Has.t rfl) (Has.t rfl) rfl (i := 3) rfl (Nat.le_of_ble_eq_true rfl) rfl rfl ?_
      refine R_op rfl rfl rfl (op_assign (Has.t rfl)) ?_
      refine R_nil ?_
      refine T_seq ?_
      refine T_region ?_
      refine R_op rfl rfl rfl (op_ldBA Tryz.isAgg35 Tryz.sizeOf35 (Has.t rfl) (i := 0) rfl rfl rfl) ?_
      refine R_op rfl rfl rfl (op_move (Has.t rfl)) ?_
      refine R_op rfl rfl rfl (op_addN (Has.t rfl) (Has.cN 1) (by show _ < 9223372036854775808; first | omega | (simp only [lim]; omega))) ?_
      refine R_op rfl rfl rfl (op_move (Has.t rfl)) ?_
      refine R_op rfl rfl rfl (op_addN (Has.t rfl) (Has.cN 1) (by show _ < 9223372036854775808; first | omega | (simp only [lim]; omega))) ?_
      refine R_op rfl rfl rfl (op_call Tryz.call37 (Fun.imp (c_noiAt (z := z) (s := s) (c := c) (i := ((i + 1 : Nat) : Int)) (j := ((j + 1 : Nat) : Int)) hch2 (by omega)) (is_at (by omega) (by omega))) ⟨(Has.t rfl), (Has.t rfl), (Has.t rfl), trivial⟩) ?_
      refine R_op rfl rfl rfl (op_move (Has.t rfl)) ?_
      refine R_op rfl rfl rfl (op_extract (Has.t rfl) rfl) ?_
      refine R_op rfl rfl rfl (op_extract (Has.t rfl) rfl) ?_
      refine R_new rfl rfl rfl (new_alloc (Ts := [Is (.bool false), Is (.slice none 0 0), Is (.bool false), Is (.slice none 0 0), Is (.slice none 0 0)]) Tryz.zeroValue49 rfl (fun V => Cells.cons' ⟨rfl, trivial⟩ (Cells.cons' ⟨rfl, trivial⟩ (Cells.cons' ⟨rfl, trivial⟩ (Cells.cons' ⟨rfl, trivial⟩ (Cells.cons' ⟨rfl, trivial⟩ (Cells.nil))))))) (fun B12 => ?_)
      refine R_stA Tryz.sizeOf49 (Has.t rfl) (Has.t rfl) rfl (i := 4) rfl (Nat.le_of_ble_eq_true rfl) rfl rfl ?_
      refine R_op rfl rfl rfl (op_assign (Has.t rfl)) ?_
      refine R_nil ?_
      refine T_seq ?_
      refine D_start (m := 30) ?_
      refine D_step (Ei := [(11, _)]) rfl rfl (Srcs.cons (Src.pre rfl rfl) Srcs.nil) (S_plain rfl (op_move (Has.t rfl))) ?_
      refine D_step (Ei := [(83, _)]) rfl rfl (Srcs.cons (Src.op 0 rfl rfl) Srcs.nil) (S_plain rfl (op_neq (Has.t rfl) Has.c)) ?_
      refine D_step (Ei := [(84, _)]) rfl rfl (Srcs.cons (Src.op 1 rfl rfl) Srcs.nil) (S_plain rfl (op_move (Has.t rfl))) ?_
      refine D_step (Ei := [(13, _), (85, _)]) rfl rfl (Srcs.cons (Src.pre rfl rfl) (Srcs.cons (Src.op 2 rfl rfl) Srcs.nil)) (S_when rfl rfl (Has.t rfl) (fun h => op_move (Has.t rfl))) ?_
      refine D_step (Ei := [(86, _), (85, _)]) rfl rfl (Srcs.cons (Src.op 3 rfl rfl) (Srcs.cons (Src.op 2 rfl rfl) Srcs.nil)) (S_when rfl rfl (Has.t rfl) (fun h => op_neq (Has.w rfl h) Has.c)) ?_
      refine D_step (Ei := [(85, _), (87, _)]) rfl rfl (Srcs.cons (Src.op 2 rfl rfl) (Srcs.cons (Src.op 4 rfl rfl) Srcs.nil)) (S_plain rfl (op_or (Has.t rfl) (fun h => (Has.w rfl h)))) ?_
      refine D_step (Ei := [(88, _)]) rfl rfl (Srcs.cons (Src.op 5 rfl rfl) Srcs.nil) (S_plain rfl (op_move (Has.t rfl))) ?_
      refine D_step (Ei := [(10, _), (89, _)]) rfl rfl (Srcs.cons (Src.pre rfl rfl) (Srcs.cons (Src.op 6 rfl rfl) Srcs.nil)) (S_when rfl rfl (Has.t rfl) (fun h => op_ldBA Tryz.isAgg49 Tryz.sizeOf49 (Has.t rfl) (i := 3) rfl rfl rfl)) ?_
      refine D_step (Ei := [(3, _), (89, _)]) rfl rfl (Srcs.cons (Src.pre rfl rfl) (Srcs.cons (Src.op 6 rfl rfl) Srcs.nil)) (S_when rfl rfl (Has.t rfl) (fun h => op_fldB fa_41_0 (Has.t rfl) rfl)) ?_
      refine D_step (Ei := [(91, _), (89, _)]) rfl rfl (Srcs.cons (Src.op 8 rfl rfl) (Srcs.cons (Src.op 6 rfl rfl) Srcs.nil)) (S_when rfl rfl (Has.t rfl) (fun h => op_fldB fa_39_1 (Has.w rfl h) rfl)) ?_
      refine D_step (Ei := [(92, _), (89, _)]) rfl rfl (Srcs.cons (Src.op 9 rfl rfl) (Srcs.cons (Src.op 6 rfl rfl) Srcs.nil)) (S_when rfl rfl (Has.t rfl) (fun h => op_ldB Tryz.isAgg37 Tryz.sizeOf37 (Has.w rfl h) (i := 1) rfl rfl)) ?_
      refine D_step (Ei := [(6, _), (89, _)]) rfl rfl (Srcs.cons (Src.pre rfl rfl) (Srcs.cons (Src.op 6 rfl rfl) Srcs.nil)) (S_when rfl rfl (Has.t rfl) (fun h => op_move (Has.t rfl))) ?_
      refine D_step (Ei := [(93, _), (94, _), (89, _)]) rfl rfl (Srcs.cons (Src.op 10 rfl rfl) (Srcs.cons (Src.op 11 rfl rfl) (Srcs.cons (Src.op 6 rfl rfl) Srcs.nil))) (S_when rfl rfl (Has.t rfl) (fun h => op_idx Tryz.runUnderlying37 Tryz.sizeOf36 (Has.w rfl h) (Has.w rfl h) rfl (map_get (getD_some (d := []) (by omega))))) ?_
      refine D_step (Ei := [(95, _), (89, _)]) rfl rfl (Srcs.cons (Src.op 12 rfl rfl) (Srcs.cons (Src.op 6 rfl rfl) Srcs.nil)) (S_when rfl rfl (Has.t rfl) (fun h => op_ld Tryz.isAgg36 Tryz.sizeOf36 (Has.w rfl h))) ?_
      refine D_step (Ei := [(9, _), (89, _)]) rfl rfl (Srcs.cons (Src.pre rfl rfl) (Srcs.cons (Src.op 6 rfl rfl) Srcs.nil)) (S_when rfl rfl (Has.t rfl) (fun h => op_move (Has.t rfl))) ?_
      refine D_step (Ei := [(96, _), (97, _), (89, _)]) rfl rfl (Srcs.cons (Src.op 13 rfl rfl) (Srcs.cons (Src.op 14 rfl rfl) (Srcs.cons (Src.op 6 rfl rfl) Srcs.nil))) (S_when rfl rfl (Has.t rfl) (fun h => op_idx Tryz.runUnderlying36 Tryz.sizeOf57 (Has.w rfl h) (Has.w rfl h) rfl (map_get (getD_some (d := Qi.zero) (by omega))))) ?_
      refine D_step (Ei := [(98, _), (89, _)]) rfl rfl (Srcs.cons (Src.op 15 rfl rfl) (Srcs.cons (Src.op 6 rfl rfl) Srcs.nil)) (S_when rfl rfl (Has.t rfl) (fun h => op_ld Tryz.isAgg57 Tryz.sizeOf57 (Has.w rfl h))) ?_
      refine D_step (Ei := [(90, _), (99, _), (89, _)]) rfl rfl (Srcs.cons (Src.op 7 rfl rfl) (Srcs.cons (Src.op 16 rfl rfl) (Srcs.cons (Src.op 6 rfl rfl) Srcs.nil))) (S_when rfl rfl (Has.t rfl) (fun h => op_call Tryz.call21 (c_lawIs (x := gm s i j) (y := gm s i j) (L := L) (M := L) hL hL) ⟨(Has.w rfl h), (Has.w rfl h), trivial⟩)) ?_
      refine D_step (Ei := [(100, _), (89, _)]) rfl rfl (Srcs.cons (Src.op 17 rfl rfl) (Srcs.cons (Src.op 6 rfl rfl) Srcs.nil)) (S_when rfl rfl (Has.t rfl) (fun h => op_not (Has.w rfl h))) ?_
      refine D_step (Ei := [(89, _), (101, _)]) rfl rfl (Srcs.cons (Src.op 6 rfl rfl) (Srcs.cons (Src.op 18 rfl rfl) Srcs.nil)) (S_plain rfl (op_or (Has.t rfl) (fun h => (Has.w rfl h)))) ?_
      refine D_step (Ei := [(102, _)]) rfl rfl (Srcs.cons (Src.op 19 rfl rfl) Srcs.nil) (S_plain rfl (op_move (Has.t rfl))) ?_
      refine D_step (Ei := [(12, _), (103, _)]) rfl rfl (Srcs.cons (Src.pre rfl rfl) (Srcs.cons (Src.op 20 rfl rfl) Srcs.nil)) (S_when rfl rfl (Has.t rfl) (fun h => op_ldBA Tryz.isAgg49 Tryz.sizeOf49 (Has.t rfl) (i := 4) rfl rfl rfl)) ?_
      refine D_step (Ei := [(3, _), (103, _)]) rfl rfl (Srcs.cons (Src.pre rfl rfl) (Srcs.cons (Src.op 20 rfl rfl) Srcs.nil)) (S_when rfl rfl (Has.t rfl) (fun h => op_fldB fa_41_1 (Has.t rfl) rfl)) ?_
      refine D_step (Ei := [(105, _), (103, _)]) rfl rfl (Srcs.cons (Src.op 22 rfl rfl) (Srcs.cons (Src.op 20 rfl rfl) Srcs.nil)) (S_when rfl rfl (Has.t rfl) (fun h => op_ldB Tryz.isAgg37 Tryz.sizeOf37 (Has.w rfl h) (i := 1) rfl rfl)) ?_
      refine D_step (Ei := [(6, _), (103, _)]) rfl rfl (Srcs.cons (Src.pre rfl rfl) (Srcs.cons (Src.op 20 rfl rfl) Srcs.nil)) (S_when rfl rfl (Has.t rfl) (fun h => op_move (Has.t rfl))) ?_
      refine D_step (Ei := [(106, _), (107, _), (103, _)]) rfl rfl (Srcs.cons (Src.op 23 rfl rfl) (Srcs.cons (Src.op 24 rfl rfl) (Srcs.cons (Src.op 20 rfl rfl) Srcs.nil))) (S_when rfl rfl (Has.t rfl) (fun h => op_idx Tryz.runUnderlying37 Tryz.sizeOf36 (Has.w rfl h) (Has.w rfl h) rfl (map_get (getD_some (d := []) (by omega))))) ?_
      refine D_step (Ei := [(108, _), (103, _)]) rfl rfl (Srcs.cons (Src.op 25 rfl rfl) (Srcs.cons (Src.op 20 rfl rfl) Srcs.nil)) (S_when rfl rfl (Has.t rfl) (fun h => op_ld Tryz.isAgg36 Tryz.sizeOf36 (Has.w rfl h))) ?_
      refine D_step (Ei := [(9, _), (103, _)]) rfl rfl (Srcs.cons (Src.pre rfl rfl) (Srcs.cons (Src.op 20 rfl rfl) Srcs.nil)) (S_when rfl rfl (Has.t rfl) (fun h => op_move (Has.t rfl))) ?_
      refine D_step (Ei := [(109, _), (110, _), (103, _)]) rfl rfl (Srcs.cons (Src.op 26 rfl rfl) (Srcs.cons (Src.op 27 rfl rfl) (Srcs.cons (Src.op 20 rfl rfl) Srcs.nil))) (S_when rfl rfl (Has.t rfl) (fun h => op_idx Tryz.runUnderlying36 Tryz.sizeOf57 (Has.w rfl h) (Has.w rfl h) rfl (map_get (getD_some (d := Qi.zero) (by omega))))) ?_
      refine D_step (Ei := [(111, _), (103, _)]) rfl rfl (Srcs.cons (Src.op 28 rfl rfl) (Srcs.cons (Src.op 20 rfl rfl) Srcs.nil)) (S_when rfl rfl (Has.t rfl) (fun h => op_ld Tryz.isAgg57 Tryz.sizeOf57 (Has.w rfl h))) ?_
      refine D_done mixed rfl (by kernel_rfl) (F_val (F_val (F_val (F_val (F_val (F_val (F_val (F_val (F_val (F_val (F_val (F_val (F_val (F_val (F_val (F_val (F_val (F_val (F_val (F_val (F_val (F_val (F_val (F_val (F_val (F_val (F_val (F_val (F_val (F_val (F_nil ?_)))))))))))))))))))))))))))))))
      refine R_step rfl rfl (S_when rfl rfl (Has.t rfl) (fun h => op_call Tryz.call21 (c_lawIs (x := gm c i j) (y := gm c i j) (L := L) (M := L) hL hL) ⟨(Has.w rfl h), (Has.w rfl h), trivial⟩)) ?_
      refine R_step rfl rfl (S_when rfl rfl (Has.t rfl) (fun h => op_not (Has.w rfl h))) ?_
      refine R_op rfl rfl rfl (op_or (Has.t rfl) (fun h => (Has.w rfl h))) ?_
      refine R_nil ?_
      refine T_condF (Has.t rfl) (by simp) ?_
      refine T_skip ?_
      refine T_blk ?_
      refine T_region ?_
      refine R_op rfl rfl rfl (op_addN (Has.t rfl) (Has.cN 1) (by show _ < 9223372036854775808; first | omega | (simp only [lim]; omega))) ?_
      refine R_op rfl rfl rfl (op_move (Has.t rfl)) ?_
      refine R_nil ?_
      refine T_keep [0, 1, 2] rfl (by decide) ?_
      refine T_again (j + 1) hf (by omega) (Sub.cons rfl (Sub.cons rfl (Sub.cons rfl (Sub.cons rfl (Sub.cons rfl (Sub.cons rfl (Sub.cons rfl (Sub.cons rfl Sub.nil)))))))) (HSub.refl _)
    · refine T_exit rfl ?_
      refine T_blk ?_
      refine T_region ?_
      refine R_op rfl rfl rfl (op_addN (Has.t rfl) (Has.cN 1) (by show _ < 9223372036854775808; first | omega | (simp only [lim]; omega))) ?_
      refine R_op rfl rfl rfl (op_move (Has.t rfl)) ?_
      refine R_nil ?_
      refine T_keep [0, 1, 2] rfl (by decide) ?_
      refine T_again (i + 1) hd (by omega) (Sub.cons rfl (Sub.cons rfl (Sub.cons rfl (Sub.cons rfl (Sub.cons rfl Sub.nil))))) (HSub.refl _)
  · refine T_exit rfl ?_
    refine T_seq ?_
    refine T_region ?_
    refine R_op rfl rfl rfl (op_assign Has.c) ?_
    refine R_nil ?_
    exact T_ret1 rfl (rv_tmp rfl)
end Go.Proofs.YtppibhcfaahgpaaGreat
namespace Go.Proofs.YtppibhcfaahgpaaGreat
open Go Go.RowKit
theorem zeroM_shp (n m : Nat) : Shp (zeroM n m) n m := Shp.tab
theorem zeroM_fit {n m L : Nat} (h : 1 ≤ L) : FitM (zeroM n m) L := FitM.tab fun _ _ _ _ => FitC.zero h
theorem Qi.zero_div (y : Qi) : Qi.zero / y = Qi.zero := by rw [Qi.div_def, Qi.zero_mul']
end Go.Proofs.YtppibhcfaahgpaaGreat
namespace Go.Proofs.YtppibhcfaahgpaaGreat
open Go Go.RowKit
theorem c_zeros {n : Nat} (hn : n ≤ 1000) : Fun Tryz.prog 99 [NT .i64 n, NT .i64 n] (NumM (zeroM n n)) := (c_zerosO hn).fun fun B _ v S V h1 h2 => frz_matF (s := 5) (M := zeroM n n) (zeroM_shp n n).1.symm v S V h1 h2
set_option maxRecDepth 20000 in
theorem c_Quiet {z : List Qi} {s : List (List Qi)} (hl : z.length ≤ 1000) : Fun Tryz.prog 26 [NetT z s] (NoisyT z s (zeroM z.length z.length)) := by
  refine Fun.intro Tryz.func26 rfl Tryz.ntmps26 rfl (fun cx => ?_)
  refine T_seq ?_
  refine T_region ?_
  refine R_new rfl rfl rfl (new_box (Has.t rfl)) (fun B1 => ?_)
  refine R_new rfl rfl rfl (new_alloc (Ts := [Is (.slice none 0 0), Is (.slice none 0 0), Is (.slice none 0 0)]) Tryz.zeroValue35 rfl (fun V => Cells.cons' ⟨rfl, trivial⟩ (Cells.cons' ⟨rfl, trivial⟩ (Cells.cons' ⟨rfl, trivial⟩ (Cells.nil))))) (fun B2 => ?_)
  refine R_nil ?_
  refine T_seq ?_
  refine D_start (m := 6) ?_
  refine D_step (Ei := [(1, _)]) rfl rfl (Srcs.cons (Src.pre rfl rfl) Srcs.nil) (S_plain rfl (op_ldBA Tryz.isAgg33 Tryz.sizeOf33 (Has.t rfl) (i := 0) rfl rfl rfl)) ?_
  refine D_step (Ei := [(1, _)]) rfl rfl (Srcs.cons (Src.pre rfl rfl) Srcs.nil) (S_plain rfl (op_ldBA Tryz.isAgg33 Tryz.sizeOf33 (Has.t rfl) (i := 0) rfl rfl rfl)) ?_
  refine D_step (Ei := [(4, _)]) rfl rfl (Srcs.cons (Src.op 1 rfl rfl) Srcs.nil) (S_plain rfl (op_call Tryz.call74 c_Ports ⟨(Has.t rfl), trivial⟩)) ?_
  refine D_step (Ei := [(1, _)]) rfl rfl (Srcs.cons (Src.pre rfl rfl) Srcs.nil) (S_plain rfl (op_ldBA Tryz.isAgg33 Tryz.sizeOf33 (Has.t rfl) (i := 0) rfl rfl rfl)) ?_
  refine D_step (Ei := [(6, _)]) rfl rfl (Srcs.cons (Src.op 3 rfl rfl) Srcs.nil) (S_plain rfl (op_call Tryz.call74 c_Ports ⟨(Has.t rfl), trivial⟩)) ?_
  refine D_step (Ei := [(5, _), (7, _)]) rfl rfl (Srcs.cons (Src.op 2 rfl rfl) (Srcs.cons (Src.op 4 rfl rfl) Srcs.nil)) (S_plain rfl (op_call Tryz.call99 (c_zeros hl) ⟨(Has.t rfl), (Has.t rfl), trivial⟩)) ?_
  refine D_done mixed rfl (by kernel_rfl) (F_val (F_val (F_val (F_val (F_val (F_val (F_nil ?_)))))))
  refine R_op rfl rfl rfl (bld_35_0_1 (Has.t rfl) (Has.t rfl)) ?_
  refine R_stA Tryz.sizeOf35 (Has.t rfl) (Has.t rfl) rfl (i := 1) rfl (Nat.le_of_ble_eq_true rfl) rfl rfl ?_
  refine R_nil ?_
  exact T_ret1 rfl (rv_cell Tryz.isAgg35 Tryz.sizeOf35 rfl (i := 1) rfl rfl)
end Go.Proofs.YtppibhcfaahgpaaGreat
namespace Go.Proofs.YtppibhcfaahgpaaGreat
open Go Go.RowKit
theorem getD_at {α : Type} {l : List α} {d : α} {k : Nat} (h : k < l.length) : l.getD k d = l[k] := by simp [List.getD, h]
theorem eq_gv {l m : List Qi} (h : l.length = m.length) (k : ∀ i, i < l.length → gv l i = gv m i) : l = m := by
  apply List.ext_getElem h
  intro i h1 h2
  have := k i h1
  simpa [gv, List.getD, h1, h2] using this
theorem eq_rows {l m : List (List Qi)} (h : l.length = m.length) (k : ∀ i, i < l.length → l.getD i [] = m.getD i []) : l = m := by
  apply List.ext_getElem h
  intro i h1 h2
  have := k i h1
  simpa [List.getD, h1, h2] using this
theorem ne_gv {l m : List Qi} {i : Nat} (h : gv l i ≠ gv m i) : l ≠ m := fun e => h (by rw [e])
theorem ne_rows {l m : List (List Qi)} {i : Nat} (h : l.getD i [] ≠ m.getD i []) : l ≠ m := fun e => h (by rw [e])
theorem ne_gm {l m : List (List Qi)} {i j : Nat} (h : gm l i j ≠ gm m i j) : l ≠ m := fun e => h (by rw [e])
theorem eq_gm {l m : List (List Qi)} {n k : Nat} (h : Shp l n k) (h' : Shp m n k) (e : ∀ i j, i < n → j < k → gm l i j = gm m i j) : l = m := by
  rw [mat_tab h, mat_tab h']
  exact tab_congr fun i hi => tab_congr fun j hj => e i j hi hj
def netEq (z z' : List Qi) (s s' : List (List Qi)) : Bool := decide (z = z') && decide (s = s')
theorem netEq_true {z z' : List Qi} {s s' : List (List Qi)} (h : netEq z z' s s' = true) : z = z' ∧ s = s' := by simpa [netEq] using h
theorem netEq_refl (z : List Qi) (s : List (List Qi)) : netEq z z s s = true := by simp [netEq]
theorem netEq_z {z z' : List Qi} {s s' : List (List Qi)} (h : z ≠ z') : netEq z z' s s' = false := by simp [netEq, h]
theorem netEq_s {z z' : List Qi} {s s' : List (List Qi)} (h : s ≠ s') : netEq z z' s s' = false := by simp [netEq, h]
theorem take_next {α : Type} [DecidableEq α] {l m : List α} {k : Nat} {d : α} (h1 : k < l.length) (h2 : k < m.length) : decide (l.take (k + 1) = m.take (k + 1)) = (decide (l.take k = m.take k) && decide (l.getD k d = m.getD k d)) := by
  have e1 : l.take (k + 1) = l.take k ++ [l.getD k d] := by rw [List.take_add_one]; simp [List.getD, h1]
  have e2 : m.take (k + 1) = m.take k ++ [m.getD k d] := by rw [List.take_add_one]; simp [List.getD, h2]
  rw [e1, e2, Bool.eq_iff_iff, Bool.and_eq_true, decide_eq_true_eq, decide_eq_true_eq, decide_eq_true_eq]
  constructor
  · intro h
    have := List.append_inj h (by simp; omega)
    exact ⟨this.1, by simpa using this.2⟩
  · rintro ⟨a, b⟩; rw [a, b]
def soFar {α : Type} [DecidableEq α] (E : Bool) (l m : List α) (k : Nat) : Bool := E && decide (l.take k = m.take k)
theorem soFar_zero {α : Type} [DecidableEq α] (E : Bool) (l m : List α) : E = soFar E l m 0 := by simp [soFar]
theorem soFar_next {α : Type} [DecidableEq α] {E : Bool} {l m : List α} {k : Nat} {d : α} (h1 : k < l.length) (h2 : E = true → k < m.length) : (soFar E l m k && decide (l.getD k d = m.getD k d)) = soFar E l m (k + 1) := by
  cases E with
  | false => rfl
  | true => unfold soFar; rw [take_next (d := d) h1 (h2 rfl)]; rfl
theorem soFar_fin {α : Type} [DecidableEq α] {E : Bool} {l m : List α} {n : Nat} (h1 : l.length = n) (h2 : E = true → m.length = n) : soFar E l m n = (E && decide (l = m)) := by
  cases E with
  | false => rfl
  | true => unfold soFar; rw [← h1, List.take_length, h1, ← h2 rfl, List.take_length]
theorem soFar_E {α : Type} [DecidableEq α] {E : Bool} {l m : List α} {k : Nat} (h : soFar E l m k = true) : E = true := by
  cases E with
  | false => cases h
  | true => rfl
end Go.Proofs.YtppibhcfaahgpaaGreat
namespace Go.Proofs.YtppibhcfaahgpaaGreat
open Go Go.RowKit
theorem meth_49_Same (v : Value) (w : World) : (method (Tryz.prog.types.size + Made.depth) 49 v "Same").run Tryz.prog w = .ok (27, v) w := by kernel_rfl
end Go.Proofs.YtppibhcfaahgpaaGreat
namespace Go.Proofs.YtppibhcfaahgpaaGreat
open Go Go.RowKit
set_option maxRecDepth 20000 in
theorem c_EqNum {l m : List Qi} {L : Nat} (hl : FitL l L) (hm : FitL m L) (hL : 1 ≤ L) (h1 : l.length ≤ 1000) (h2 : m.length ≤ 1000) : Fun Tryz.prog 120 [NumsT l, NumsT m, ClT Tryz.prog {x : Qi × Qi // FitC x.1 L ∧ FitC x.2 L} (fun x => [NumT x.1.1, NumT x.1.2]) (fun x => BoolT (decide (x.1.1 = x.1.2)))] (BoolT (decide (l = m))) := by
  refine Fun.intro Tryz.func120 rfl Tryz.ntmps120 rfl (fun cx => ?_)
  refine T_seq ?_
  refine T_region ?_
  refine R_op rfl rfl rfl (op_assign Has.c) ?_
  refine R_nil ?_
  refine T_seq ?_
  refine T_seq ?_
  refine T_region ?_
  refine R_op rfl rfl rfl (op_move (Has.t rfl)) ?_
  refine R_op rfl rfl rfl (op_len Tryz.runUnderlying30 (Has.t rfl) len_map) ?_
  refine R_op rfl rfl rfl (op_move (Has.t rfl)) ?_
  refine R_op rfl rfl rfl (op_len Tryz.runUnderlying30 (Has.t rfl) len_map) ?_
  refine R_op rfl rfl rfl (op_neqN (Has.t rfl) (Has.t rfl)) ?_
  refine R_nil ?_
  refine T_cond (Has.t rfl) (fun hb => ?_) (fun hb => ?_)
  · have hn : ¬ l = m := fun e => by rw [e] at hb; simp at hb
    refine T_seq ?_
    refine T_region ?_
    refine R_op rfl rfl rfl (op_assign Has.c) ?_
    refine R_nil ?_
    refine T_ret1 rfl (rv_to (rv_tmp rfl) ?_)
    exact (bool_of (decide_eq_false hn).symm)
  · have he : l.length = m.length := by simpa using hb
    refine T_skip ?_
    refine T_seq ?_
    refine T_seq ?_
    refine T_region ?_
    refine R_op rfl rfl rfl (op_move (Has.t rfl)) ?_
    refine R_op rfl rfl rfl (op_len Tryz.runUnderlying30 (Has.t rfl) len_map) ?_
    refine R_op rfl rfl rfl (op_move (Has.cN 0)) ?_
    refine R_nil ?_
    refine T_block ?_
    refine T_loop (fun (k : Nat) => k ≤ l.length ∧ ∀ i, i < k → gv l i = gv m i) (fun (k : Nat) => l.length - k) (fun (k : Nat) => [(0, NumsT l), (1, NumsT m), (2, ClT Tryz.prog {x : Qi × Qi // FitC x.1 L ∧ FitC x.2 L} (fun x => [NumT x.1.1, NumT x.1.2]) (fun x => BoolT (decide (x.1.1 = x.1.2)))), (15, NumsT l), (16, NT .i64 l.length), (17, NT .i64 k)]) (fun (k : Nat) => []) 0 ⟨Nat.zero_le _, fun i h => by omega⟩
      (Sub.cons rfl (Sub.cons rfl (Sub.cons rfl (Sub.cons rfl (Sub.cons rfl (Sub.cons rfl Sub.nil)))))) HSub.nil (fun k ⟨hk, hr⟩ => ?_)
    refine T_seq ?_
    refine T_region ?_
    refine R_op rfl rfl rfl (op_lssN (Has.t rfl) (Has.t rfl)) ?_
    refine R_nil ?_
    refine T_seq ?_
    refine T_cond (Has.t rfl) (fun hc => ?_) (fun hc => ?_)
    · simp only [decide_eq_true_eq] at hc
      refine T_skip ?_
      refine T_seq ?_
      refine T_block ?_
      refine T_seq ?_
      refine T_region ?_
      refine R_op rfl rfl rfl (op_move (Has.t rfl)) ?_
      refine R_op rfl rfl rfl (op_idx Tryz.runUnderlying30 Tryz.sizeOf49 (Has.t rfl) (Has.t rfl) rfl (map_get (getD_some (d := Qi.zero) (by omega)))) ?_
      refine R_op rfl rfl rfl (op_ld Tryz.isAgg49 Tryz.sizeOf49 (Has.t rfl)) ?_
      refine R_new rfl rfl rfl (new_alloc (Ts := [Is (.bool false), Is (.slice none 0 0), Is (.bool false), Is (.slice none 0 0), Is (.slice none 0 0)]) Tryz.zeroValue49 rfl (fun V => Cells.cons' ⟨rfl, trivial⟩ (Cells.cons' ⟨rfl, trivial⟩ (Cells.cons' ⟨rfl, trivial⟩ (Cells.cons' ⟨rfl, trivial⟩ (Cells.cons' ⟨rfl, trivial⟩ (Cells.nil))))))) (fun B8 => ?_)
      refine R_op rfl rfl rfl (op_assign (Has.t rfl)) ?_
      refine R_stA Tryz.sizeOf49 (Has.t rfl) (Has.t rfl) rfl (i := 0) rfl (Nat.le_of_ble_eq_true rfl) rfl rfl ?_
      refine R_nil ?_
      refine T_seq ?_
      refine T_region ?_
      refine R_op rfl rfl rfl (op_move (Has.t rfl)) ?_
      refine R_op rfl rfl rfl (op_move (Has.t rfl)) ?_
      refine R_op rfl rfl rfl (op_idx Tryz.runUnderlying30 Tryz.sizeOf49 (Has.t rfl) (Has.t rfl) rfl (map_get (getD_some (d := Qi.zero) (by omega)))) ?_
      refine R_op rfl rfl rfl (op_ld Tryz.isAgg49 Tryz.sizeOf49 (Has.t rfl)) ?_
      refine R_new rfl rfl rfl (new_alloc (Ts := [Is (.bool false), Is (.slice none 0 0), Is (.bool false), Is (.slice none 0 0), Is (.slice none 0 0)]) Tryz.zeroValue49 rfl (fun V => Cells.cons' ⟨rfl, trivial⟩ (Cells.cons' ⟨rfl, trivial⟩ (Cells.cons' ⟨rfl, trivial⟩ (Cells.cons' ⟨rfl, trivial⟩ (Cells.cons' ⟨rfl, trivial⟩ (Cells.nil))))))) (fun B9 => ?_)
      refine R_stA Tryz.sizeOf49 (Has.t rfl) (Has.t rfl) rfl (i := 1) rfl (Nat.le_of_ble_eq_true rfl) rfl rfl ?_
      refine R_nil ?_
      refine T_seq ?_
      refine T_region ?_
      refine R_op rfl rfl rfl (op_move (Has.t rfl)) ?_
      refine R_op rfl rfl rfl (op_ldBA Tryz.isAgg49 Tryz.sizeOf49 (Has.t rfl) (i := 0) rfl rfl rfl) ?_
      refine R_op rfl rfl rfl (op_ldBA Tryz.isAgg49 Tryz.sizeOf49 (Has.t rfl) (i := 1) rfl rfl rfl) ?_
      refine R_op rfl rfl rfl (op_callV (⟨(gv l k, gv m k), hl.get hL k, hm.get hL k⟩ : {x : Qi × Qi // FitC x.1 L ∧ FitC x.2 L}) (Has.t rfl) ⟨(Has.t rfl), (Has.t rfl), trivial⟩) ?_
      refine R_op rfl rfl rfl (op_not (Has.t rfl)) ?_
      refine R_nil ?_
      refine T_cond (Has.t rfl) (fun hd => ?_) (fun hd => ?_)
      · have hn : ¬ l = m := ne_gv (i := k) (by simpa using hd)
        refine T_seq ?_
        refine T_region ?_
        refine R_op rfl rfl rfl (op_assign Has.c) ?_
        refine R_nil ?_
        refine T_ret1 rfl (rv_to (rv_tmp rfl) ?_)
        exact (bool_of (decide_eq_false hn).symm)
      · have hq : gv l k = gv m k := by simpa using hd
        refine T_skip ?_
        refine T_blk ?_
        refine T_region ?_
        refine R_op rfl rfl rfl (op_addN (Has.t rfl) (Has.cN 1) (by show _ < 9223372036854775808; first | omega | (simp only [lim]; omega))) ?_
        refine R_op rfl rfl rfl (op_move (Has.t rfl)) ?_
        refine R_nil ?_
        refine T_keep [] rfl (by decide) ?_
        refine T_again (k + 1) ⟨hc, fun i h => by
            by_cases e : i = k
            · rw [e]; exact hq
            · exact hr i (by omega)⟩ (by omega) (Sub.cons rfl (Sub.cons rfl (Sub.cons rfl (Sub.cons rfl (Sub.cons rfl (Sub.cons rfl Sub.nil)))))) HSub.nil
    · simp only [decide_eq_false_iff_not] at hc
      refine T_exit rfl ?_
      refine T_seq ?_
      refine T_region ?_
      refine R_op rfl rfl rfl (op_assign Has.c) ?_
      refine R_nil ?_
      refine T_ret1 rfl (rv_to (rv_tmp rfl) ?_)
      exact (bool_of (decide_eq_true (eq_gv he (fun i h => hr i (by omega)))).symm)
set_option maxRecDepth 20000 in
theorem c_EqRow {l m : List (List Qi)} {L : Nat} (hl : FitM l L) (hm : FitM m L) (h3 : ∀ r, r ∈ l → r.length ≤ 1000) (h4 : ∀ r, r ∈ m → r.length ≤ 1000) (h1 : l.length ≤ 1000) (h2 : m.length ≤ 1000) : Fun Tryz.prog 118 [NumM l, NumM m, ClT Tryz.prog {x : List Qi × List Qi // (FitL x.1 L ∧ x.1.length ≤ 1000) ∧ FitL x.2 L ∧ x.2.length ≤ 1000} (fun x => [NumsT x.1.1, NumsT x.1.2]) (fun x => BoolT (decide (x.1.1 = x.1.2)))] (BoolT (decide (l = m))) := by
  refine Fun.intro Tryz.func118 rfl Tryz.ntmps118 rfl (fun cx => ?_)
  refine T_seq ?_
  refine T_region ?_
  refine R_op rfl rfl rfl (op_assign Has.c) ?_
  refine R_nil ?_
  refine T_seq ?_
  refine T_seq ?_
  refine T_region ?_
  refine R_op rfl rfl rfl (op_move (Has.t rfl)) ?_
  refine R_op rfl rfl rfl (op_len Tryz.runUnderlying31 (Has.t rfl) len_map) ?_
  refine R_op rfl rfl rfl (op_move (Has.t rfl)) ?_
  refine R_op rfl rfl rfl (op_len Tryz.runUnderlying31 (Has.t rfl) len_map) ?_
  refine R_op rfl rfl rfl (op_neqN (Has.t rfl) (Has.t rfl)) ?_
  refine R_nil ?_
  refine T_cond (Has.t rfl) (fun hb => ?_) (fun hb => ?_)
  · have hn : ¬ l = m := fun e => by rw [e] at hb; simp at hb
    refine T_seq ?_
    refine T_region ?_
    refine R_op rfl rfl rfl (op_assign Has.c) ?_
    refine R_nil ?_
    refine T_ret1 rfl (rv_to (rv_tmp rfl) ?_)
    exact (bool_of (decide_eq_false hn).symm)
  · have he : l.length = m.length := by simpa using hb
    refine T_skip ?_
    refine T_seq ?_
    refine T_seq ?_
    refine T_region ?_
    refine R_op rfl rfl rfl (op_move (Has.t rfl)) ?_
    refine R_op rfl rfl rfl (op_len Tryz.runUnderlying31 (Has.t rfl) len_map) ?_
    refine R_op rfl rfl rfl (op_move (Has.cN 0)) ?_
    refine R_nil ?_
    refine T_block ?_
    refine T_loop (fun (k : Nat) => k ≤ l.length ∧ ∀ i, i < k → l.getD i [] = m.getD i []) (fun (k : Nat) => l.length - k) (fun (k : Nat) => [(0, NumM l), (1, NumM m), (2, ClT Tryz.prog {x : List Qi × List Qi // (FitL x.1 L ∧ x.1.length ≤ 1000) ∧ FitL x.2 L ∧ x.2.length ≤ 1000} (fun x => [NumsT x.1.1, NumsT x.1.2]) (fun x => BoolT (decide (x.1.1 = x.1.2)))), (15, NumM l), (16, NT .i64 l.length), (17, NT .i64 k)]) (fun (k : Nat) => []) 0 ⟨Nat.zero_le _, fun i h => by omega⟩
      (Sub.cons rfl (Sub.cons rfl (Sub.cons rfl (Sub.cons rfl (Sub.cons rfl (Sub.cons rfl Sub.nil)))))) HSub.nil (fun k ⟨hk, hr⟩ => ?_)
    refine T_seq ?_
    refine T_region ?_
    refine R_op rfl rfl rfl (op_lssN (Has.t rfl) (Has.t rfl)) ?_
    refine R_nil ?_
    refine T_seq ?_
    refine T_cond (Has.t rfl) (fun hc => ?_) (fun hc => ?_)
    · simp only [decide_eq_true_eq] at hc
      refine T_skip ?_
      refine T_seq ?_
      refine T_block ?_
      refine T_seq ?_
      refine T_region ?_
      refine R_op rfl rfl rfl (op_move (Has.t rfl)) ?_
      refine R_op rfl rfl rfl (op_idx Tryz.runUnderlying31 Tryz.sizeOf30 (Has.t rfl) (Has.t rfl) rfl (map_get (getD_some (d := []) hc))) ?_
      refine R_op rfl rfl rfl (op_ld Tryz.isAgg30 Tryz.sizeOf30 (Has.t rfl)) ?_
      refine R_op rfl rfl rfl (op_assign (Has.t rfl)) ?_
      refine R_op rfl rfl rfl (op_assign (Has.t rfl)) ?_
      refine R_nil ?_
      refine T_seq ?_
      refine T_region ?_
      refine R_op rfl rfl rfl (op_move (Has.t rfl)) ?_
      refine R_op rfl rfl rfl (op_move (Has.t rfl)) ?_
      refine R_op rfl rfl rfl (op_idx Tryz.runUnderlying31 Tryz.sizeOf30 (Has.t rfl) (Has.t rfl) rfl (map_get (getD_some (d := []) (by omega)))) ?_
      refine R_op rfl rfl rfl (op_ld Tryz.isAgg30 Tryz.sizeOf30 (Has.t rfl)) ?_
      refine R_op rfl rfl rfl (op_assign (Has.t rfl)) ?_
      refine R_nil ?_
      refine T_seq ?_
      refine T_region ?_
      refine R_op rfl rfl rfl (op_move (Has.t rfl)) ?_
      refine R_op rfl rfl rfl (op_move (Has.t rfl)) ?_
      refine R_op rfl rfl rfl (op_move (Has.t rfl)) ?_
      refine R_op rfl rfl rfl (op_callV (⟨(l.getD k [], m.getD k []), ⟨hl.row k, by rw [getD_at hc]; exact h3 _ (List.getElem_mem hc)⟩, hm.row k, by rw [getD_at (by omega : k < m.length)]; exact h4 _ (List.getElem_mem _)⟩ : {x : List Qi × List Qi // (FitL x.1 L ∧ x.1.length ≤ 1000) ∧ FitL x.2 L ∧ x.2.length ≤ 1000}) (Has.t rfl) ⟨(Has.t rfl), (Has.t rfl), trivial⟩) ?_
      refine R_op rfl rfl rfl (op_not (Has.t rfl)) ?_
      refine R_nil ?_
      refine T_cond (Has.t rfl) (fun hd => ?_) (fun hd => ?_)
      · have hn : ¬ l = m := ne_rows (i := k) (by simpa using hd)
        refine T_seq ?_
        refine T_region ?_
        refine R_op rfl rfl rfl (op_assign Has.c) ?_
        refine R_nil ?_
        refine T_ret1 rfl (rv_to (rv_tmp rfl) ?_)
        exact (bool_of (decide_eq_false hn).symm)
      · have hq : l.getD k [] = m.getD k [] := by simpa using hd
        refine T_skip ?_
        refine T_blk ?_
        refine T_region ?_
        refine R_op rfl rfl rfl (op_addN (Has.t rfl) (Has.cN 1) (by show _ < 9223372036854775808; first | omega | (simp only [lim]; omega))) ?_
        refine R_op rfl rfl rfl (op_move (Has.t rfl)) ?_
        refine R_nil ?_
        refine T_again (k + 1) ⟨hc, fun i h => by
            by_cases e : i = k
            · rw [e]; exact hq
            · exact hr i (by omega)⟩ (by omega) (Sub.cons rfl (Sub.cons rfl (Sub.cons rfl (Sub.cons rfl (Sub.cons rfl (Sub.cons rfl Sub.nil)))))) HSub.nil
    · simp only [decide_eq_false_iff_not] at hc
      refine T_exit rfl ?_
      refine T_seq ?_
      refine T_region ?_
      refine R_op rfl rfl rfl (op_assign Has.c) ?_
      refine R_nil ?_
      refine T_ret1 rfl (rv_to (rv_tmp rfl) ?_)
      exact (bool_of (decide_eq_true (eq_rows he (fun i h => hr i (by omega)))).symm)
set_option maxRecDepth 20000 in
theorem c_netEq1 {x y : Qi} {L : Nat} [hx : FitC x L] [hy : FitC y L] (h : L ≤ 8796093022208) : Fun Tryz.prog 148 [NumT x, NumT y] (BoolT (decide (x = y))) := by
  refine Fun.intro Tryz.func148 rfl Tryz.ntmps148 rfl (fun cx => ?_)
  refine T_seq ?_
  refine T_region ?_
  refine R_new rfl rfl rfl (new_box (Has.t rfl)) (fun B2 => ?_)
  refine R_new rfl rfl rfl (new_box (Has.t rfl)) (fun B3 => ?_)
  refine R_op rfl rfl rfl (op_assign Has.c) ?_
  refine R_nil ?_
  refine T_seq ?_
  refine T_region ?_
  refine R_op rfl rfl rfl (op_ldBA Tryz.isAgg49 Tryz.sizeOf49 (Has.t rfl) (i := 0) rfl rfl rfl) ?_
  refine R_op rfl rfl rfl (op_iface mkif_49 (Has.t rfl)) ?_
  refine R_op rfl rfl rfl (op_ldBA Tryz.isAgg49 Tryz.sizeOf49 (Has.t rfl) (i := 1) rfl rfl rfl) ?_
  refine R_op rfl rfl rfl (op_invoke meth_49_Same Tryz.call27 (c_Same (by omega) (by omega)) (Has.t rfl) ⟨(Has.t rfl), trivial⟩) ?_
  refine R_op rfl rfl rfl (op_assign (Has.t rfl)) ?_
  refine R_nil ?_
  exact T_ret1 rfl (rv_tmp rfl)
set_option maxRecDepth 20000 in
theorem c_netEq2 {l m : List Qi} {L : Nat} (hl : FitL l L) (hm : FitL m L) (hL : 1 ≤ L) (h1 : l.length ≤ 1000) (h2 : m.length ≤ 1000) : Fun Tryz.prog 149 [NumsT l, NumsT m, PT (ClT Tryz.prog {x : Qi × Qi // FitC x.1 L ∧ FitC x.2 L} (fun x => [NumT x.1.1, NumT x.1.2]) (fun x => BoolT (decide (x.1.1 = x.1.2))))] (BoolT (decide (l = m))) := by
  refine Fun.intro Tryz.func149 rfl Tryz.ntmps149 rfl (fun cx => ?_)
  refine T_seq ?_
  refine T_region ?_
  refine R_op rfl rfl rfl (op_assign Has.c) ?_
  refine R_nil ?_
  refine T_seq ?_
  refine T_region ?_
  refine R_op rfl rfl rfl (op_move (Has.t rfl)) ?_
  refine R_op rfl rfl rfl (op_move (Has.t rfl)) ?_
  refine R_op rfl rfl rfl (op_ld Tryz.isAgg180 Tryz.sizeOf180 (Has.t rfl)) ?_
  refine R_op rfl rfl rfl (op_call Tryz.call120 (c_EqNum hl hm hL h1 h2) ⟨(Has.t rfl), (Has.t rfl), (Has.t rfl), trivial⟩) ?_
  refine R_op rfl rfl rfl (op_assign (Has.t rfl)) ?_
  refine R_nil ?_
  exact T_ret1 rfl (rv_tmp rfl)
set_option maxRecDepth 20000 in
theorem c_noiEq1 {x y : Qi} {L : Nat} [hx : FitC x L] [hy : FitC y L] (h : L ≤ 8796093022208) : Fun Tryz.prog 117 [NumT x, NumT y] (BoolT (decide (x = y))) := by
  refine Fun.intro Tryz.func117 rfl Tryz.ntmps117 rfl (fun cx => ?_)
  refine T_seq ?_
  refine T_region ?_
  refine R_new rfl rfl rfl (new_box (Has.t rfl)) (fun B2 => ?_)
  refine R_new rfl rfl rfl (new_box (Has.t rfl)) (fun B3 => ?_)
  refine R_op rfl rfl rfl (op_assign Has.c) ?_
  refine R_nil ?_
  refine T_seq ?_
  refine T_region ?_
  refine R_op rfl rfl rfl (op_ldBA Tryz.isAgg49 Tryz.sizeOf49 (Has.t rfl) (i := 0) rfl rfl rfl) ?_
  refine R_op rfl rfl rfl (op_iface mkif_49 (Has.t rfl)) ?_
  refine R_op rfl rfl rfl (op_ldBA Tryz.isAgg49 Tryz.sizeOf49 (Has.t rfl) (i := 1) rfl rfl rfl) ?_
  refine R_op rfl rfl rfl (op_invoke meth_49_Same Tryz.call27 (c_Same (by omega) (by omega)) (Has.t rfl) ⟨(Has.t rfl), trivial⟩) ?_
  refine R_op rfl rfl rfl (op_assign (Has.t rfl)) ?_
  refine R_nil ?_
  exact T_ret1 rfl (rv_tmp rfl)
set_option maxRecDepth 20000 in
theorem c_noiEq2 {l m : List Qi} {L : Nat} (hl : FitL l L) (hm : FitL m L) (hL : 1 ≤ L) (h1 : l.length ≤ 1000) (h2 : m.length ≤ 1000) : Fun Tryz.prog 119 [NumsT l, NumsT m, PT (ClT Tryz.prog {x : Qi × Qi // FitC x.1 L ∧ FitC x.2 L} (fun x => [NumT x.1.1, NumT x.1.2]) (fun x => BoolT (decide (x.1.1 = x.1.2))))] (BoolT (decide (l = m))) := by
  refine Fun.intro Tryz.func119 rfl Tryz.ntmps119 rfl (fun cx => ?_)
  refine T_seq ?_
  refine T_region ?_
  refine R_op rfl rfl rfl (op_assign Has.c) ?_
  refine R_nil ?_
  refine T_seq ?_
  refine T_region ?_
  refine R_op rfl rfl rfl (op_move (Has.t rfl)) ?_
  refine R_op rfl rfl rfl (op_move (Has.t rfl)) ?_
  refine R_op rfl rfl rfl (op_ld Tryz.isAgg180 Tryz.sizeOf180 (Has.t rfl)) ?_
  refine R_op rfl rfl rfl (op_call Tryz.call120 (c_EqNum hl hm hL h1 h2) ⟨(Has.t rfl), (Has.t rfl), (Has.t rfl), trivial⟩) ?_
  refine R_op rfl rfl rfl (op_assign (Has.t rfl)) ?_
  refine R_nil ?_
  exact T_ret1 rfl (rv_tmp rfl)
set_option maxRecDepth 20000 in
theorem c_netEqual {z z' : List Qi} {s s' : List (List Qi)} {L : Nat} (hz : FitL z L) (hz2 : FitL z' L) (hs : FitM s L) (hs2 : FitM s' L) (hL : 1 ≤ L) (h : L ≤ 8796093022208) (hsh : Shp s z.length z.length) (hsh2 : Shp s' z'.length z'.length) (hl : z.length ≤ 1000) (hl2 : z'.length ≤ 1000) : Fun Tryz.prog 73 [NetT z s, NetT z' s'] (BoolT (netEq z z' s s')) := by
  have e1 : ∀ r, r ∈ s → r.length ≤ 1000 := fun r hr => by rw [hsh.2 r hr]; exact hl
  have e2 : ∀ r, r ∈ s' → r.length ≤ 1000 := fun r hr => by rw [hsh2.2 r hr]; exact hl2
  have e3 : s.length ≤ 1000 := by rw [hsh.1]; exact hl
  have e4 : s'.length ≤ 1000 := by rw [hsh2.1]; exact hl2
  refine Fun.intro Tryz.func73 rfl Tryz.ntmps73 rfl (fun cx => ?_)
  refine T_seq ?_
  refine T_region ?_
  refine R_new rfl rfl rfl (new_box (Has.t rfl)) (fun B2 => ?_)
  refine R_new rfl rfl rfl (new_box (Has.t rfl)) (fun B3 => ?_)
  refine R_op rfl rfl rfl (op_assign Has.c) ?_
  refine R_nil ?_
  refine T_seq ?_
  refine T_region ?_
  refine R_new rfl rfl rfl (new_alloc (Ts := [Is (.nilFunc)]) Tryz.zeroValue180 rfl (fun V => Cells.cons' ⟨rfl, trivial⟩ (Cells.nil))) (fun B5 => ?_)
  refine R_st Tryz.sizeOf180 (Has.t rfl) (Has.fn Tryz.call148 (γ := {x : Qi × Qi // FitC x.1 L ∧ FitC x.2 L}) (Ts := fun x => [NumT x.1.1, NumT x.1.2]) (U := fun x => BoolT (decide (x.1.1 = x.1.2))) (fun x => haveI := x.2.1; haveI := x.2.2; c_netEq1 (L := L) h)) (i := 2) rfl (Nat.le_of_ble_eq_true rfl) rfl ?_
  refine R_nil ?_
  refine T_seq ?_
  refine T_freeze (i := 2) (tt := 5) rfl rfl frz_ptr1 ?_
  refine T_region ?_
  refine R_op rfl rfl rfl (op_clos (γ := {x : List Qi × List Qi // (FitL x.1 L ∧ x.1.length ≤ 1000) ∧ FitL x.2 L ∧ x.2.length ≤ 1000}) (Ts := fun x => [NumsT x.1.1, NumsT x.1.2]) (U := fun x => BoolT (decide (x.1.1 = x.1.2))) Tryz.call149 (fun x => c_netEq2 x.2.1.1 x.2.2.1 hL x.2.1.2 x.2.2.2) ⟨(Has.t rfl), trivial⟩) ?_
  refine R_op rfl rfl rfl (op_assign (Has.t rfl)) ?_
  refine R_nil ?_
  refine T_seq ?_
  refine T_region ?_
  refine R_op rfl rfl rfl (op_fldB fa_33_0 (Has.t rfl) rfl) ?_
  refine R_op rfl rfl rfl (op_ldB Tryz.isAgg30 Tryz.sizeOf30 (Has.t rfl) (i := 0) rfl rfl) ?_
  refine R_op rfl rfl rfl (op_fldB fa_33_0 (Has.t rfl) rfl) ?_
  refine R_op rfl rfl rfl (op_ldB Tryz.isAgg30 Tryz.sizeOf30 (Has.t rfl) (i := 1) rfl rfl) ?_
  refine R_op rfl rfl rfl (op_call Tryz.call120 (c_EqNum hz hz2 hL hl hl2) ⟨(Has.t rfl), (Has.t rfl), (Has.fn Tryz.call27 (γ := {x : Qi × Qi // FitC x.1 L ∧ FitC x.2 L}) (Ts := fun x => [NumT x.1.1, NumT x.1.2]) (U := fun x => BoolT (decide (x.1.1 = x.1.2))) (fun x => haveI := x.2.1; haveI := x.2.2; c_Same (L := L) (M := L) (by omega) (by omega))), trivial⟩) ?_
  refine R_op rfl rfl rfl (op_move (Has.t rfl)) ?_
  refine R_step rfl rfl (S_when rfl rfl (Has.t rfl) (fun h => op_fldB fa_33_1 (Has.t rfl) rfl)) ?_
  refine R_step rfl rfl (S_when rfl rfl (Has.t rfl) (fun h => op_ldB Tryz.isAgg31 Tryz.sizeOf31 (Has.w rfl h) (i := 0) rfl rfl)) ?_
  refine R_step rfl rfl (S_when rfl rfl (Has.t rfl) (fun h => op_fldB fa_33_1 (Has.t rfl) rfl)) ?_
  refine R_step rfl rfl (S_when rfl rfl (Has.t rfl) (fun h => op_ldB Tryz.isAgg31 Tryz.sizeOf31 (Has.w rfl h) (i := 1) rfl rfl)) ?_
  refine R_step rfl rfl (S_when rfl rfl (Has.t rfl) (fun h => op_move (Has.t rfl))) ?_
  refine R_step rfl rfl (S_when rfl rfl (Has.t rfl) (fun h => op_call Tryz.call118 (c_EqRow hs hs2 e1 e2 e3 e4) ⟨(Has.w rfl h), (Has.w rfl h), (Has.w rfl h), trivial⟩)) ?_
  refine R_op rfl rfl rfl (op_and (Has.t rfl) (fun h => (Has.w rfl h))) ?_
  refine R_op rfl rfl rfl (op_assign (Has.t rfl)) ?_
  refine R_nil ?_
  refine T_ret1 rfl (rv_to (rv_tmp rfl) ?_)
  exact (bool_of rfl)
set_option maxRecDepth 20000 in
theorem c_noiEqual {z z' : List Qi} {s s' c c' : List (List Qi)} {L : Nat} (hz : FitL z L) (hz2 : FitL z' L) (hs : FitM s L) (hs2 : FitM s' L) (hL : 1 ≤ L) (h : L ≤ 8796093022208) (hsh : Shp s z.length z.length) (hsh2 : Shp s' z'.length z'.length) (hl : z.length ≤ 1000) (hl2 : z'.length ≤ 1000) (hc : FitM c L) (hc2 : FitM c' L) (hch : Shp c z.length z.length) (hch2 : Shp c' z'.length z'.length) : Fun Tryz.prog 42 [NoisyT z s c, NoisyT z' s' c'] (BoolT (netEq z z' s s' && decide (c = c'))) := by
  have e1 : ∀ r, r ∈ c → r.length ≤ 1000 := fun r hr => by rw [hch.2 r hr]; exact hl
  have e2 : ∀ r, r ∈ c' → r.length ≤ 1000 := fun r hr => by rw [hch2.2 r hr]; exact hl2
  have e3 : c.length ≤ 1000 := by rw [hch.1]; exact hl
  have e4 : c'.length ≤ 1000 := by rw [hch2.1]; exact hl2
  refine Fun.intro Tryz.func42 rfl Tryz.ntmps42 rfl (fun cx => ?_)
  refine T_seq ?_
  refine T_region ?_
  refine R_new rfl rfl rfl (new_box (Has.t rfl)) (fun B2 => ?_)
  refine R_new rfl rfl rfl (new_box (Has.t rfl)) (fun B3 => ?_)
  refine R_op rfl rfl rfl (op_assign Has.c) ?_
  refine R_nil ?_
  refine T_seq ?_
  refine T_region ?_
  refine R_new rfl rfl rfl (new_alloc (Ts := [Is (.nilFunc)]) Tryz.zeroValue180 rfl (fun V => Cells.cons' ⟨rfl, trivial⟩ (Cells.nil))) (fun B5 => ?_)
  refine R_st Tryz.sizeOf180 (Has.t rfl) (Has.fn Tryz.call117 (γ := {x : Qi × Qi // FitC x.1 L ∧ FitC x.2 L}) (Ts := fun x => [NumT x.1.1, NumT x.1.2]) (U := fun x => BoolT (decide (x.1.1 = x.1.2))) (fun x => haveI := x.2.1; haveI := x.2.2; c_noiEq1 (L := L) h)) (i := 2) rfl (Nat.le_of_ble_eq_true rfl) rfl ?_
  refine R_nil ?_
  refine T_seq ?_
  refine T_freeze (i := 2) (tt := 5) rfl rfl frz_ptr1 ?_
  refine T_region ?_
  refine R_op rfl rfl rfl (op_fldB fa_35_0 (Has.t rfl) rfl) ?_
  refine R_op rfl rfl rfl (op_ldBA Tryz.isAgg33 Tryz.sizeOf33 (Has.t rfl) (i := 0) rfl rfl rfl) ?_
  refine R_op rfl rfl rfl (op_fldB fa_35_0 (Has.t rfl) rfl) ?_
  refine R_op rfl rfl rfl (op_ldBA Tryz.isAgg33 Tryz.sizeOf33 (Has.t rfl) (i := 1) rfl rfl rfl) ?_
  refine R_op rfl rfl rfl (op_call Tryz.call73 (c_netEqual hz hz2 hs hs2 hL h hsh hsh2 hl hl2) ⟨(Has.t rfl), (Has.t rfl), trivial⟩) ?_
  refine R_op rfl rfl rfl (op_move (Has.t rfl)) ?_
  refine R_step rfl rfl (S_when rfl rfl (Has.t rfl) (fun h => op_fldB fa_35_1 (Has.t rfl) rfl)) ?_
  refine R_step rfl rfl (S_when rfl rfl (Has.t rfl) (fun h => op_ldB Tryz.isAgg31 Tryz.sizeOf31 (Has.w rfl h) (i := 0) rfl rfl)) ?_
  refine R_step rfl rfl (S_when rfl rfl (Has.t rfl) (fun h => op_fldB fa_35_1 (Has.t rfl) rfl)) ?_
  refine R_step rfl rfl (S_when rfl rfl (Has.t rfl) (fun h => op_ldB Tryz.isAgg31 Tryz.sizeOf31 (Has.w rfl h) (i := 1) rfl rfl)) ?_
  refine R_step rfl rfl (S_when rfl rfl (Has.t rfl) (fun h => op_clos (γ := {x : List Qi × List Qi // (FitL x.1 L ∧ x.1.length ≤ 1000) ∧ FitL x.2 L ∧ x.2.length ≤ 1000}) (Ts := fun x => [NumsT x.1.1, NumsT x.1.2]) (U := fun x => BoolT (decide (x.1.1 = x.1.2))) Tryz.call119 (fun x => c_noiEq2 x.2.1.1 x.2.2.1 hL x.2.1.2 x.2.2.2) ⟨(Has.t rfl), trivial⟩)) ?_
  refine R_step rfl rfl (S_when rfl rfl (Has.t rfl) (fun h => op_call Tryz.call118 (c_EqRow hc hc2 e1 e2 e3 e4) ⟨(Has.w rfl h), (Has.w rfl h), (Has.w rfl h), trivial⟩)) ?_
  refine R_op rfl rfl rfl (op_and (Has.t rfl) (fun h => (Has.w rfl h))) ?_
  refine R_op rfl rfl rfl (op_assign (Has.t rfl)) ?_
  refine R_nil ?_
  exact T_ret1 rfl (rv_tmp rfl)
set_option maxRecDepth 20000 in
theorem c_rEqual {z z' : List Qi} {s s' : List (List Qi)} {L : Nat} (hz : FitL z L) (hz2 : FitL z' L) (hs : FitM s L) (hs2 : FitM s' L) (hL : 1 ≤ L) (h : L ≤ 8796093022208) (hsh : Shp s z.length z.length) (hsh2 : Shp s' z'.length z'.length) (hl : z.length ≤ 1000) (hl2 : z'.length ≤ 1000) : Fun Tryz.prog 39 [RNetT z s, RNetT z' s'] (BoolT (netEq z z' s s')) := by
  have hs1 := hsh.1
  have hs3 := hsh2.1
  refine Fun.intro Tryz.func39 rfl Tryz.ntmps39 rfl (fun cx => ?_)
  refine T_seq ?_
  refine T_region ?_
  refine R_new rfl rfl rfl (new_box (Has.t rfl)) (fun B2 => ?_)
  refine R_new rfl rfl rfl (new_box (Has.t rfl)) (fun B3 => ?_)
  refine R_op rfl rfl rfl (op_assign Has.c) ?_
  refine R_nil ?_
  refine T_seq ?_
  refine T_seq ?_
  refine T_region ?_
  refine R_op rfl rfl rfl (op_fldB fa_39_0 (Has.t rfl) rfl) ?_
  refine R_op rfl rfl rfl (op_ldB Tryz.isAgg36 Tryz.sizeOf36 (Has.t rfl) (i := 0) rfl rfl) ?_
  refine R_op rfl rfl rfl (op_len Tryz.runUnderlying36 (Has.t rfl) len_map) ?_
  refine R_op rfl rfl rfl (op_fldB fa_39_0 (Has.t rfl) rfl) ?_
  refine R_op rfl rfl rfl (op_ldB Tryz.isAgg36 Tryz.sizeOf36 (Has.t rfl) (i := 1) rfl rfl) ?_
  refine R_op rfl rfl rfl (op_len Tryz.runUnderlying36 (Has.t rfl) len_map) ?_
  refine R_op rfl rfl rfl (op_neqN (Has.t rfl) (Has.t rfl)) ?_
  refine R_nil ?_
  refine T_cond (Has.t rfl) (fun hb => ?_) (fun hb => ?_)
  · have hn : ¬ z = z' := fun e => by rw [e] at hb; simp at hb
    refine T_seq ?_
    refine T_region ?_
    refine R_op rfl rfl rfl (op_assign Has.c) ?_
    refine R_nil ?_
    refine T_ret1 rfl (rv_to (rv_tmp rfl) ?_)
    exact (bool_of (netEq_z hn).symm)
  · have he : z.length = z'.length := by simpa using hb
    refine T_skip ?_
    refine T_seq ?_
    refine T_seq ?_
    refine T_region ?_
    refine R_op rfl rfl rfl (op_assign (Has.cN 0)) ?_
    refine R_nil ?_
    refine T_block ?_
    refine T_loop (fun (i : Nat) => (i ≤ z.length ∧ ∀ a, a < i → gv z a = gv z' a) ∧ ∀ a b, a < i → b < z.length → gm s a b = gm s' a b) (fun (i : Nat) => z.length - i) (fun (i : Nat) => [(2, PtrB B2 0), (3, PtrB B3 0), (5, NT .i64 i)]) (fun (i : Nat) => [box B2 39 [QsT z, QM s], box B3 39 [QsT z', QM s']]) 0 ⟨⟨Nat.zero_le _, fun a h => by omega⟩, fun a b h => by omega⟩
      (Sub.cons rfl (Sub.cons rfl (Sub.cons rfl Sub.nil))) (HSub.refl _) (fun i ⟨⟨hi, hz3⟩, hs4⟩ => ?_)
    refine T_seq ?_
    refine T_seq ?_
    refine T_region ?_
    refine R_op rfl rfl rfl (op_move (Has.t rfl)) ?_
    refine R_op rfl rfl rfl (op_fldB fa_39_0 (Has.t rfl) rfl) ?_
    refine R_op rfl rfl rfl (op_ldB Tryz.isAgg36 Tryz.sizeOf36 (Has.t rfl) (i := 0) rfl rfl) ?_
    refine R_op rfl rfl rfl (op_len Tryz.runUnderlying36 (Has.t rfl) len_map) ?_
    refine R_op rfl rfl rfl (op_lssN (Has.t rfl) (Has.t rfl)) ?_
    refine R_nil ?_
    refine T_cond (Has.t rfl) (fun hc => ?_) (fun hc => ?_)
    · simp only [decide_eq_true_eq] at hc
      haveI f1 : FitC (gv z i) L := hz.get hL i
      haveI f2 : FitC (gv z' i) L := hz2.get hL i
      refine T_skip ?_
      refine T_seq ?_
      refine T_block ?_
      refine T_seq ?_
      refine T_seq ?_
      refine D_start (m := 10) ?_
      refine D_step (Ei := [(2, _)]) rfl rfl (Srcs.cons (Src.pre rfl rfl) Srcs.nil) (S_plain rfl (op_fldB fa_39_0 (Has.t rfl) rfl)) ?_
      refine D_step (Ei := [(21, _)]) rfl rfl (Srcs.cons (Src.op 0 rfl rfl) Srcs.nil) (S_plain rfl (op_ldB Tryz.isAgg36 Tryz.sizeOf36 (Has.t rfl) (i := 0) rfl rfl)) ?_
      refine D_step (Ei := [(5, _)]) rfl rfl (Srcs.cons (Src.pre rfl rfl) Srcs.nil) (S_plain rfl (op_move (Has.t rfl))) ?_
      refine D_step (Ei := [(22, _), (23, _)]) rfl rfl (Srcs.cons (Src.op 1 rfl rfl) (Srcs.cons (Src.op 2 rfl rfl) Srcs.nil)) (S_plain rfl (op_idx Tryz.runUnderlying36 Tryz.sizeOf57 (Has.t rfl) (Has.t rfl) rfl (map_get (getD_some (d := Qi.zero) (by omega))))) ?_
      refine D_step (Ei := [(24, _)]) rfl rfl (Srcs.cons (Src.op 3 rfl rfl) Srcs.nil) (S_plain rfl (op_ld Tryz.isAgg57 Tryz.sizeOf57 (Has.t rfl))) ?_
      refine D_step (Ei := [(3, _)]) rfl rfl (Srcs.cons (Src.pre rfl rfl) Srcs.nil) (S_plain rfl (op_fldB fa_39_0 (Has.t rfl) rfl)) ?_
      refine D_step (Ei := [(26, _)]) rfl rfl (Srcs.cons (Src.op 5 rfl rfl) Srcs.nil) (S_plain rfl (op_ldB Tryz.isAgg36 Tryz.sizeOf36 (Has.t rfl) (i := 1) rfl rfl)) ?_
      refine D_step (Ei := [(5, _)]) rfl rfl (Srcs.cons (Src.pre rfl rfl) Srcs.nil) (S_plain rfl (op_move (Has.t rfl))) ?_
      refine D_step (Ei := [(27, _), (28, _)]) rfl rfl (Srcs.cons (Src.op 6 rfl rfl) (Srcs.cons (Src.op 7 rfl rfl) Srcs.nil)) (S_plain rfl (op_idx Tryz.runUnderlying36 Tryz.sizeOf57 (Has.t rfl) (Has.t rfl) rfl (map_get (getD_some (d := Qi.zero) (by omega))))) ?_
      refine D_step (Ei := [(29, _)]) rfl rfl (Srcs.cons (Src.op 8 rfl rfl) Srcs.nil) (S_plain rfl (op_ld Tryz.isAgg57 Tryz.sizeOf57 (Has.t rfl))) ?_
      refine D_done mixed rfl (by kernel_rfl) (F_val (F_val (F_val (F_val (F_val (F_val (F_val (F_val (F_val (F_val (F_nil ?_)))))))))))
      refine R_op rfl rfl rfl (op_call Tryz.call40 (c_rSame (x := gv z i) (y := gv z' i) (L := L) (M := L) (by omega) (by omega)) ⟨(Has.t rfl), (Has.t rfl), trivial⟩) ?_
      refine R_op rfl rfl rfl (op_not (Has.t rfl)) ?_
      refine R_nil ?_
      refine T_cond (Has.t rfl) (fun hd => ?_) (fun hd => ?_)
      · have hn : ¬ z = z' := ne_gv (i := i) (by simpa using hd)
        refine T_seq ?_
        refine T_region ?_
        refine R_op rfl rfl rfl (op_assign Has.c) ?_
        refine R_nil ?_
        refine T_ret1 rfl (rv_to (rv_tmp rfl) ?_)
        exact (bool_of (netEq_z hn).symm)
      · have hq : gv z i = gv z' i := by simpa using hd
        have hr1 := hsh.row hc
        have hr2 := hsh2.row (i := i) (by omega)
        refine T_skip ?_
        refine T_seq ?_
        refine T_region ?_
        refine R_op rfl rfl rfl (op_assign (Has.cN 0)) ?_
        refine R_nil ?_
        refine T_block ?_
        refine T_loop (fun (j : Nat) => j ≤ z.length ∧ ∀ b, b < j → gm s i b = gm s' i b) (fun (j : Nat) => z.length - j) (fun (j : Nat) => [(2, PtrB B2 0), (3, PtrB B3 0), (5, NT .i64 i), (6, NT .i64 j)]) (fun (j : Nat) => [box B2 39 [QsT z, QM s], box B3 39 [QsT z', QM s']]) 0 ⟨Nat.zero_le _, fun a h => by omega⟩
          (Sub.cons rfl (Sub.cons rfl (Sub.cons rfl (Sub.cons rfl Sub.nil)))) (HSub.refl _) (fun j ⟨hj, hr⟩ => ?_)
        refine T_seq ?_
        refine T_seq ?_
        refine T_region ?_
        refine R_op rfl rfl rfl (op_move (Has.t rfl)) ?_
        refine R_op rfl rfl rfl (op_fldB fa_39_0 (Has.t rfl) rfl) ?_
        refine R_op rfl rfl rfl (op_ldB Tryz.isAgg36 Tryz.sizeOf36 (Has.t rfl) (i := 0) rfl rfl) ?_
        refine R_op rfl rfl rfl (op_len Tryz.runUnderlying36 (Has.t rfl) len_map) ?_
        refine R_op rfl rfl rfl (op_lssN (Has.t rfl) (Has.t rfl)) ?_
        refine R_nil ?_
        refine T_cond (Has.t rfl) (fun hf => ?_) (fun hf => ?_)
        · simp only [decide_eq_true_eq] at hf
          haveI f3 : FitC (gm s i j) L := hs.get hL i j
          haveI f4 : FitC (gm s' i j) L := hs2.get hL i j
          refine T_skip ?_
          refine T_seq ?_
          refine T_block ?_
          refine T_seq ?_
          refine D_start (m := 16) ?_
          refine D_step (Ei := [(2, _)]) rfl rfl (Srcs.cons (Src.pre rfl rfl) Srcs.nil) (S_plain rfl (op_fldB fa_39_1 (Has.t rfl) rfl)) ?_
          refine D_step (Ei := [(40, _)]) rfl rfl (Srcs.cons (Src.op 0 rfl rfl) Srcs.nil) (S_plain rfl (op_ldB Tryz.isAgg37 Tryz.sizeOf37 (Has.t rfl) (i := 0) rfl rfl)) ?_
          refine D_step (Ei := [(5, _)]) rfl rfl (Srcs.cons (Src.pre rfl rfl) Srcs.nil) (S_plain rfl (op_move (Has.t rfl))) ?_
          refine D_step (Ei := [(41, _), (42, _)]) rfl rfl (Srcs.cons (Src.op 1 rfl rfl) (Srcs.cons (Src.op 2 rfl rfl) Srcs.nil)) (S_plain rfl (op_idx Tryz.runUnderlying37 Tryz.sizeOf36 (Has.t rfl) (Has.t rfl) rfl (map_get (getD_some (d := []) (by omega))))) ?_
          refine D_step (Ei := [(43, _)]) rfl rfl (Srcs.cons (Src.op 3 rfl rfl) Srcs.nil) (S_plain rfl (op_ld Tryz.isAgg36 Tryz.sizeOf36 (Has.t rfl))) ?_
          refine D_step (Ei := [(6, _)]) rfl rfl (Srcs.cons (Src.pre rfl rfl) Srcs.nil) (S_plain rfl (op_move (Has.t rfl))) ?_
          refine D_step (Ei := [(44, _), (45, _)]) rfl rfl (Srcs.cons (Src.op 4 rfl rfl) (Srcs.cons (Src.op 5 rfl rfl) Srcs.nil)) (S_plain rfl (op_idx Tryz.runUnderlying36 Tryz.sizeOf57 (Has.t rfl) (Has.t rfl) rfl (map_get (getD_some (d := Qi.zero) (by omega))))) ?_
          refine D_step (Ei := [(46, _)]) rfl rfl (Srcs.cons (Src.op 6 rfl rfl) Srcs.nil) (S_plain rfl (op_ld Tryz.isAgg57 Tryz.sizeOf57 (Has.t rfl))) ?_
          refine D_step (Ei := [(3, _)]) rfl rfl (Srcs.cons (Src.pre rfl rfl) Srcs.nil) (S_plain rfl (op_fldB fa_39_1 (Has.t rfl) rfl)) ?_
          refine D_step (Ei := [(48, _)]) rfl rfl (Srcs.cons (Src.op 8 rfl rfl) Srcs.nil) (S_plain rfl (op_ldB Tryz.isAgg37 Tryz.sizeOf37 (Has.t rfl) (i := 1) rfl rfl)) ?_
          refine D_step (Ei := [(5, _)]) rfl rfl (Srcs.cons (Src.pre rfl rfl) Srcs.nil) (S_plain rfl (op_move (Has.t rfl))) ?_
          refine D_step (Ei := [(49, _), (50, _)]) rfl rfl (Srcs.cons (Src.op 9 rfl rfl) (Srcs.cons (Src.op 10 rfl rfl) Srcs.nil)) (S_plain rfl (op_idx Tryz.runUnderlying37 Tryz.sizeOf36 (Has.t rfl) (Has.t rfl) rfl (map_get (getD_some (d := []) (by omega))))) ?_
          refine D_step (Ei := [(51, _)]) rfl rfl (Srcs.cons (Src.op 11 rfl rfl) Srcs.nil) (S_plain rfl (op_ld Tryz.isAgg36 Tryz.sizeOf36 (Has.t rfl))) ?_
          refine D_step (Ei := [(6, _)]) rfl rfl (Srcs.cons (Src.pre rfl rfl) Srcs.nil) (S_plain rfl (op_move (Has.t rfl))) ?_
          refine D_step (Ei := [(52, _), (53, _)]) rfl rfl (Srcs.cons (Src.op 12 rfl rfl) (Srcs.cons (Src.op 13 rfl rfl) Srcs.nil)) (S_plain rfl (op_idx Tryz.runUnderlying36 Tryz.sizeOf57 (Has.t rfl) (Has.t rfl) rfl (map_get (getD_some (d := Qi.zero) (by omega))))) ?_
          refine D_step (Ei := [(54, _)]) rfl rfl (Srcs.cons (Src.op 14 rfl rfl) Srcs.nil) (S_plain rfl (op_ld Tryz.isAgg57 Tryz.sizeOf57 (Has.t rfl))) ?_
          refine D_done mixed rfl (by kernel_rfl) (F_val (F_val (F_val (F_val (F_val (F_val (F_val (F_val (F_val (F_val (F_val (F_val (F_val (F_val (F_val (F_val (F_nil ?_)))))))))))))))))
          refine R_op rfl rfl rfl (op_call Tryz.call40 (c_rSame (x := gm s i j) (y := gm s' i j) (L := L) (M := L) (by omega) (by omega)) ⟨(Has.t rfl), (Has.t rfl), trivial⟩) ?_
          refine R_op rfl rfl rfl (op_not (Has.t rfl)) ?_
          refine R_nil ?_
          refine T_cond (Has.t rfl) (fun hg => ?_) (fun hg => ?_)
          · have hn : ¬ s = s' := ne_gm (i := i) (j := j) (by simpa using hg)
            refine T_seq ?_
            refine T_region ?_
            refine R_op rfl rfl rfl (op_assign Has.c) ?_
            refine R_nil ?_
            refine T_ret1 rfl (rv_to (rv_tmp rfl) ?_)
            exact (bool_of (netEq_s hn).symm)
          · have hq2 : gm s i j = gm s' i j := by simpa using hg
            refine T_skip ?_
            refine T_blk ?_
            refine T_region ?_
            refine R_op rfl rfl rfl (op_move (Has.t rfl)) ?_
            refine R_op rfl rfl rfl (op_addN (Has.t rfl) (Has.cN 1) (by show _ < 9223372036854775808; first | omega | (simp only [lim]; omega))) ?_
            refine R_op rfl rfl rfl (op_assign (Has.t rfl)) ?_
            refine R_nil ?_
            refine T_again (j + 1) ⟨hf, fun b h => by
                by_cases e : b = j
                · rw [e]; exact hq2
                · exact hr b (by omega)⟩ (by omega) (Sub.cons rfl (Sub.cons rfl (Sub.cons rfl (Sub.cons rfl Sub.nil)))) (HSub.refl _)
        · simp only [decide_eq_false_iff_not] at hf
          refine T_exit rfl ?_
          refine T_blk ?_
          refine T_region ?_
          refine R_op rfl rfl rfl (op_move (Has.t rfl)) ?_
          refine R_op rfl rfl rfl (op_addN (Has.t rfl) (Has.cN 1) (by show _ < 9223372036854775808; first | omega | (simp only [lim]; omega))) ?_
          refine R_op rfl rfl rfl (op_assign (Has.t rfl)) ?_
          refine R_nil ?_
          refine T_again (i + 1) ⟨⟨hc, fun a h => by
              by_cases e : a = i
              · rw [e]; exact hq
              · exact hz3 a (by omega)⟩, fun a b h h3 => by
              by_cases e : a = i
              · rw [e]; exact hr b (by omega)
              · exact hs4 a b (by omega) h3⟩ (by omega) (Sub.cons rfl (Sub.cons rfl (Sub.cons rfl Sub.nil))) (HSub.refl _)
    · simp only [decide_eq_false_iff_not] at hc
      have e1 : z = z' := eq_gv he fun i h => hz3 i (by omega)
      have e2 : s = s' := eq_gm hsh (by rw [he]; exact hsh2) fun i j h k => hs4 i j (by omega) k
      refine T_exit rfl ?_
      refine T_seq ?_
      refine T_region ?_
      refine R_op rfl rfl rfl (op_assign Has.c) ?_
      refine R_nil ?_
      refine T_ret1 rfl (rv_to (rv_tmp rfl) ?_)
      exact (bool_of (by rw [e1, e2]; exact (netEq_refl _ _).symm))
set_option maxRecDepth 20000 in
theorem c_rHas {z : List Qi} {s : List (List Qi)} {i : Int} : Fun Tryz.prog 38 [RNetT z s, IntT .i64 i] (BoolT (decide (1 ≤ i ∧ i ≤ z.length))) := by
  refine Fun.intro Tryz.func38 rfl Tryz.ntmps38 rfl (fun cx => ?_)
  refine T_seq ?_
  refine T_region ?_
  refine R_new rfl rfl rfl (new_box (Has.t rfl)) (fun B2 => ?_)
  refine R_op rfl rfl rfl (op_assign Has.c) ?_
  refine R_nil ?_
  refine T_seq ?_
  refine T_region ?_
  refine R_op rfl rfl rfl (op_move (Has.t rfl)) ?_
  refine R_op rfl rfl rfl (op_geq (Has.t rfl) Has.c) ?_
  refine R_op rfl rfl rfl (op_move (Has.t rfl)) ?_
  refine R_step rfl rfl (S_when rfl rfl (Has.t rfl) (fun h => op_move (Has.t rfl))) ?_
  refine R_step rfl rfl (S_when rfl rfl (Has.t rfl) (fun h => op_fldB fa_39_0 (Has.t rfl) rfl)) ?_
  refine R_step rfl rfl (S_when rfl rfl (Has.t rfl) (fun h => op_ldB Tryz.isAgg36 Tryz.sizeOf36 (Has.w rfl h) (i := 0) rfl rfl)) ?_
  refine R_step rfl rfl (S_when rfl rfl (Has.t rfl) (fun h => op_len Tryz.runUnderlying36 (Has.w rfl h) len_map)) ?_
  refine R_step rfl rfl (S_when rfl rfl (Has.t rfl) (fun h => op_leq (Has.w rfl h) (Has.w rfl h))) ?_
  refine R_op rfl rfl rfl (op_and (Has.t rfl) (fun h => (Has.w rfl h))) ?_
  refine R_op rfl rfl rfl (op_assign (Has.t rfl)) ?_
  refine R_nil ?_
  refine T_ret1 rfl (rv_to (rv_tmp rfl) ?_)
  exact (bool_of (by rw [Bool.eq_iff_iff]; simp))
end Go.Proofs.YtppibhcfaahgpaaGreat
