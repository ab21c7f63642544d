/- What functions of the program compute, proved by walks over their code, and the plain mathematics of it; a part of the proof in the last text. -/
import Derived.Test.YtppibhcfaahgpaaGreatP04
set_option linter.unusedVariables false
set_option linter.unusedSimpArgs false
namespace Go.Proofs.YtppibhcfaahgpaaGreat
open Go Go.RowKit
set_option maxRecDepth 20000 in
theorem c_Mul64 {n : Nat} (h : n < 4294967296) : Fun Tryz.prog 234 [NT .u64 1, NT .u64 n] (TupT [NT .u64 0, NT .u64 n]) := by
  refine Fun.intro Tryz.func234 rfl Tryz.ntmps234 rfl (fun cx => ?_)
  refine T_seq ?_
  refine T_region ?_
  refine R_op rfl rfl rfl (op_assign (Has.cN 0)) ?_
  refine R_op rfl rfl rfl (op_assign (Has.cN 0)) ?_
  refine R_nil ?_
  refine T_seq ?_
  refine T_region ?_
  refine R_op rfl rfl rfl (op_move (Has.t rfl)) ?_
  refine R_op rfl rfl rfl (OpTy.nat (op_andN rfl (Has.t rfl) (Has.cN 4294967295) (by show _ < 18446744073709551616; first | omega | (simp only [lim]; omega)) (by show _ < 18446744073709551616; first | omega | (simp only [lim]; omega))) (show (1 : Nat) &&& 4294967295 = 1 by decide)) ?_
  refine R_op rfl rfl rfl (op_assign (Has.t rfl)) ?_
  refine R_nil ?_
  refine T_seq ?_
  refine T_region ?_
  refine R_op rfl rfl rfl (op_move (Has.t rfl)) ?_
  refine R_op rfl rfl rfl (OpTy.nat (op_shrN (Has.t rfl) (Has.cN 32) (by decide)) (show (1 : Nat) / 2 ^ 32 = 0 by decide)) ?_
  refine R_op rfl rfl rfl (op_assign (Has.t rfl)) ?_
  refine R_nil ?_
  refine T_seq ?_
  refine T_region ?_
  refine R_op rfl rfl rfl (op_move (Has.t rfl)) ?_
  refine R_op rfl rfl rfl (OpTy.nat (op_andN rfl (Has.t rfl) (Has.cN 4294967295) (by show _ < 18446744073709551616; first | omega | (simp only [lim]; omega)) (by show _ < 18446744073709551616; first | omega | (simp only [lim]; omega))) (show n &&& 4294967295 = n from (Nat.and_two_pow_sub_one_eq_mod n 32).trans (Nat.mod_eq_of_lt h))) ?_
  refine R_op rfl rfl rfl (op_assign (Has.t rfl)) ?_
  refine R_nil ?_
  refine T_seq ?_
  refine T_region ?_
  refine R_op rfl rfl rfl (op_move (Has.t rfl)) ?_
  refine R_op rfl rfl rfl (OpTy.nat (op_shrN (Has.t rfl) (Has.cN 32) (by decide)) (show n / 2 ^ 32 = 0 from Nat.div_eq_of_lt h)) ?_
  refine R_op rfl rfl rfl (op_assign (Has.t rfl)) ?_
  refine R_nil ?_
  refine T_seq ?_
  refine T_region ?_
  refine R_op rfl rfl rfl (op_move (Has.t rfl)) ?_
  refine R_op rfl rfl rfl (op_move (Has.t rfl)) ?_
  refine R_op rfl rfl rfl (OpTy.nat (op_mulN (Has.t rfl) (Has.t rfl) (by show _ < 18446744073709551616; first | omega | (simp only [lim]; omega))) (Nat.one_mul n)) ?_
  refine R_op rfl rfl rfl (op_assign (Has.t rfl)) ?_
  refine R_nil ?_
  refine T_seq ?_
  refine T_region ?_
  refine R_op rfl rfl rfl (op_move (Has.t rfl)) ?_
  refine R_op rfl rfl rfl (op_move (Has.t rfl)) ?_
  refine R_op rfl rfl rfl (OpTy.nat (op_mulN (Has.t rfl) (Has.t rfl) (by show _ < 18446744073709551616; first | omega | (simp only [lim]; omega))) (Nat.zero_mul n)) ?_
  refine R_op rfl rfl rfl (op_move (Has.t rfl)) ?_
  refine R_op rfl rfl rfl (OpTy.nat (op_shrN (Has.t rfl) (Has.cN 32) (by decide)) (show n / 2 ^ 32 = 0 from Nat.div_eq_of_lt h)) ?_
  refine R_op rfl rfl rfl (op_addN (Has.t rfl) (Has.t rfl) (by show _ < 18446744073709551616; first | omega | (simp only [lim]; omega))) ?_
  refine R_op rfl rfl rfl (op_assign (Has.t rfl)) ?_
  refine R_nil ?_
  refine T_seq ?_
  refine T_region ?_
  refine R_op rfl rfl rfl (op_move (Has.t rfl)) ?_
  refine R_op rfl rfl rfl (OpTy.nat (op_andN rfl (Has.t rfl) (Has.cN 4294967295) (by show _ < 18446744073709551616; first | omega | (simp only [lim]; omega)) (by show _ < 18446744073709551616; first | omega | (simp only [lim]; omega))) (show (0 + 0 : Nat) &&& 4294967295 = 0 by decide)) ?_
  refine R_op rfl rfl rfl (op_assign (Has.t rfl)) ?_
  refine R_nil ?_
  refine T_seq ?_
  refine T_region ?_
  refine R_op rfl rfl rfl (op_move (Has.t rfl)) ?_
  refine R_op rfl rfl rfl (OpTy.nat (op_shrN (Has.t rfl) (Has.cN 32) (by decide)) (show (0 + 0 : Nat) / 2 ^ 32 = 0 by decide)) ?_
  refine R_op rfl rfl rfl (op_assign (Has.t rfl)) ?_
  refine R_nil ?_
  refine T_seq ?_
  refine T_region ?_
  refine R_op rfl rfl rfl (op_move (Has.t rfl)) ?_
  refine R_op rfl rfl rfl (op_move (Has.t rfl)) ?_
  refine R_op rfl rfl rfl (op_move (Has.t rfl)) ?_
  refine R_op rfl rfl rfl (OpTy.nat (op_mulN (Has.t rfl) (Has.t rfl) (by show _ < 18446744073709551616; first | omega | (simp only [lim]; omega))) (show (1 * 0 : Nat) = 0 by decide)) ?_
  refine R_op rfl rfl rfl (op_addN (Has.t rfl) (Has.t rfl) (by show _ < 18446744073709551616; first | omega | (simp only [lim]; omega))) ?_
  refine R_op rfl rfl rfl (op_assign (Has.t rfl)) ?_
  refine R_nil ?_
  refine T_seq ?_
  refine T_region ?_
  refine R_op rfl rfl rfl (op_move (Has.t rfl)) ?_
  refine R_op rfl rfl rfl (op_move (Has.t rfl)) ?_
  refine R_op rfl rfl rfl (OpTy.nat (op_mulN (Has.t rfl) (Has.t rfl) (by show _ < 18446744073709551616; first | omega | (simp only [lim]; omega))) (show (0 * 0 : Nat) = 0 by decide)) ?_
  refine R_op rfl rfl rfl (op_move (Has.t rfl)) ?_
  refine R_op rfl rfl rfl (op_addN (Has.t rfl) (Has.t rfl) (by show _ < 18446744073709551616; first | omega | (simp only [lim]; omega))) ?_
  refine R_op rfl rfl rfl (op_move (Has.t rfl)) ?_
  refine R_op rfl rfl rfl (OpTy.nat (op_shrN (Has.t rfl) (Has.cN 32) (by decide)) (show (0 + 0 : Nat) / 2 ^ 32 = 0 by decide)) ?_
  refine R_op rfl rfl rfl (op_addN (Has.t rfl) (Has.t rfl) (by show _ < 18446744073709551616; first | omega | (simp only [lim]; omega))) ?_
  refine R_op rfl rfl rfl (op_assign (Has.t rfl)) ?_
  refine R_nil ?_
  refine T_seq ?_
  refine T_region ?_
  refine R_op rfl rfl rfl (op_move (Has.t rfl)) ?_
  refine R_op rfl rfl rfl (op_move (Has.t rfl)) ?_
  refine R_op rfl rfl rfl (OpTy.nat (op_mulN (Has.t rfl) (Has.t rfl) (by show _ < 18446744073709551616; first | omega | (simp only [lim]; omega))) (Nat.one_mul n)) ?_
  refine R_op rfl rfl rfl (op_assign (Has.t rfl)) ?_
  refine R_nil ?_
  refine T_ret2 rfl (rv_to (rv_tmp rfl) ?_) (rv_tmp rfl)
  exact (nt_of (by decide))
set_option maxRecDepth 20000 in
theorem c_bMul {n : Nat} (h : n < 4294967296) : Fun Tryz.prog 209 [NT .u64 1, NT .u64 n] (TupT [NT .u64 0, NT .u64 n]) := by
  refine Fun.intro Tryz.func209 rfl Tryz.ntmps209 rfl (fun cx => ?_)
  refine T_seq ?_
  refine T_region ?_
  refine R_op rfl rfl rfl (op_assign (Has.cN 0)) ?_
  refine R_op rfl rfl rfl (op_assign (Has.cN 0)) ?_
  refine R_nil ?_
  refine T_seq ?_
  refine T_cond Has.c (fun hf => ?_) (fun hf => ?_)
  · exact absurd hf (by decide)
  · refine T_skip ?_
    refine T_seq ?_
    refine T_region ?_
    refine R_op rfl rfl rfl (op_move (Has.t rfl)) ?_
    refine R_op rfl rfl rfl (op_move (Has.t rfl)) ?_
    refine R_op rfl rfl rfl (op_call Tryz.call234 (c_Mul64 h) ⟨(Has.t rfl), (Has.t rfl), trivial⟩) ?_
    refine R_op rfl rfl rfl (op_move (Has.t rfl)) ?_
    refine R_op rfl rfl rfl (op_extract (Has.t rfl) rfl) ?_
    refine R_op rfl rfl rfl (op_extract (Has.t rfl) rfl) ?_
    refine R_op rfl rfl rfl (op_assign (Has.t rfl)) ?_
    refine R_op rfl rfl rfl (op_assign (Has.t rfl)) ?_
    refine R_nil ?_
    refine T_seq ?_
    refine T_region ?_
    refine R_op rfl rfl rfl (op_move (Has.t rfl)) ?_
    refine R_op rfl rfl rfl (op_move (Has.t rfl)) ?_
    refine R_op rfl rfl rfl (op_assign (Has.t rfl)) ?_
    refine R_op rfl rfl rfl (op_assign (Has.t rfl)) ?_
    refine R_nil ?_
    exact T_ret2 rfl (rv_tmp rfl) (rv_tmp rfl)
set_option maxRecDepth 20000 in
theorem c_RepO {m : Nat} (h1 : 1 ≤ m) (hm : m ≤ 1000) : FunO Tryz.prog 168 [NumsT [Qi.zero], NT .i64 m] [] ({v : Value // exactH v}) (fun v => Is v.1) (fun v => [rowO 49 5 v.1 ((tab m fun _ => Qi.zero).map NumT)]) (fun _ => True) := by
  refine FunO.intro Tryz.func168 rfl Tryz.ntmps168 rfl (fun cx Z => ?_)
  refine T_seq ?_
  refine T_region ?_
  refine R_op rfl rfl rfl (op_assign Has.c) ?_
  refine R_nil ?_
  refine T_seq ?_
  refine T_seq ?_
  refine T_region ?_
  refine R_op rfl rfl rfl (op_move (Has.t rfl)) ?_
  refine R_op rfl rfl rfl (op_lssN (Has.t rfl) (Has.cN 0)) ?_
  refine R_nil ?_
  refine T_cond (Has.t rfl) (fun h0 => ?_) (fun h0 => ?_)
  · simp only [decide_eq_true_eq] at h0
    omega
  · refine T_skip ?_
    refine T_seq ?_
    refine T_region ?_
    refine R_op rfl rfl rfl (op_move (Has.t rfl)) ?_
    refine R_op rfl rfl rfl (op_len Tryz.runUnderlying30 (Has.t rfl) (show (([Qi.zero].map NumT).length : Int) = ((1 : Nat) : Int) from rfl)) ?_
    refine R_op rfl rfl rfl (op_convN Tryz.runUnderlying3 Tryz.runUnderlying241 (Has.t rfl) (by show _ < 18446744073709551616; first | omega | (simp only [lim]; omega))) ?_
    refine R_op rfl rfl rfl (op_move (Has.t rfl)) ?_
    refine R_op rfl rfl rfl (op_convN Tryz.runUnderlying3 Tryz.runUnderlying241 (Has.t rfl) (by show _ < 18446744073709551616; first | omega | (simp only [lim]; omega))) ?_
    refine R_op rfl rfl rfl (op_call Tryz.call209 (c_bMul (by omega)) ⟨(Has.t rfl), (Has.t rfl), trivial⟩) ?_
    refine R_op rfl rfl rfl (op_move (Has.t rfl)) ?_
    refine R_op rfl rfl rfl (op_extract (Has.t rfl) rfl) ?_
    refine R_op rfl rfl rfl (op_extract (Has.t rfl) rfl) ?_
    refine R_op rfl rfl rfl (op_assign (Has.t rfl)) ?_
    refine R_op rfl rfl rfl (op_assign (Has.t rfl)) ?_
    refine R_nil ?_
    refine T_seq ?_
    refine T_seq ?_
    refine T_region ?_
    refine R_op rfl rfl rfl (op_move (Has.t rfl)) ?_
    refine R_op rfl rfl rfl (op_gtrN (Has.t rfl) (Has.cN 0)) ?_
    refine R_op rfl rfl rfl (op_move (Has.t rfl)) ?_
    refine R_step rfl rfl (S_when rfl rfl (Has.t rfl) (fun h => op_move (Has.t rfl))) ?_
    refine R_step rfl rfl (S_when rfl rfl (Has.t rfl) (fun h => op_gtrN (Has.w rfl h) (Has.cN 9223372036854775807))) ?_
    refine R_op rfl rfl rfl (op_or (Has.t rfl) (fun h => (Has.w rfl h))) ?_
    refine R_nil ?_
    refine T_cond (Has.t rfl) (fun h2 => ?_) (fun h2 => ?_)
    · simp only [Bool.or_eq_true, decide_eq_true_eq] at h2
      omega
    · refine T_skip ?_
      refine T_seq ?_
      refine T_region ?_
      refine R_op rfl rfl rfl (op_move (Has.t rfl)) ?_
      refine R_op rfl rfl rfl (op_convN Tryz.runUnderlying241 Tryz.runUnderlying3 (Has.t rfl) (by show _ < 9223372036854775808; first | omega | (simp only [lim]; omega))) ?_
      refine R_makeE (T := NumT Qi.zero) (i := Tryz.t49) und_30 info_49 rfl rfl (Has.t rfl) rfl num_zero_p (El.ag rfl) (by show 88 * _ ≤ _; omega) (by omega) rfl (fun B30 hB30 => ?_)
      refine R_op rfl rfl rfl (op_assign (Has.t rfl)) ?_
      refine R_nil ?_
      refine T_seq ?_
      refine T_region ?_
      refine R_op rfl rfl rfl (op_move (Has.t rfl)) ?_
      refine R_op rfl rfl rfl (op_move (Has.t rfl)) ?_
      refine R_op rfl rfl rfl (op_copyV (q := 1) (T := NumT Qi.zero) Tryz.runUnderlying30 Tryz.sizeOf49 (i := 1) rfl (Has.t rfl) (Has.t rfl) (by decide) (El.ag rfl) (by omega)) ?_
      refine R_op rfl rfl rfl (op_assign (Has.t rfl)) ?_
      refine R_nil ?_
      refine T_seq ?_
      refine T_block ?_
      refine T_loop (fun (k : Nat) => 1 ≤ k ∧ k ≤ m) (fun (k : Nat) => m - k) (fun (k : Nat) => [(7, Is B30), (8, NT .i64 k)]) (fun (k : Nat) => [Z, rowO 49 5 B30 (List.replicate m (NumT Qi.zero))]) (Nat.min 1 m) ⟨by show 1 ≤ min 1 m; omega, by show min 1 m ≤ m; omega⟩
        (Sub.cons rfl (Sub.cons rfl Sub.nil)) (HSub.refl _) (fun k ⟨hk1, hk⟩ => ?_)
      refine T_seq ?_
      refine T_seq ?_
      refine T_region ?_
      refine R_op rfl rfl rfl (op_move (Has.t rfl)) ?_
      refine R_op rfl rfl rfl (op_move (Has.t rfl)) ?_
      refine R_op rfl rfl rfl (op_lenO Tryz.runUnderlying30 (Has.t rfl) (i := 1) rfl (show ((List.replicate m (NumT Qi.zero)).length : Int) = ((m : Nat) : Int) by simp)) ?_
      refine R_op rfl rfl rfl (op_lssN (Has.t rfl) (Has.t rfl)) ?_
      refine R_nil ?_
      refine T_cond (Has.t rfl) (fun hd => ?_) (fun hd => ?_)
      · simp only [decide_eq_true_eq] at hd
        have hlen : (List.replicate m (NumT Qi.zero)).length = m := by simp
        have h5 : Nat.min k ((List.replicate m (NumT Qi.zero)).length - k) = min k (m - k) := by rw [hlen]
        refine T_skip ?_
        refine T_block ?_
        refine D_start (m := 8) ?_
        refine D_step (Ei := [(8, _)]) rfl rfl (Srcs.cons (Src.pre rfl rfl) Srcs.nil) (S_plain rfl (op_move (Has.t rfl))) ?_
        refine D_step (Ei := [(7, _)]) rfl rfl (Srcs.cons (Src.pre rfl rfl) Srcs.nil) (S_plain rfl (op_move (Has.t rfl))) ?_
        refine D_step (Ei := [(8, _)]) rfl rfl (Srcs.cons (Src.pre rfl rfl) Srcs.nil) (S_plain rfl (op_move (Has.t rfl))) ?_
        refine D_step (Ei := [(39, _), (40, _)]) rfl rfl (Srcs.cons (Src.op 1 rfl rfl) (Srcs.cons (Src.op 2 rfl rfl) Srcs.nil)) (S_plain rfl (op_secLo Tryz.runUnderlying30 Tryz.sizeOf49 (Has.t rfl) (Has.t rfl) rfl (i := 1) rfl (by rw [hlen]; exact hd))) ?_
        refine D_step (Ei := [(7, _)]) rfl rfl (Srcs.cons (Src.pre rfl rfl) Srcs.nil) (S_plain rfl (op_move (Has.t rfl))) ?_
        refine D_step (Ei := [(8, _)]) rfl rfl (Srcs.cons (Src.pre rfl rfl) Srcs.nil) (S_plain rfl (op_move (Has.t rfl))) ?_
        refine D_step (Ei := [(42, _), (43, _)]) rfl rfl (Srcs.cons (Src.op 4 rfl rfl) (Srcs.cons (Src.op 5 rfl rfl) Srcs.nil)) (S_plain rfl (op_secHi Tryz.runUnderlying30 Tryz.sizeOf49 (Has.t rfl) (Has.t rfl) rfl (i := 1) rfl (by rw [hlen]; omega) (by rw [hlen]; omega))) ?_
        refine D_step (Ei := [(41, _), (44, _)]) rfl rfl (Srcs.cons (Src.op 3 rfl rfl) (Srcs.cons (Src.op 6 rfl rfl) Srcs.nil)) (S_plain rfl (op_copySec (T := NumT Qi.zero) Tryz.runUnderlying30 Tryz.sizeOf49 (i := 1) rfl (Has.t rfl) (Has.t rfl))) ?_
        refine D_done mixed rfl (by kernel_rfl) (F_val (F_val (F_val (F_val (F_val (F_val (F_val (F_val (F_nil ?_)))))))))
        refine R_op rfl rfl rfl (op_addN (Has.t rfl) (Has.t rfl) (by show _ < 9223372036854775808; omega)) ?_
        refine R_op rfl rfl rfl (op_assign (Has.t rfl)) ?_
        refine R_nil ?_
        refine T_blk ?_
        refine T_again (k + Nat.min k ((List.replicate m (NumT Qi.zero)).length - k)) ⟨by omega, by omega⟩ (by omega) (Sub.cons rfl (Sub.cons rfl Sub.nil)) (HSub.refl _)
      · refine T_exit rfl ?_
        refine T_seq ?_
        refine T_region ?_
        refine R_op rfl rfl rfl (op_move (Has.t rfl)) ?_
        refine R_op rfl rfl rfl (op_assign (Has.t rfl)) ?_
        refine R_nil ?_
        exact T_retO ⟨B30, hB30⟩ trivial [0, 1] ⟨⟨_, rfl, fun _ _ _ h => h⟩, ⟨_, rfl, (rowO_of (by rw [tab_const, rep_mapF]))⟩, trivial⟩ (by decide) (rvs1 rfl (rv_tmp rfl))
end Go.Proofs.YtppibhcfaahgpaaGreat
namespace Go.Proofs.YtppibhcfaahgpaaGreat
open Go Go.RowKit
theorem bld_27_ {n : Nat} {E : Env} {H : Hp} {d : Option Tmp} {t : TypeId} {pos : String} {af : Array Edge} {g : Option (Nat × Bool)}  :
    OpTy Tryz.prog n E H ⟨d, .build 27 #[], t, pos, af, g⟩ (AggT [Is (.int .i64 0), Is (.int .i64 0), Is (.int .i64 0)]) :=
  op_build (parts := []) fun a V w hs => by
    refine ⟨.agg #[(.int .i64 0), (.int .i64 0), (.int .i64 0)], ?_, [(.int .i64 0), (.int .i64 0), (.int .i64 0)], rfl, Cells.cons' (⟨rfl, trivial⟩) (Cells.cons' (⟨rfl, trivial⟩) (Cells.cons' (⟨rfl, trivial⟩) (Cells.nil)))⟩
    simp [Instr.build, Instr.fill, Sem.run_bind, Result.andThen, cells_agg, Tryz.zeroValue27, Tryz.runUnderlying27, Tryz.sizeOf2]
theorem bld_27_0 {n : Nat} {E : Env} {H : Hp} {d : Option Tmp} {t : TypeId} {pos : String} {af : Array Edge} {g : Option (Nat × Bool)} {x0 : Operand} {T0 : Ty} [s0 : Shape T0 1 false] (h0 : Has E x0 T0) :
    OpTy Tryz.prog n E H ⟨d, .build 27 #[(0, x0)], t, pos, af, g⟩ (AggT [T0, Is (.int .i64 0), Is (.int .i64 0)]) :=
  op_build (parts := [(0, x0)]) fun a V w hs => by
    have p0 := h0 n V a hs
    generalize e0 : a.eval x0 = v0 at p0
    have q0 := (s0.ok v0 V p0).2.2 rfl
    refine ⟨.agg #[v0, (.int .i64 0), (.int .i64 0)], ?_, [v0, (.int .i64 0), (.int .i64 0)], rfl, Cells.cons' (⟨p0, q0⟩) (Cells.cons' (⟨rfl, trivial⟩) (Cells.cons' (⟨rfl, trivial⟩) (Cells.nil)))⟩
    simp [e0, Instr.build, Instr.fill, Sem.run_bind, Result.andThen, cells_agg, q0.cells, Tryz.zeroValue27, Tryz.runUnderlying27, Tryz.sizeOf2]
theorem bld_27_0_2 {n : Nat} {E : Env} {H : Hp} {d : Option Tmp} {t : TypeId} {pos : String} {af : Array Edge} {g : Option (Nat × Bool)} {x0 x2 : Operand} {T0 T2 : Ty} [s0 : Shape T0 1 false] (h0 : Has E x0 T0) [s2 : Shape T2 1 false] (h2 : Has E x2 T2) :
    OpTy Tryz.prog n E H ⟨d, .build 27 #[(0, x0), (2, x2)], t, pos, af, g⟩ (AggT [T0, Is (.int .i64 0), T2]) :=
  op_build (parts := [(0, x0), (2, x2)]) fun a V w hs => by
    have p0 := h0 n V a hs
    generalize e0 : a.eval x0 = v0 at p0
    have q0 := (s0.ok v0 V p0).2.2 rfl
    have p2 := h2 n V a hs
    generalize e2 : a.eval x2 = v2 at p2
    have q2 := (s2.ok v2 V p2).2.2 rfl
    refine ⟨.agg #[v0, (.int .i64 0), v2], ?_, [v0, (.int .i64 0), v2], rfl, Cells.cons' (⟨p0, q0⟩) (Cells.cons' (⟨rfl, trivial⟩) (Cells.cons' (⟨p2, q2⟩) (Cells.nil)))⟩
    simp [e0, e2, Instr.build, Instr.fill, Sem.run_bind, Result.andThen, cells_agg, q0.cells, q2.cells, Tryz.zeroValue27, Tryz.runUnderlying27, Tryz.sizeOf2]
end Go.Proofs.YtppibhcfaahgpaaGreat
namespace Go.Proofs.YtppibhcfaahgpaaGreat
open Go Go.RowKit
theorem is_ref {z : List Qi} {i : Nat} (h : i < z.length) : ∀ v V, (TupT [NumT (pkv z ((i + 1 : Nat) : Int)), IntT .i64 (if 1 ≤ ((i + 1 : Nat) : Int) ∧ ((i + 1 : Nat) : Int) ≤ z.length then 0 else 1)]).p v V → (TupT [NumT (gv z i), IntT .i64 0]).p v V := by
  rw [show pkv z ((i + 1 : Nat) : Int) = gv z i from pkv_at h, if_pos (by omega)]; exact fun _ _ h => h
theorem is_at {n : Nat} {s : List (List Qi)} {i j : Nat} (h : i < n) (k : j < n) : ∀ v V, (TupT [NumT (pkm n s ((i + 1 : Nat) : Int) ((j + 1 : Nat) : Int)), IntT .i64 (if (1 ≤ ((i + 1 : Nat) : Int) ∧ ((i + 1 : Nat) : Int) ≤ n) ∧ 1 ≤ ((j + 1 : Nat) : Int) ∧ ((j + 1 : Nat) : Int) ≤ n then 0 else 1)]).p v V → (TupT [NumT (gm s i j), IntT .i64 0]).p v V := by
  rw [show pkm n s ((i + 1 : Nat) : Int) ((j + 1 : Nat) : Int) = gm s i j from pkm_at h k, if_pos (by omega)]; exact fun _ _ h => h
end Go.Proofs.YtppibhcfaahgpaaGreat
namespace Go.Proofs.YtppibhcfaahgpaaGreat
open Go Go.RowKit
theorem Qi.zero_div (y : Qi) : Qi.zero / y = Qi.zero := by rw [Qi.div_def, Qi.zero_mul']
end Go.Proofs.YtppibhcfaahgpaaGreat
namespace Go.Proofs.YtppibhcfaahgpaaGreat
open Go Go.RowKit
theorem getD_at {α : Type} {l : List α} {d : α} {k : Nat} (h : k < l.length) : l.getD k d = l[k] := by simp [List.getD, h]
end Go.Proofs.YtppibhcfaahgpaaGreat
namespace Go.Proofs.YtppibhcfaahgpaaGreat
open Go Go.RowKit
namespace Qi
theorem a_nonneg {x : Qi} : 0 ≤ x.a ↔ 0 ≤ x.re := by
  have hk : 0 < x.den / x.re.den := Nat.div_pos (Nat.le_of_dvd x.den_pos (Nat.dvd_lcm_left _ _)) x.re.den_pos
  rw [← Rat.num_nonneg]
  show 0 ≤ x.re.num * ((x.den / x.re.den : Nat) : Int) ↔ _
  generalize x.den / x.re.den = k at hk
  constructor
  · intro h
    exact Int.nonneg_of_mul_nonneg_left h (by omega)
  · intro h; exact Int.mul_nonneg h (by omega)
theorem a_pos {x : Qi} : 0 < x.a ↔ 0 < x.re := by
  have h1 := @a_nonneg x; have h2 := @a_zero x
  constructor
  · intro h
    have h3 : 0 ≤ x.re := h1.1 (by omega)
    have h4 : x.re ≠ 0 := fun e => by have := h2.2 e; omega
    exact Rat.lt_of_le_of_ne h3 (Ne.symm h4)
  · intro h
    have h3 : 0 ≤ x.a := h1.2 (by grind)
    have h4 : x.a ≠ 0 := fun e => by have := h2.1 e; grind
    omega
end Qi
def firstE (f : Nat → Int) : Nat → Int
  | 0 => 0
  | n + 1 => if firstE f n ≠ 0 then firstE f n else f n
theorem firstE_at {f : Nat → Int} {k : Nat} (h : ∀ i, i < k → f i = 0) (hk : f k ≠ 0) : ∀ {n : Nat}, k < n → firstE f n = f k := by
  have hz : firstE f k = 0 := by
    clear hk
    induction k with
    | zero => rfl
    | succ k ih => rw [firstE, ih (fun i hi => h i (by omega)), if_neg (by simp), h k (by omega)]
  intro n
  induction n with
  | zero => intro h; omega
  | succ n ih =>
    intro hn
    by_cases e : n = k
    · rw [e, firstE, hz, if_neg (by simp)]
    · rw [firstE, ih (by omega), if_pos hk]
theorem firstE_none {f : Nat → Int} : ∀ {n : Nat}, (∀ i, i < n → f i = 0) → firstE f n = 0
  | 0, _ => rfl
  | n + 1, h => by rw [firstE, firstE_none (fun i hi => h i (by omega)), if_neg (by simp), h n (by omega)]
abbrev eF (l : List (Qi × Qi)) (i : Nat) : Qi := (l.getD i (Qi.zero, Qi.zero)).1
abbrev eV (l : List (Qi × Qi)) (i : Nat) : Qi := (l.getD i (Qi.zero, Qi.zero)).2
structure TabOk (l : List (Qi × Qi)) (f : Qi) : Prop where
  real : ∀ i, i < l.length → (eF l i).b = 0 ∧ (eV l i).b = 0
  up : ∀ i, 0 < i → i < l.length → (eF l (i - 1)).re < (eF l i).re
  fr : f.b = 0
theorem TabOk.mono {l : List (Qi × Qi)} {f : Qi} (h : TabOk l f) {i : Nat} : ∀ {j : Nat}, i < j → j < l.length → (eF l i).re < (eF l j).re
  | 0, h1, _ => by omega
  | j + 1, h1, h2 => by
    have h3 := h.up (j + 1) (by omega) h2
    rw [Nat.add_sub_cancel] at h3
    by_cases e : i = j
    · rw [e]; exact h3
    · have := h.mono (i := i) (j := j) (by omega) (by omega)
      grind
def FitE (l : List (Qi × Qi)) (L : Nat) : Prop := ∀ e, e ∈ l → FitC e.1 L ∧ FitC e.2 L
theorem FitE.get {l : List (Qi × Qi)} {L : Nat} (h : FitE l L) (hL : 1 ≤ L) (i : Nat) : FitC (eF l i) L ∧ FitC (eV l i) L := by
  by_cases hi : i < l.length
  · have e : l.getD i (Qi.zero, Qi.zero) = l[i] := by simp [List.getD, hi]
    show FitC (l.getD i _).1 L ∧ FitC (l.getD i _).2 L
    rw [e]; exact h _ (List.getElem_mem hi)
  · have e : l.getD i (Qi.zero, Qi.zero) = (Qi.zero, Qi.zero) := by simp [List.getD, List.getElem?_eq_none (Nat.le_of_not_lt hi)]
    show FitC (l.getD i _).1 L ∧ FitC (l.getD i _).2 L
    rw [e]; exact ⟨FitC.zero hL, FitC.zero hL⟩
end Go.Proofs.YtppibhcfaahgpaaGreat
namespace Go.Proofs.YtppibhcfaahgpaaGreat
open Go Go.RowKit
abbrev nilV : Value := .slice none 0 0
abbrev hd (vs : List Value) (i : Nat) : Value := vs.getD i nilV
theorem hd_get {vs : List Value} {i : Nat} (h : i < vs.length) : vs[i]? = some (hd vs i) := by simp [hd, List.getD, h]
def mwX (B : Nat) (BT : TypeId) (e s : Nat) (hs vs : List Value) (Rs : List (List Ty)) : Hp := box B BT (hs.map Is) :: List.zipWith (rowO e s) vs Rs
def matW (B : Nat) (BT : TypeId) (e s : Nat) (hs vs : List Value) (Rs : List (List Ty)) : SA := starSA (mwX B BT e s hs vs Rs)
structure Hds (vs : List Value) (m : Nat) : Prop where
  len : vs.length = m
  pl : ∀ i, i < m → Plain (hd vs i)
theorem mwX_get {B : Nat} {BT : TypeId} {e s : Nat} {hs vs : List Value} {Rs : List (List Ty)} {i : Nat} {v : Value} {Ts : List Ty} (hv : vs[i]? = some v) (hR : Rs[i]? = some Ts) : (mwX B BT e s hs vs Rs)[i + 1]? = some (rowO e s v Ts) := by
  simp [mwX, List.getElem?_zipWith, hv, hR]
theorem zipWith_set {e s : Nat} {v : Value} {Ts : List Ty} : ∀ (vs : List Value) (Rs : List (List Ty)) (i : Nat), (List.zipWith (rowO e s) vs Rs).set i (rowO e s v Ts) = List.zipWith (rowO e s) (vs.set i v) (Rs.set i Ts)
  | [], Rs, i => by simp
  | u :: vs, [], i => by cases i <;> simp
  | u :: vs, R :: Rs, 0 => rfl
  | u :: vs, R :: Rs, i + 1 => by
    simp only [List.zipWith_cons_cons, List.set_cons_succ]
    rw [zipWith_set vs Rs i]
theorem matW.row {B : Nat} {BT : TypeId} {e s : Nat} {hs vs : List Value} {Rs : List (List Ty)} {S : List Nat} {m V : View} (h : (matW B BT e s hs vs Rs).h S m V) {i : Nat} {v : Value} {Ts : List Ty} (hv : vs[i]? = some v) (hR : Rs[i]? = some Ts) : ∃ S2, (rowO e s v Ts).h S2 m V := by
  obtain ⟨F, h1, _⟩ := h
  exact ⟨_, h1 (i + 1) _ (mwX_get hv hR)⟩
theorem matW.hdr {B : Nat} {BT : TypeId} {e s : Nat} {hs vs : List Value} {Rs : List (List Ty)} {S : List Nat} {m V : View} (h : (matW B BT e s hs vs Rs).h S m V) : ∃ S2, (box B BT (hs.map Is)).h S2 m V := by
  obtain ⟨F, h1, _⟩ := h
  exact ⟨_, h1 0 _ rfl⟩
theorem star_swap {X : Hp} {a b : Nat} {A B : SA} {S : List Nat} {m V : View} (hA : X[a]? = some A) (hB : X[b]? = some B) (h : (starSA X).h S m V) : (starSA ((X.set a B).set b A)).h S m V := by
  obtain ⟨F, h1, h2, h3⟩ := h
  have ha := (List.getElem?_eq_some_iff.1 hA).1
  have hb := (List.getElem?_eq_some_iff.1 hB).1
  have g1 : ∀ j, j < X.length → (if j = b then a else if j = a then b else j) < X.length := fun j hj => by split; exact ha; split; exact hb; exact hj
  have g2 : ∀ i j, (if i = b then a else if i = a then b else i) = (if j = b then a else if j = a then b else j) → i = j := fun i j e => by
    split at e <;> split at e <;> (try split at e) <;> (try split at e) <;> omega
  refine ⟨fun j => F (if j = b then a else if j = a then b else j), fun j C hC => ?_, fun i j c hi hj hci hcj => ?_, fun c => ?_⟩
  · by_cases e : j = b
    · subst e
      simp [hb] at hC; subst hC
      simp only [if_pos]; exact h1 a A hA
    · rw [List.getElem?_set_ne (Ne.symm e)] at hC
      simp only [if_neg e]
      by_cases e2 : j = a
      · subst e2
        simp [ha] at hC; subst hC
        simp only [if_pos]; exact h1 b B hB
      · rw [List.getElem?_set_ne (Ne.symm e2)] at hC
        simp only [if_neg e2]; exact h1 j C hC
  · simp only [List.length_set] at hi hj
    exact g2 i j (h2 _ _ c (g1 i hi) (g1 j hj) hci hcj)
  · rw [h3 c]
    simp only [List.length_set]
    constructor
    · rintro ⟨i, hi, hc⟩
      refine ⟨if i = b then a else if i = a then b else i, g1 i hi, ?_⟩
      have : (if (if i = b then a else if i = a then b else i) = b then a else if (if i = b then a else if i = a then b else i) = a then b else (if i = b then a else if i = a then b else i)) = i := by
        split <;> split <;> (try split) <;> (try split) <;> omega
      rw [this]; exact hc
    · rintro ⟨i, hi, hc⟩; exact ⟨_, g1 i hi, hc⟩
theorem HH.unpack' {base : Nat} {w : World} {V : View} {X : Hp} {A : SA} (h : HH base w V [starSA X, A]) : HH base w V (X ++ [A]) := HH.unpack h
theorem HH.repack {base : Nat} {w : World} {V : View} {X Y : Hp} (h : HH base w V (X ++ Y)) : HH base w V (starSA X :: Y) := by
  obtain ⟨F, h1, h2⟩ := h
  have key : ∀ b, b ∈ (List.range X.length).flatMap F ↔ ∃ i, i < X.length ∧ b ∈ F i := fun b => by simp [List.mem_flatMap]
  have lx : ∀ i A, X[i]? = some A → (X ++ Y)[i]? = some A := fun i A hA => by rw [List.getElem?_append_left (List.getElem?_eq_some_iff.1 hA).1]; exact hA
  refine ⟨fun i => if i = 0 then (List.range X.length).flatMap F else F (X.length + (i - 1)), fun i A hA => ?_, fun i j b hi hj hbi hbj => ?_⟩
  · cases i with
    | zero =>
      simp at hA; subst hA
      simp only [if_pos]
      refine ⟨⟨F, fun i A hA => (h1 i A (lx i A hA)).1, fun i j b hi hj => h2 i j b (by simp; omega) (by simp; omega), key⟩, fun b hb => ?_⟩
      obtain ⟨i, hi, hb⟩ := (key b).1 hb
      exact (h1 i X[i] (by rw [List.getElem?_append_left hi]; simp [hi])).2 b hb
    | succ i =>
      simp only [if_neg (Nat.succ_ne_zero i), Nat.add_sub_cancel]
      refine h1 (X.length + i) A ?_
      rw [List.getElem?_append_right (by omega)]
      simpa using hA
  · simp at hi hj
    cases i with
    | zero =>
      cases j with
      | zero => rfl
      | succ j =>
        simp only [if_pos, if_neg (Nat.succ_ne_zero j), Nat.add_sub_cancel] at hbi hbj
        obtain ⟨i, hi', hb⟩ := (key b).1 hbi
        have := h2 i (X.length + j) b (by simp; omega) (by simp; omega) hb hbj
        omega
    | succ i =>
      cases j with
      | zero =>
        simp only [if_pos, if_neg (Nat.succ_ne_zero i), Nat.add_sub_cancel] at hbi hbj
        obtain ⟨j, hj', hb⟩ := (key b).1 hbj
        have := h2 (X.length + i) j b (by simp; omega) (by simp; omega) hbi hb
        omega
      | succ j =>
        simp only [if_neg (Nat.succ_ne_zero j), if_neg (Nat.succ_ne_zero i), Nat.add_sub_cancel] at hbi hbj
        have := h2 (X.length + i) (X.length + j) b (by simp; omega) (by simp; omega) hbi hbj
        omega
section
variable {P : Program} {R : Post} {cx : Cx} {n : Nat} {k : List It} {E : Env} {H : Hp} {ops : Array Oper} {o : Oper} {rest : List Oper}
variable {d : Option Tmp} {t : TypeId} {pos : String} {af : Array Edge} {g : Option (Nat × Bool)}
theorem putStar {X : Hp} {q : Nat} {A B : SA} (h : W.PutTy P n E [A] [B] o) (hA : X[q]? = some A) : W.PutTy P n E [starSA X] [starSA (X.set q B)] o := fun cx Y a w V hi hs => by
  have hi2 : Inv cx V (X ++ Y) w := hi.withHH (HH.unpack hi.hp)
  obtain ⟨w', e1, e2⟩ := Go.Proofs.YtppibhcfaahgpaaGreat.putAt h hi2 (get_app hA) hs
  rw [set_app hA] at e2
  exact ⟨w', e1, e2.withHH (HH.repack e2.hp)⟩
theorem put_cast {H H1 H2 : Hp} (h : W.PutTy P n E H H1 o) (e : H1 = H2) : W.PutTy P n E H H2 o := e ▸ h
theorem P_stHW {x y : Operand} {i B e s : Nat} {BT : TypeId} {hs vs : List Value} {Rs : List (List Ty)} {v : Value} (hS : ∀ w, (sizeOf t).run P w = .ok 1 w) (hx : Has E x (PtrB B i)) (hy : Has E y (Is v)) (hp : Plain v) (hi : i < hs.length) {t' : TypeId} :
    W.PutTy P n E [matW B BT e s hs vs Rs] [matW B BT e s (hs.set i v) vs Rs] ⟨none, .store t x y, t', pos, af, none⟩ := by
  haveI : Shape (Is v) 1 false := shape_one fun u V h => by cases h; exact hp
  refine put_cast (putStar (q := 0) (B := box B BT ((hs.set i v).map Is)) (put_cast (P_st (i := 0) (B := B) (BT := BT) (Ts := hs.map Is) hS hx hy rfl (by simpa using hi)) ?_) rfl) ?_
  · simp [List.map_set]
  · simp [mwX, matW]
theorem P_stW {x y : Operand} {i B e s q : Nat} {BT : TypeId} {hs vs : List Value} {F : Qi → Ty} {M : List (List Qi)} {z : Qi} (hS : ∀ w, (sizeOf t).run P w = .ok s w) (hx : Has E x (ElT (hd vs i) (q * s))) (hy : Has E y (F z)) (hEl : El s (F z)) (hl : vs.length = M.length)
    (hi : i < M.length) (hq : q < (M.getD i []).length) {t' : TypeId} : W.PutTy P n E [matW B BT e s hs vs (FRow F M)] [matW B BT e s hs vs (FRow F (M.set i ((M.getD i []).set q z)))] ⟨none, .store t x y, t', pos, af, none⟩ := by
  refine put_cast (putStar (q := i + 1) (B := rowO e s (hd vs i) (((M.getD i []).set q z).map F)) (put_cast (P_stO (i := 0) (e := e) (Ts := (M.getD i []).map F) hS hx hy hEl rfl rfl (by simpa using hq)) ?_) (mwX_get (hd_get (by omega)) (frow_get hi))) ?_
  · simp [List.map_set]
  · simp only [mwX, matW, List.set_cons_succ]
    rw [zip_set vs (FRow F M) i (hd_get (by omega)) (by simpa using hi), set_FRow]
theorem R_stHW {x y : Operand} {j i B e s : Nat} {BT : TypeId} {hs vs : List Value} {Rs : List (List Ty)} {v : Value} (hS : ∀ w, (sizeOf t).run P w = .ok 1 w) (hx : Has E x (PtrB B i)) (hy : Has E y (Is v)) (hH : H[j]? = some (matW B BT e s hs vs Rs)) (hp : Plain v) (hi : i < hs.length) {t' : TypeId}
    {H' : Hp} (hH' : H.set j (matW B BT e s (hs.set i v) vs Rs) = H') (h : Rg P R cx n ops rest k E H') : Rg P R cx n ops (⟨none, .store t x y, t', pos, af, none⟩ :: rest) k E H :=
  R_skip (fun a w V hi' hs' => by subst hH'; exact Go.Proofs.YtppibhcfaahgpaaGreat.putAt (P_stHW hS hx hy hp hi) hi' hH hs') h
theorem R_stW {x y : Operand} {j i B e s q : Nat} {BT : TypeId} {hs vs : List Value} {F : Qi → Ty} {M : List (List Qi)} {z : Qi} (hS : ∀ w, (sizeOf t).run P w = .ok s w) (hx : Has E x (ElT (hd vs i) (q * s))) (hy : Has E y (F z)) (hH : H[j]? = some (matW B BT e s hs vs (FRow F M))) (hEl : El s (F z)) (hl : vs.length = M.length)
    (hi : i < M.length) (hq : q < (M.getD i []).length) {t' : TypeId} {H' : Hp} (hH' : H.set j (matW B BT e s hs vs (FRow F (M.set i ((M.getD i []).set q z)))) = H') (h : Rg P R cx n ops rest k E H') : Rg P R cx n ops (⟨none, .store t x y, t', pos, af, none⟩ :: rest) k E H :=
  R_skip (fun a w V hi' hs' => by subst hH'; exact Go.Proofs.YtppibhcfaahgpaaGreat.putAt (P_stW hS hx hy hEl hl hi hq) hi' hH hs') h
theorem op_ldHW {x : Operand} {j i B e s : Nat} {BT : TypeId} {hs vs : List Value} {Rs : List (List Ty)} (hA : ∀ w, (isAgg t).run P w = .ok false w) (hS : ∀ w, (sizeOf t).run P w = .ok 1 w)
    (hx : Has E x (PtrB B i)) (hH : H[j]? = some (matW B BT e s hs vs Rs)) (hi : i < hs.length) {t' : TypeId} : OpTy P n E H ⟨d, .load t x, t', pos, af, g⟩ (Is (hd hs i)) :=
  op_readO hH fun a V w S hM _ hs' => by
    have e1 : a.eval x = .pointer (some ⟨B, i, none⟩) := hx n V a hs'
    obtain ⟨S2, _, cs, e2, e3⟩ := matW.hdr hM
    obtain ⟨u, e4, e5⟩ := e3.get (i := i) (T := Is (hd hs i)) (by rw [List.getElem?_map, hd_get hi]; rfl)
    have hu : u = hd hs i := e5
    have hpl := e3.pl u (List.mem_of_getElem? e4)
    have := run_loadVar_of (P := P) (w := w) (b := B) (o := i) (x := u) hA hS ⟨by rw [hpl.cells]; rfl, by simp, fun _ => hpl⟩ (fun q u' hu' => by
      rw [cell_of_heap (show w.heap[B]? = some (.cells cs.toArray BT (0, 0)) from e2)]
      rw [hpl.cells] at hu'
      cases q with
      | zero => simp at hu'; subst hu'; simpa using e4
      | succ q => simp at hu')
    exact ⟨u, by simp [execOp, e1, Instr.loadAt, Instr.sureAddr, Sem.run_bind, this, Result.andThen], hu⟩
theorem op_lenW {x : Operand} {j i B e s : Nat} {BT : TypeId} {hs vs : List Value} {F : Qi → Ty} {M : List (List Qi)} {e' : TypeId} {ta : TypeId} (hU : ∀ w, (underlying ta).run P w = .ok (.slice e') w) (hx : Has E x (Is (hd vs i))) (hH : H[j]? = some (matW B BT e s hs vs (FRow F M)))
    (hl : vs.length = M.length) (hi : i < M.length) : OpTy P n E H ⟨d, .call ⟨.builtin .len, #[x], #[ta]⟩, t, pos, af, g⟩ (NT .i64 (M.getD i []).length) :=
  op_readO hH fun a V w S hM _ hs' => by
    obtain ⟨S2, hA⟩ := matW.row hM (hd_get (by omega)) (frow_get (F := F) hi)
    obtain ⟨ad, cap, hv⟩ := rowO_len hA
    have e1 : a.eval x = .slice ad (M.getD i []).length cap := by have := hx n V a hs'; have el : ((M.getD i []).map F).length = (M.getD i []).length := List.length_map F; rw [← el, ← hv]; exact this
    exact ⟨.int .i64 (M.getD i []).length, by simp [execOp, resolve, e1, invoke, builtin, Builtin.len_, Sem.run_bind, hU, Result.andThen, goInt], rfl⟩
theorem op_idxW {x y : Operand} {j i B e s q : Nat} {BT : TypeId} {hs vs : List Value} {F : Qi → Ty} {M : List (List Qi)} {kd : IntKind} {z : Int} {e' : TypeId} (hU : ∀ w, (underlying t).run P w = .ok (.slice e') w) (hS : ∀ w, (sizeOf e').run P w = .ok s w)
    (hx : Has E x (Is (hd vs i))) (hj : Has E y (IntT kd z)) (hz : z = (q : Int)) (hH : H[j]? = some (matW B BT e s hs vs (FRow F M))) (hl : vs.length = M.length) (hi : i < M.length) (hq : q < (M.getD i []).length) {t' : TypeId} : OpTy P n E H ⟨d, .indexAddr t x y, t', pos, af, g⟩ (ElT (hd vs i) (q * s)) :=
  op_readO hH fun a V w S hM _ hs' => by
    obtain ⟨S2, hA⟩ := matW.row hM (hd_get (by omega)) (frow_get (F := F) hi)
    obtain ⟨gg, cap, hv⟩ := rowO_slice hA (by rw [List.length_map]; omega)
    rw [List.length_map] at hv
    have e1 : a.eval x = .slice (some ⟨gg, 0, none⟩) (M.getD i []).length cap := by rw [← hv]; exact hx n V a hs'
    have ei : a.eval y = .int kd z := hj n V a hs'
    refine ⟨.pointer (some ⟨gg, q * s, none⟩), ?_, gg, _, cap, hv, rfl⟩
    subst hz
    obtain ⟨m, hm⟩ : ∃ m, (M.getD i []).length = m := ⟨_, rfl⟩
    rw [hm] at e1 hq
    simp [execOp, e1, ei, Instr.indexAt, asIntOf, Sem.run_bind, hU, hS, Result.andThen, hq, add_plain]
theorem op_ldW {x : Operand} {j i B e s q : Nat} {BT : TypeId} {hs vs : List Value} {F : Qi → Ty} {M : List (List Qi)} {gg : Bool} [hsh : ∀ z, Shape (F z) s gg] (hA : ∀ w, (isAgg t).run P w = .ok gg w) (hS : ∀ w, (sizeOf t).run P w = .ok s w)
    (hx : Has E x (ElT (hd vs i) (q * s))) (hH : H[j]? = some (matW B BT e s hs vs (FRow F M))) (hl : vs.length = M.length) (hi : i < M.length) (hq : q < (M.getD i []).length) {t' : TypeId} : OpTy P n E H ⟨d, .load t x, t', pos, af, g⟩ (F ((M.getD i []).getD q Qi.zero)) :=
  op_readO hH fun a V w S hM _ hs' => by
    obtain ⟨S2, hR⟩ := matW.row hM (hd_get (by omega)) (frow_get (F := F) hi)
    obtain ⟨g1, cap, xs, hv, hrow, hc⟩ := rowO_cells hR (by rw [List.length_map]; omega)
    obtain ⟨g2, l2, c2, e0, e1⟩ := hx n V a hs'
    have e00 := hv.symm.trans e0
    simp at e00; obtain ⟨rfl, _, _⟩ := e00
    obtain ⟨y, h1, h2, h3⟩ := hrow.get (q := q) (T := F ((M.getD i []).getD q Qi.zero)) (map_get (getD_some (d := Qi.zero) hq))
    have := run_loadVar_of (P := P) (w := w) (b := g1) (o := q * s) hA hS ((hsh _).ok y V h2) (fun j u hu => hc _ _ (flat_get xs hrow.size q y h1 j u hu))
    exact ⟨y, by simp [execOp, e1, Instr.loadAt, Instr.sureAddr, Sem.run_bind, this, Result.andThen], h2⟩
theorem op_maxN {x y : Operand} {kd kd' : IntKind} {a b : Nat} {tys : Array TypeId} (hx : Has E x (NT kd a)) (hy : Has E y (NT kd' b)) : OpTy P n E H ⟨d, .call ⟨.builtin .max, #[x, y], tys⟩, t, pos, af, g⟩ (NT kd (max a b)) :=
  op_pure fun c V w hs => by
    have ex : c.eval x = .int kd (a : Int) := hx n V c hs
    have ey : c.eval y = .int kd' (b : Int) := hy n V c hs
    refine ⟨.int kd (if (b : Int) > a then b else a), ?_, ?_⟩
    · simp [execOp, resolve, ex, ey, invoke, builtin, Builtin.max_, Builtin.max2, Sem.run_bind, Result.andThen]
    · show Value.int kd _ = Value.int kd _
      congr 1
      split <;> omega
theorem new_call0 {f : FuncId} {xs : List Operand} {tys : Array TypeId} {Ts : List Ty} {γ : Type} {U : γ → Ty} {A : γ → SA} {Q : γ → Prop} (hc : ∀ args w, (callFunc f args).run P w = .ok (.enter f args) w)
    (hF : FunO P f Ts [] γ U (fun x => [A x]) Q) (ha : Args E xs Ts) : NewTy P n E H ⟨d, .call ⟨.value (.func f), xs.toArray, tys⟩, t, pos, af, g⟩ {x // Q x} (fun x => U x.1) (fun x => A x.1) := fun cx X a w V hi hs K Q' hK => by
  have hrun : (execOp a.eval ⟨d, .call ⟨.value (.func f), xs.toArray, tys⟩, t, pos, af, g⟩).run P w = .ok (.enter f (xs.map a.eval).toArray) w := by
    simp [execOp, resolve, Act.eval, Deferred.ofValue, invoke, hc]
  simp only [Oper.wp, hrun, Oper.upon_enter]
  refine (hF cx (starSA (H ++ X)) _ V w (hi.withHH hi.hp.pack) (Args.all hs ha)).mono ?_
  rintro e w' ⟨v, V', x, rfl, h1, h2, h3, h4⟩
  exact hK ⟨x, h4⟩ v w' V' (h2.withHH h2.hp.unpack') h1 h3
theorem T_openW (j : Nat) {B e s : Nat} {q : Value → Prop} {BT : TypeId} {Rs : List (List Ty)} (hH : H[j]? = some (matP q B BT e s Rs)) (h : ∀ vs, Hds vs Rs.length → Tr P R cx n k E (H.set j (matW B BT e s vs vs Rs))) : Tr P R cx n k E H := fun a w ⟨V, hi, hs⟩ => by
  obtain ⟨F, h1, h2⟩ := hi.hp
  obtain ⟨⟨vs, ⟨k1, _⟩, k2⟩, k3⟩ := h1 j _ hH
  have hd0 : Hds vs Rs.length := ⟨k1, fun i hi' => by
    obtain ⟨S2, hr⟩ := matW.row (hs := vs) k2 (hd_get (by omega)) (List.getElem?_eq_getElem hi')
    exact rowO_plain hr⟩
  refine h vs hd0 a w ⟨V, hi.withHH ⟨F, fun i A hA => ?_, fun x y b hx hy => h2 x y b (by simpa using hx) (by simpa using hy)⟩, hs⟩
  by_cases e : i = j
  · subst e
    rw [List.getElem?_set_self (List.getElem?_eq_some_iff.1 hH).1] at hA
    obtain rfl := Option.some.inj hA
    exact ⟨k2, k3⟩
  · rw [List.getElem?_set_ne (Ne.symm e)] at hA; exact h1 i A hA
theorem matW_close {B e s : Nat} {BT : TypeId} {vs : List Value} {Rs : List (List Ty)} (h : vs.length = Rs.length) : ∀ S w V, (matW B BT e s vs vs Rs).h S w V → (matO B BT e s Rs).h S w V := fun _ _ _ k => ⟨vs, ⟨h, fun _ _ => trivial⟩, k⟩
theorem matW_of {B e s : Nat} {BT : TypeId} {hs vs : List Value} {Rs Rs' : List (List Ty)} (h : Rs = Rs') : ∀ S m V, (matW B BT e s hs vs Rs).h S m V → (matW B BT e s hs vs Rs').h S m V := fun _ _ _ k => h ▸ k
def swp {α : Type} (d : α) (l : List α) (p c : Nat) : List α := (l.set p (l.getD c d)).set c (l.getD p d)
theorem matW_swap {B e s : Nat} {BT : TypeId} {hs vs : List Value} {F : Qi → Ty} {M : List (List Qi)} {p c : Nat} (hl : vs.length = M.length) (hp : p < M.length) (hc : c < M.length) : ∀ S m V, (matW B BT e s hs vs (FRow F M)).h S m V → (matW B BT e s hs (swp nilV vs p c) (FRow F (swp [] M p c))).h S m V := fun S m V h => by
  have h1 := star_swap (mwX_get (hd_get (by omega)) (frow_get (F := F) hp)) (mwX_get (hd_get (by omega)) (frow_get (F := F) hc)) h
  have e : ((mwX B BT e s hs vs (FRow F M)).set (p + 1) (rowO e s (hd vs c) ((M.getD c []).map F))).set (c + 1) (rowO e s (hd vs p) ((M.getD p []).map F)) = mwX B BT e s hs (swp nilV vs p c) (FRow F (swp [] M p c)) := by
    simp only [mwX, List.set_cons_succ, zipWith_set, set_FRow, swp]
  rw [e] at h1; exact h1
theorem swp_len {α : Type} (d : α) (l : List α) (p c : Nat) : (swp d l p c).length = l.length := by simp [swp]
theorem Hds.swp {vs : List Value} {m p c : Nat} (h : Hds vs m) (hp : p < m) (hc : c < m) : Hds (swp nilV vs p c) m := ⟨by rw [swp_len]; exact h.len, fun i hi => by
  have hl := h.len
  by_cases e : i = c
  · subst e
    have : hd (Go.Proofs.YtppibhcfaahgpaaGreat.swp nilV vs p i) i = hd vs p := by simp [hd, Go.Proofs.YtppibhcfaahgpaaGreat.swp, List.getD, hl, hi]
    rw [this]; exact h.pl p hp
  · by_cases e2 : i = p
    · subst e2
      have : hd (Go.Proofs.YtppibhcfaahgpaaGreat.swp nilV vs i c) i = hd vs c := by
        simp only [hd, Go.Proofs.YtppibhcfaahgpaaGreat.swp, List.getD]
        rw [List.getElem?_set_ne (Ne.symm e), List.getElem?_set_self (by omega)]; rfl
      rw [this]; exact h.pl c hc
    · have : hd (Go.Proofs.YtppibhcfaahgpaaGreat.swp nilV vs p c) i = hd vs i := by
        simp only [hd, Go.Proofs.YtppibhcfaahgpaaGreat.swp, List.getD]
        rw [List.getElem?_set_ne (Ne.symm e), List.getElem?_set_ne (Ne.symm e2)]
      rw [this]; exact h.pl i hi⟩
end
end Go.Proofs.YtppibhcfaahgpaaGreat
namespace Go.Proofs.YtppibhcfaahgpaaGreat
open Go Go.RowKit
abbrev rw' (M : List (List Qi)) (i : Nat) : List Qi := M.getD i []
def pvF (M : List (List Qi)) (c n : Nat) : Nat → Nat
  | 0 => n
  | k + 1 => if gm M (n - (k + 1)) c = Qi.zero then pvF M c n k else n - (k + 1)
def pv (M : List (List Qi)) (c n : Nat) : Nat := pvF M c n (n - c)
theorem pvF_spec {M : List (List Qi)} {c n : Nat} : ∀ {k : Nat}, k ≤ n → (∀ r, n - k ≤ r → r < pvF M c n k → gm M r c = Qi.zero) ∧ n - k ≤ pvF M c n k ∧ pvF M c n k ≤ n ∧ (pvF M c n k < n → gm M (pvF M c n k) c ≠ Qi.zero)
  | 0, _ => ⟨fun r h1 h2 => by simp [pvF] at h2; omega, by simp [pvF], by simp [pvF], fun h => by simp [pvF] at h⟩
  | k + 1, hk => by
    obtain ⟨i1, i2, i3, i4⟩ := pvF_spec (M := M) (c := c) (n := n) (k := k) (by omega)
    unfold pvF
    by_cases e : gm M (n - (k + 1)) c = Qi.zero
    · rw [if_pos e]
      refine ⟨fun r h1 h2 => ?_, by omega, i3, i4⟩
      by_cases e2 : r = n - (k + 1)
      · rw [e2]; exact e
      · exact i1 r (by omega) h2
    · rw [if_neg e]
      exact ⟨fun r h1 h2 => by omega, Nat.le_refl _, by omega, fun _ => e⟩
theorem pv_spec {M : List (List Qi)} {c n : Nat} (hc : c ≤ n) : (∀ r, c ≤ r → r < pv M c n → gm M r c = Qi.zero) ∧ c ≤ pv M c n ∧ pv M c n ≤ n ∧ (pv M c n < n → gm M (pv M c n) c ≠ Qi.zero) := by
  have h := pvF_spec (M := M) (c := c) (n := n) (k := n - c) (by omega)
  rw [show n - (n - c) = c by omega] at h
  exact h
theorem pv_eq {M : List (List Qi)} {c n p : Nat} (hc : c ≤ p) (hp : p ≤ n) (h1 : ∀ r, c ≤ r → r < p → gm M r c = Qi.zero) (h2 : p < n → gm M p c ≠ Qi.zero) : pv M c n = p := by
  obtain ⟨i1, i2, i3, i4⟩ := pv_spec (M := M) (n := n) (show c ≤ n by omega)
  rcases Nat.lt_trichotomy (pv M c n) p with h | h | h
  · exact absurd (h1 _ i2 h) (i4 (by omega))
  · exact h
  · exact absurd (i1 p hc h) (h2 (by omega))
def redR (rr rc : List Qi) (c k : Nat) : List Qi := tab rr.length fun j => if c < j ∧ j < k then gv rr j - gv rr c / gv rc c * gv rc j else gv rr j
def redM (M : List (List Qi)) (c r : Nat) : List (List Qi) := tab M.length fun i => if c < i ∧ i < r then redR (rw' M i) (rw' M c) c (rw' M i).length else rw' M i
def elimTo (M : List (List Qi)) : Nat → List (List Qi) × Nat × Int
  | 0 => (M, 0, -1)
  | c + 1 =>
    let s := elimTo M c
    if 0 ≤ s.2.2 then s else
    if pv s.1 c M.length = M.length then (s.1, s.2.1, (c : Int)) else
    (redM (if pv s.1 c M.length = c then s.1 else swp [] s.1 (pv s.1 c M.length) c) c M.length, s.2.1 + (if pv s.1 c M.length = c then 0 else 1), -1)
theorem elim_stop {M : List (List Qi)} {c : Nat} (h : 0 ≤ (elimTo M c).2.2) : ∀ {d : Nat}, c ≤ d → elimTo M d = elimTo M c
  | 0, hd => by rw [show c = 0 by omega]
  | d + 1, hd => by
    by_cases e : c = d + 1
    · rw [e]
    · have := elim_stop h (d := d) (by omega)
      simp only [elimTo, this]
      rw [if_pos h]
theorem redM_len (M : List (List Qi)) (c r : Nat) : (redM M c r).length = M.length := tab_len _ _
theorem redM_shp {M : List (List Qi)} {n m c r : Nat} (h : Shp M n m) : Shp (redM M c r) n m := by
  refine ⟨(redM_len _ _ _).trans h.1, fun x hx => ?_⟩
  obtain ⟨i, hi, rfl⟩ := tab_mem.1 hx
  have hr := h.row (i := i) (by rw [← h.1]; exact hi)
  show (if c < i ∧ i < r then redR (rw' M i) (rw' M c) c (rw' M i).length else rw' M i).length = m
  split
  · rw [redR, tab_len]; exact hr
  · exact hr
theorem swp_shp {M : List (List Qi)} {n m p c : Nat} (h : Shp M n m) (hp : p < n) (hc : c < n) : Shp (swp [] M p c) n m := by
  refine ⟨(swp_len _ _ _ _).trans h.1, fun x hx => ?_⟩
  unfold swp at hx
  rcases List.mem_or_eq_of_mem_set hx with h1 | h1
  · rcases List.mem_or_eq_of_mem_set h1 with h2 | h2
    · exact h.2 x h2
    · rw [h2]; exact h.row hc
  · rw [h1]; exact h.row hp
theorem elim_shp {M : List (List Qi)} {n m : Nat} (h : Shp M n m) : ∀ {c : Nat}, c ≤ n → Shp (elimTo M c).1 n m
  | 0, _ => h
  | c + 1, hc => by
    have ih := elim_shp h (c := c) (by omega)
    obtain ⟨_, _, i3, _⟩ := pv_spec (M := (elimTo M c).1) (c := c) (n := M.length) (by rw [h.1]; omega)
    simp only [elimTo]
    split
    · exact ih
    · split
      · exact ih
      · rename_i e
        apply redM_shp
        split
        · exact ih
        · exact swp_shp ih (by rw [← h.1]; omega) (by omega)
def grow (L : Nat) : Nat → Nat
  | 0 => L
  | c + 1 => 6 * grow L c + 4
theorem grow_mono (L : Nat) : ∀ {c d : Nat}, c ≤ d → grow L c ≤ grow L d
  | c, 0, h => by rw [show c = 0 by omega]; exact Nat.le_refl _
  | c, d + 1, h => by
    by_cases e : c = d + 1
    · rw [e]; exact Nat.le_refl _
    · have := grow_mono L (c := c) (d := d) (by omega)
      simp only [grow]; omega
theorem grow_le (L c : Nat) : L ≤ grow L c := grow_mono L (Nat.zero_le c)
theorem elt_fit {rr rc : List Qi} {L c j : Nat} (h1 : FitL rr L) (h2 : FitL rc L) (hL : 1 ≤ L) (hp : gv rc c ≠ Qi.zero) : FitC (gv rr j - gv rr c / gv rc c * gv rc j) (6 * L + 4) := by
  haveI f1 := h1.get hL j; haveI f2 := h1.get hL c; haveI f3 := h2.get hL c; haveI f4 := h2.get hL j
  haveI g : FitC (gv rr c / gv rc c) (L + 3 * L + 2) := ⟨f2.fit.div f3.fit hp⟩
  have : FitC (gv rr j - gv rr c / gv rc c * gv rc j) (L + (L + 3 * L + 2 + L + 1) + 1) := inferInstance
  exact this.le (by omega)
theorem redR_fit {rr rc : List Qi} {L c k : Nat} (h1 : FitL rr L) (h2 : FitL rc L) (hL : 1 ≤ L) (hp : gv rc c ≠ Qi.zero) : FitL (redR rr rc c k) (6 * L + 4) := FitL.tab fun j _ => by
  split
  · exact elt_fit h1 h2 hL hp
  · exact (h1.get hL j).le (by omega)
theorem redM_fit {M : List (List Qi)} {L c r : Nat} (h : FitM M L) (hL : 1 ≤ L) (hp : gm M c c ≠ Qi.zero) : FitM (redM M c r) (6 * L + 4) := fun x hx => by
  obtain ⟨i, hi, rfl⟩ := tab_mem.1 hx
  show FitL (if c < i ∧ i < r then redR (rw' M i) (rw' M c) c (rw' M i).length else rw' M i) _
  split
  · exact redR_fit (h.row i) (h.row c) hL hp
  · exact (h.row i).le (by omega)
theorem swp_fit {M : List (List Qi)} {L p c : Nat} (h : FitM M L) : FitM (swp [] M p c) L := fun x hx => by
  unfold swp at hx
  rcases List.mem_or_eq_of_mem_set hx with h1 | h1
  · rcases List.mem_or_eq_of_mem_set h1 with h2 | h2
    · exact h x h2
    · rw [h2]; exact h.row c
  · rw [h1]; exact h.row p
theorem swp_at {M : List (List Qi)} {p c : Nat} (hc : c < M.length) : rw' (swp [] M p c) c = rw' M p := by
  simp [rw', swp, List.getD, hc]
theorem elim_fit {M : List (List Qi)} {n m L : Nat} (hs : Shp M n m) (h : FitM M L) (hL : 1 ≤ L) : ∀ {c : Nat}, c ≤ n → FitM (elimTo M c).1 (grow L c)
  | 0, _ => h
  | c + 1, hc => by
    have ih := elim_fit hs h hL (c := c) (by omega)
    have hg : 1 ≤ grow L c := Nat.le_trans hL (grow_le L c)
    have sh := elim_shp hs (c := c) (by omega)
    obtain ⟨_, i2, i3, i4⟩ := pv_spec (M := (elimTo M c).1) (c := c) (n := M.length) (by rw [hs.1]; omega)
    simp only [elimTo, grow]
    split
    · exact ih.le (by omega)
    · split
      · exact ih.le (by omega)
      · rename_i e
        split
        · rename_i e2
          refine redM_fit ih hg ?_
          have := i4 (by omega)
          rw [e2] at this; exact this
        · refine redM_fit (swp_fit ih) hg ?_
          show gv (rw' (swp [] _ _ c) c) c ≠ _
          rw [swp_at (by rw [sh.1]; omega)]
          exact i4 (by omega)
theorem redR_start {rr rc : List Qi} {c : Nat} : rr = redR rr rc c (c + 1) := by
  unfold redR
  have : (tab rr.length fun j => if c < j ∧ j < c + 1 then gv rr j - gv rr c / gv rc c * gv rc j else gv rr j) = tab rr.length (gv rr) := tab_congr fun j _ => by rw [if_neg (by omega)]
  rw [this]; exact list_tab rfl
theorem redR_len (rr rc : List Qi) (c k : Nat) : (redR rr rc c k).length = rr.length := tab_len _ _
theorem redR_get {rr rc : List Qi} {c k : Nat} (hk : k < rr.length) (h : c < k) : gv (redR rr rc c k) k = gv rr k := by
  rw [redR, gv_tab hk, if_neg (by omega)]
theorem redR_next {rr rc : List Qi} {c k : Nat} (hk : k < rr.length) (h : c < k) : (redR rr rc c k).set k (gv (redR rr rc c k) k - gv rr c / gv rc c * gv rc k) = redR rr rc c (k + 1) := by
  rw [redR_get hk h]
  apply List.ext_getElem?
  intro j
  by_cases hj : j < rr.length
  · by_cases e : j = k
    · subst e
      rw [List.getElem?_set_self (by rw [redR_len]; exact hj), redR, tab_get hj, if_pos (by omega)]
    · rw [List.getElem?_set_ne (Ne.symm e), redR, redR, tab_get hj, tab_get hj]
      by_cases e2 : c < j ∧ j < k
      · rw [if_pos e2, if_pos (by omega)]
      · rw [if_neg e2, if_neg (by omega)]
  · rw [List.getElem?_eq_none (by rw [List.length_set, redR_len]; omega), List.getElem?_eq_none (by rw [redR_len]; omega)]
theorem redM_start {M : List (List Qi)} {c : Nat} : M = redM M c (c + 1) := by
  unfold redM
  have : (tab M.length fun i => if c < i ∧ i < c + 1 then redR (rw' M i) (rw' M c) c (rw' M i).length else rw' M i) = tab M.length (rw' M) := tab_congr fun i _ => by rw [if_neg (by omega)]
  rw [this]; exact tab_eq (h := rfl)
theorem redM_at {M : List (List Qi)} {c r i : Nat} (hi : i < M.length) (h : ¬ (c < i ∧ i < r)) : rw' (redM M c r) i = rw' M i := by
  simp only [rw', redM, List.getD]
  rw [tab_get hi, if_neg h]; rfl
theorem redM_next {M : List (List Qi)} {c r : Nat} (hr : r < M.length) (h : c < r) : (redM M c r).set r (redR (rw' M r) (rw' M c) c (rw' M r).length) = redM M c (r + 1) := by
  apply List.ext_getElem?
  intro j
  by_cases hj : j < M.length
  · by_cases e : j = r
    · subst e
      rw [List.getElem?_set_self (by rw [redM_len]; exact hj), redM, tab_get hj, if_pos (by omega)]
    · rw [List.getElem?_set_ne (Ne.symm e), redM, redM, tab_get hj, tab_get hj]
      by_cases e2 : c < j ∧ j < r
      · rw [if_pos e2, if_pos (by omega)]
      · rw [if_neg e2, if_neg (by omega)]
  · rw [List.getElem?_eq_none (by rw [List.length_set, redM_len]; omega), List.getElem?_eq_none (by rw [redM_len]; omega)]
theorem set_set' {M : List (List Qi)} {r : Nat} {x y : List Qi} : (M.set r x).set r y = M.set r y := List.set_set ..
theorem rw_set {M : List (List Qi)} {r : Nat} {x : List Qi} (h : r < M.length) : rw' (M.set r x) r = x := by simp [rw', List.getD, h]
theorem rw_set_ne {M : List (List Qi)} {r i : Nat} {x : List Qi} (h : r ≠ i) : rw' (M.set r x) i = rw' M i := by simp [rw', List.getD, List.getElem?_set_ne h]
theorem set_rw {M : List (List Qi)} {r : Nat} (h : r < M.length) : M.set r (rw' M r) = M := by
  apply List.ext_getElem?
  intro j
  by_cases e : j = r
  · subst e; rw [List.getElem?_set_self h]; simp [rw', List.getD, h]
  · rw [List.getElem?_set_ne (Ne.symm e)]
theorem step_elt {X : List (List Qi)} {r c k : Nat} (hr : r < X.length) (hne : r ≠ c) (hk : k < (rw' X r).length) (hck : c < k) :
    (X.set r (redR (rw' X r) (rw' X c) c k)).set r ((rw' (X.set r (redR (rw' X r) (rw' X c) c k)) r).set k (gm (X.set r (redR (rw' X r) (rw' X c) c k)) r k - gm X r c / gm X c c * gm (X.set r (redR (rw' X r) (rw' X c) c k)) c k)) = X.set r (redR (rw' X r) (rw' X c) c (k + 1)) := by
  rw [set_set', rw_set hr]
  have e1 : gm (X.set r (redR (rw' X r) (rw' X c) c k)) r k = gv (redR (rw' X r) (rw' X c) c k) k := by show gv (rw' (X.set r _) r) k = _; rw [rw_set hr]
  have e2 : gm (X.set r (redR (rw' X r) (rw' X c) c k)) c k = gv (rw' X c) k := by show gv (rw' (X.set r _) c) k = _; rw [rw_set_ne hne]
  rw [e1, e2]
  exact congrArg _ (redR_next hk hck)
theorem step_row {D : List (List Qi)} {r c : Nat} (hr : r < D.length) (hc : c < r) : (redM D c r).set r (redR (rw' (redM D c r) r) (rw' (redM D c r) c) c (rw' D r).length) = redM D c (r + 1) := by
  rw [redM_at hr (by omega), redM_at (by omega) (by omega)]
  exact redM_next hr hc
theorem elt_r {X : List (List Qi)} {r c k : Nat} (hr : r < X.length) (hk : k < (rw' X r).length) (hck : c < k) : gm (X.set r (redR (rw' X r) (rw' X c) c k)) r k = gv (rw' X r) k := by
  show gv (rw' (X.set r _) r) k = _; rw [rw_set hr, redR_get hk hck]
theorem elt_c {X : List (List Qi)} {r c k : Nat} {y : List Qi} (hne : r ≠ c) : gm (X.set r y) c k = gv (rw' X c) k := by show gv (rw' (X.set r _) c) k = _; rw [rw_set_ne hne]
theorem elim_next {M A : List (List Qi)} {n c sw p : Nat} (hl : M.length = n) (h : elimTo M c = (A, sw, -1)) (hp : pv A c n = p) (hpn : p < n) : elimTo M (c + 1) = (redM (if p = c then A else swp [] A p c) c n, sw + (if p = c then 0 else 1), -1) := by
  simp only [elimTo, h, hl, hp]
  rw [if_neg (by decide), if_neg (by omega)]
theorem elim_end {M A : List (List Qi)} {n c sw : Nat} (hl : M.length = n) (h : elimTo M c = (A, sw, -1)) (hp : pv A c n = n) (hc : c < n) : elimTo M n = (A, sw, (c : Int)) := by
  have e : elimTo M (c + 1) = (A, sw, (c : Int)) := by
    simp only [elimTo, h, hl, hp]
    rw [if_neg (by decide)]; simp
  rw [elim_stop (c := c + 1) (by rw [e]; show (0 : Int) ≤ (c : Int); omega) hc, e]
end Go.Proofs.YtppibhcfaahgpaaGreat
namespace Go.Proofs.YtppibhcfaahgpaaGreat
open Go Go.RowKit
theorem meth_49_Clear (v : Value) (w : World) : (method (Tryz.prog.types.size + Made.depth) 49 v "Clear").run Tryz.prog w = .ok (60, v) w := by kernel_rfl
end Go.Proofs.YtppibhcfaahgpaaGreat
namespace Go.Proofs.YtppibhcfaahgpaaGreat
open Go Go.RowKit
set_option maxRecDepth 20000 in
theorem c_elimO {M : List (List Qi)} {n m L B : Nat} (hs : Shp M n m) (hf : FitM M L) (hL : 1 ≤ L) (hg : 6 * grow L n + 4 ≤ 17592186044415) (hnm : n ≤ m) (hm : m ≤ 1000) : FunO Tryz.prog 246 [Is (.slice (some ⟨B, 0, none⟩) n n)] [matO B 30 49 5 (FRow NumT M)] (Unit) (fun _ => TupT [NT .i64 (elimTo M n).2.1, IntT .i64 (elimTo M n).2.2]) (fun _ => [matO B 30 49 5 (FRow NumT (elimTo M n).1)]) (fun _ => True) := by
  have hs1 := hs.1
  refine FunO.intro Tryz.func246 rfl Tryz.ntmps246 rfl (fun cx Z => ?_)
  refine T_seq ?_
  refine T_region ?_
  refine R_op rfl rfl rfl (op_assign (Has.cN 0)) ?_
  refine R_op rfl rfl rfl (op_assign (Has.cN 0)) ?_
  refine R_nil ?_
  refine T_seq ?_
  refine T_region ?_
  refine R_op rfl rfl rfl (op_assign (Has.cN 0)) ?_
  refine R_nil ?_
  refine T_seq ?_
  refine T_seq ?_
  refine T_region ?_
  refine R_op rfl rfl rfl (op_move (Has.t rfl)) ?_
  refine R_op rfl rfl rfl (op_lenI Tryz.runUnderlying31 (Has.t rfl)) ?_
  refine R_op rfl rfl rfl (op_move (Has.cN 0)) ?_
  refine R_nil ?_
  refine T_block ?_
  refine T_openW 1 rfl (fun vs hvs => ?_)
  have hvs2 : Hds vs n := by have h := hvs; rw [List.length_map, hs1] at h; exact h
  refine T_loop4 (fun (c : Nat) (sw : Nat) (vs : List Value) (A : List (List Qi)) => (c ≤ n ∧ sw ≤ c) ∧ elimTo M c = (A, sw, -1) ∧ Hds vs n) (fun (c : Nat) (sw : Nat) (vs : List Value) (A : List (List Qi)) => n - c) (fun (c : Nat) (sw : Nat) (vs : List Value) (A : List (List Qi)) => [(0, Is (.slice (some ⟨B, 0, none⟩) n n)), (4, NT .i64 sw), (12, NT .i64 n), (13, NT .i64 c)]) (fun (c : Nat) (sw : Nat) (vs : List Value) (A : List (List Qi)) => [Z, matW B 30 49 5 vs vs (FRow NumT A)]) 0 0 vs M ⟨⟨Nat.zero_le _, Nat.le_refl _⟩, rfl, hvs2⟩
    (Sub.cons rfl (Sub.cons rfl (Sub.cons rfl (Sub.cons rfl Sub.nil)))) (HSub.refl _) (fun c sw vs A ⟨⟨hc, hsw⟩, hA, hvs⟩ => ?_)
  refine T_seq ?_
  refine T_region ?_
  refine R_op rfl rfl rfl (op_lssN (Has.t rfl) (Has.t rfl)) ?_
  refine R_nil ?_
  refine T_seq ?_
  refine T_cond (Has.t rfl) (fun hcn => ?_) (fun hcn => ?_)
  · simp only [decide_eq_true_eq] at hcn
    have hvl := hvs.len
    have hAs : Shp A n m := by have h := elim_shp hs hc; rw [hA] at h; exact h
    have hAf : FitM A (grow L c) := by have h := elim_fit hs hf hL hc; rw [hA] at h; exact h
    have hAl := hAs.1
    have hgr : grow L c ≤ grow L n := grow_mono L hc
    have hG1 : 1 ≤ grow L c := Nat.le_trans hL (grow_le L c)
    refine T_skip ?_
    refine T_seq ?_
    refine T_block ?_
    refine T_seq ?_
    refine T_region ?_
    refine R_op rfl rfl rfl (op_move (Has.t rfl)) ?_
    refine R_op rfl rfl rfl (op_assign (Has.t rfl)) ?_
    refine R_nil ?_
    refine T_seq ?_
    refine T_region ?_
    refine R_op rfl rfl rfl (op_move (Has.t rfl)) ?_
    refine R_op rfl rfl rfl (op_assign (Has.t rfl)) ?_
    refine R_nil ?_
    refine T_seq ?_
    refine T_block ?_
    refine T_loop (fun (p : Nat) => (c ≤ p ∧ p ≤ n) ∧ ∀ r, c ≤ r → r < p → gm A r c = Qi.zero) (fun (p : Nat) => n - p) (fun (p : Nat) => [(0, Is (.slice (some ⟨B, 0, none⟩) n n)), (4, NT .i64 sw), (5, NT .i64 c), (6, NT .i64 p), (12, NT .i64 n), (13, NT .i64 c)]) (fun (p : Nat) => [Z, matW B 30 49 5 vs vs (FRow NumT A)]) c ⟨⟨Nat.le_refl _, hc⟩, fun r h1 h2 => by omega⟩
      (Sub.cons rfl (Sub.cons rfl (Sub.cons rfl (Sub.cons rfl (Sub.cons rfl (Sub.cons rfl Sub.nil)))))) (HSub.refl _) (fun p ⟨⟨hcp, hpn⟩, hz⟩ => ?_)
    haveI fp : FitC (gm A p c) (grow L c) := hAf.get hG1 p c
    refine T_seq ?_
    refine T_seq ?_
    refine T_region ?_
    refine R_op rfl rfl rfl (op_move (Has.t rfl)) ?_
    refine R_op rfl rfl rfl (op_move (Has.t rfl)) ?_
    refine R_op rfl rfl rfl (op_lenI Tryz.runUnderlying31 (Has.t rfl)) ?_
    refine R_op rfl rfl rfl (op_lssN (Has.t rfl) (Has.t rfl)) ?_
    refine R_op rfl rfl rfl (op_move (Has.t rfl)) ?_
    refine R_step rfl rfl (S_when rfl rfl (Has.t rfl) (fun h => op_move (Has.t rfl))) ?_
    refine R_step rfl rfl (S_when rfl rfl (Has.t rfl) (fun h => op_move (Has.t rfl))) ?_
    refine R_step rfl rfl (S_when rfl rfl (Has.t rfl) (fun h => op_idxB Tryz.runUnderlying31 Tryz.sizeOf30 (Has.w rfl h) (Has.w rfl h) rfl (by first | omega | (simp at h; omega)) (by rw [Nat.mul_one, Nat.zero_add]))) ?_
    refine R_step rfl rfl (S_when rfl rfl (Has.t rfl) (fun h => op_ldHW Tryz.isAgg30 Tryz.sizeOf30 (Has.w rfl h) (j := 1) rfl (by simp at h; omega))) ?_
    refine R_step rfl rfl (S_when rfl rfl (Has.t rfl) (fun h => op_move (Has.t rfl))) ?_
    refine R_step rfl rfl (S_when rfl rfl (Has.t rfl) (fun h => op_idxW Tryz.runUnderlying30 Tryz.sizeOf49 (Has.w rfl h) (Has.w rfl h) rfl (j := 1) rfl (by omega) (by simp at h; omega) (by simp at h; rw [hAs.row h]; omega))) ?_
    refine R_step rfl rfl (S_when rfl rfl (Has.t rfl) (fun h => op_ldW Tryz.isAgg49 Tryz.sizeOf49 (Has.w rfl h) (j := 1) rfl (by omega) (by simp at h; omega) (by simp at h; rw [hAs.row h]; omega))) ?_
    refine R_step rfl rfl (S_when rfl rfl (Has.t rfl) (fun h => op_iface mkif_49 (Has.w rfl h))) ?_
    refine R_step rfl rfl (S_when rfl rfl (Has.t rfl) (fun h => op_invoke meth_49_Clear Tryz.call60 (c_Clear (x := gm A p c) (L := grow L c) (by omega)) (Has.w rfl h) trivial)) ?_
    refine R_step rfl rfl (S_when rfl rfl (Has.t rfl) (fun h => op_not (Has.w rfl h))) ?_
    refine R_op rfl rfl rfl (op_and (Has.t rfl) (fun h => (Has.w rfl h))) ?_
    refine R_nil ?_
    refine T_cond (Has.t rfl) (fun he => ?_) (fun he => ?_)
    · have he2 : p < n ∧ gm A p c = Qi.zero := by simpa using he
      refine T_skip ?_
      refine T_block ?_
      refine T_region ?_
      refine R_op rfl rfl rfl (op_move (Has.t rfl)) ?_
      refine R_op rfl rfl rfl (op_addN (Has.t rfl) (Has.cN 1) (by show _ < 9223372036854775808; first | omega | (simp only [lim]; omega))) ?_
      refine R_op rfl rfl rfl (op_assign (Has.t rfl)) ?_
      refine R_nil ?_
      refine T_blk ?_
      refine T_again (p + 1) ⟨⟨by omega, by omega⟩, fun r h1 h2 => by
          by_cases e : r = p
          · rw [e]; exact he2.2
          · exact hz r h1 (by omega)⟩ (by omega) (Sub.cons rfl (Sub.cons rfl (Sub.cons rfl (Sub.cons rfl (Sub.cons rfl (Sub.cons rfl Sub.nil)))))) (HSub.refl _)
    · have hpv : pv A c n = p := pv_eq hcp hpn hz (fun h => by simp at he; exact he h)
      refine T_exit rfl ?_
      refine T_seq ?_
      refine T_seq ?_
      refine T_region ?_
      refine R_op rfl rfl rfl (op_move (Has.t rfl)) ?_
      refine R_op rfl rfl rfl (op_move (Has.t rfl)) ?_
      refine R_op rfl rfl rfl (op_lenI Tryz.runUnderlying31 (Has.t rfl)) ?_
      refine R_op rfl rfl rfl (op_eqlN (Has.t rfl) (Has.t rfl)) ?_
      refine R_nil ?_
      refine T_cond (Has.t rfl) (fun hp => ?_) (fun hp => ?_)
      · have hp2 : p = n := by simpa using hp
        have hend := elim_end hs1 hA (by rw [hpv]; exact hp2) hcn
        refine T_seq ?_
        refine T_region ?_
        refine R_op rfl rfl rfl (op_move (Has.t rfl)) ?_
        refine R_op rfl rfl rfl (op_move (Has.t rfl)) ?_
        refine R_op rfl rfl rfl (op_assign (Has.t rfl)) ?_
        refine R_op rfl rfl rfl (op_assign (Has.t rfl)) ?_
        refine R_nil ?_
        exact T_retO () trivial [0, 1] ⟨⟨_, rfl, fun _ _ _ h => h⟩, ⟨_, rfl, (fun S w V h => matO_of (by rw [hend]) S w V (matW_close (by rw [List.length_map]; omega) S w V h))⟩, trivial⟩ (by decide) (rvs2 rfl (rv_to (rv_tmp rfl) (nt_of (by rw [hend]))) (rv_to (rv_tmp rfl) (int_of (by rw [hend]))))
      · have hp2 : p < n := by simp at hp; omega
        have hpz := (pv_spec (M := A) (c := c) (n := n) hc).2.2.2 (by rw [hpv]; exact hp2)
        rw [hpv] at hpz
        have hnx := elim_next hs1 hA hpv hp2
        refine T_skip ?_
        refine T_seq ?_
        refine T_join3 (fun (q : Nat) (us : List Value) (D : List (List Qi)) => (q = sw + (if p = c then 0 else 1) ∧ D = (if p = c then A else swp [] A p c)) ∧ Hds us n) (fun (q : Nat) (us : List Value) (D : List (List Qi)) => [(0, Is (.slice (some ⟨B, 0, none⟩) n n)), (4, NT .i64 q), (5, NT .i64 c), (12, NT .i64 n), (13, NT .i64 c)]) (fun (q : Nat) (us : List Value) (D : List (List Qi)) => [Z, matW B 30 49 5 us us (FRow NumT D)]) ?_ (fun q us D ⟨⟨hq, hD⟩, hus⟩ => ?_)
        · refine T_seq ?_
          refine T_region ?_
          refine R_op rfl rfl rfl (op_move (Has.t rfl)) ?_
          refine R_op rfl rfl rfl (op_move (Has.t rfl)) ?_
          refine R_op rfl rfl rfl (op_neqN (Has.t rfl) (Has.t rfl)) ?_
          refine R_nil ?_
          refine T_cond (Has.t rfl) (fun hpc => ?_) (fun hpc => ?_)
          · have hpc2 : ¬ p = c := by simpa using hpc
            refine T_seq ?_
            refine Y.D_start (m := 14) [(13, 1, matW B 30 49 5 (vs.set p (hd vs c)) vs (FRow NumT A))] ?_
            refine Y.D_step (Ei := [(0, _)]) rfl rfl (Y.Srcs.cons (Y.Src.pre rfl rfl) Y.Srcs.nil) rfl rfl (by kernel_rfl) (S_plain rfl (op_move (Has.t rfl))) ?_
            refine Y.D_step (Ei := [(6, _)]) rfl rfl (Y.Srcs.cons (Y.Src.pre rfl rfl) Y.Srcs.nil) rfl rfl (by kernel_rfl) (S_plain rfl (op_move (Has.t rfl))) ?_
            refine Y.D_hide (Ei := [(0, _)]) rfl rfl (Y.Srcs.cons (Y.Src.pre rfl rfl) Y.Srcs.nil) rfl rfl (S_plain rfl (op_move (Has.t rfl))) ?_
            refine Y.D_hide (Ei := [(5, _)]) rfl rfl (Y.Srcs.cons (Y.Src.pre rfl rfl) Y.Srcs.nil) rfl rfl (S_plain rfl (op_move (Has.t rfl))) ?_
            refine Y.D_step (Ei := [(0, _)]) rfl rfl (Y.Srcs.cons (Y.Src.pre rfl rfl) Y.Srcs.nil) rfl rfl (by kernel_rfl) (S_plain rfl (op_move (Has.t rfl))) ?_
            refine Y.D_step (Ei := [(5, _)]) rfl rfl (Y.Srcs.cons (Y.Src.pre rfl rfl) Y.Srcs.nil) rfl rfl (by kernel_rfl) (S_plain rfl (op_move (Has.t rfl))) ?_
            refine Y.D_step (Ei := [(48, _), (49, _)]) rfl rfl (Y.Srcs.cons (Y.Src.op 4 rfl rfl) (Y.Srcs.cons (Y.Src.op 5 rfl rfl) Y.Srcs.nil)) rfl rfl (by kernel_rfl) (S_plain rfl (op_idxB Tryz.runUnderlying31 Tryz.sizeOf30 (Has.t rfl) (Has.t rfl) rfl (by omega) (by rw [Nat.mul_one, Nat.zero_add]))) ?_
            refine Y.D_step (Ei := [(50, _)]) rfl rfl (Y.Srcs.cons (Y.Src.op 6 rfl rfl) Y.Srcs.nil) rfl rfl (by kernel_rfl) (S_plain rfl (op_ldHW Tryz.isAgg30 Tryz.sizeOf30 (Has.t rfl) (j := 1) rfl (by omega))) ?_
            refine Y.D_step (Ei := [(0, _)]) rfl rfl (Y.Srcs.cons (Y.Src.pre rfl rfl) Y.Srcs.nil) rfl rfl (by kernel_rfl) (S_plain rfl (op_move (Has.t rfl))) ?_
            refine Y.D_step (Ei := [(6, _)]) rfl rfl (Y.Srcs.cons (Y.Src.pre rfl rfl) Y.Srcs.nil) rfl rfl (by kernel_rfl) (S_plain rfl (op_move (Has.t rfl))) ?_
            refine Y.D_step (Ei := [(52, _), (53, _)]) rfl rfl (Y.Srcs.cons (Y.Src.op 8 rfl rfl) (Y.Srcs.cons (Y.Src.op 9 rfl rfl) Y.Srcs.nil)) rfl rfl (by kernel_rfl) (S_plain rfl (op_idxB Tryz.runUnderlying31 Tryz.sizeOf30 (Has.t rfl) (Has.t rfl) rfl (by omega) (by rw [Nat.mul_one, Nat.zero_add]))) ?_
            refine Y.D_step (Ei := [(54, _)]) rfl rfl (Y.Srcs.cons (Y.Src.op 10 rfl rfl) Y.Srcs.nil) rfl rfl (by kernel_rfl) (S_plain rfl (op_ldHW Tryz.isAgg30 Tryz.sizeOf30 (Has.t rfl) (j := 1) rfl (by omega))) ?_
            refine Y.D_step (Ei := [(44, _), (45, _)]) rfl rfl (Y.Srcs.cons (Y.Src.op 0 rfl rfl) (Y.Srcs.cons (Y.Src.op 1 rfl rfl) Y.Srcs.nil)) rfl rfl (by kernel_rfl) (S_plain rfl (op_idxB Tryz.runUnderlying31 Tryz.sizeOf30 (Has.t rfl) (Has.t rfl) rfl (by omega) (by rw [Nat.mul_one, Nat.zero_add]))) ?_
            refine Y.D_putI (Ei := [(56, _), (51, _)]) 1 rfl rfl rfl (Y.Srcs.cons (Y.Src.op 12 rfl rfl) (Y.Srcs.cons (Y.Src.op 7 rfl rfl) Y.Srcs.nil)) (.head _) rfl (P_stHW Tryz.sizeOf30 (Has.t rfl) (Has.t rfl) (hvs.pl c (by omega)) (i := p) (hs := vs) (by omega)) ?_
            refine Y.D_done mixed rfl (by kernel_rfl) rfl (by simp [Y.okP]) rfl rfl (Y.F_val (Y.F_val (Y.F_val (Y.F_val (Y.F_val (Y.F_val (Y.F_val (Y.F_val (Y.F_val (Y.F_val (Y.F_val (Y.F_val (Y.F_val (Y.F_putI (Y.F_nil ?_)))))))))))))))
            refine R_op rfl rfl rfl (op_idxB Tryz.runUnderlying31 Tryz.sizeOf30 (Has.t rfl) (Has.t rfl) rfl (by omega) (by rw [Nat.mul_one, Nat.zero_add])) ?_
            refine R_stHW Tryz.sizeOf30 (Has.t rfl) (Has.t rfl) (j := 1) rfl (hvs.pl p (by omega)) (by rw [List.length_set]; omega) rfl ?_
            refine R_nil ?_
            refine T_conv 1 rfl (matW_swap (hs := swp nilV vs p c) (p := p) (c := c) (by omega) (by omega) (by omega)) ?_
            refine T_region ?_
            refine R_op rfl rfl rfl (op_move (Has.t rfl)) ?_
            refine R_op rfl rfl rfl (op_addN (Has.t rfl) (Has.cN 1) (by show _ < 9223372036854775808; first | omega | (simp only [lim]; omega))) ?_
            refine R_op rfl rfl rfl (op_assign (Has.t rfl)) ?_
            refine R_nil ?_
            refine T_joined (sw + 1, swp nilV vs p c, swp [] A p c) ⟨⟨by rw [if_neg hpc2], by rw [if_neg hpc2]⟩, hvs.swp hp2 hcn⟩ (Sub.cons rfl (Sub.cons rfl (Sub.cons rfl (Sub.cons rfl (Sub.cons rfl Sub.nil))))) (HSub.refl _)
          · have hpc2 : p = c := by simpa using hpc
            refine T_skip ?_
            refine T_joined (sw, vs, A) ⟨⟨by rw [if_pos hpc2]; rfl, by rw [if_pos hpc2]⟩, hvs⟩ (Sub.cons rfl (Sub.cons rfl (Sub.cons rfl (Sub.cons rfl (Sub.cons rfl Sub.nil))))) (HSub.refl _)
        · have hul := hus.len
          rw [← hq, ← hD] at hnx
          have hDs : Shp D n m := by rw [hD]; split; exact hAs; exact swp_shp hAs hp2 hcn
          have hDf : FitM D (grow L c) := by rw [hD]; split; exact hAf; exact swp_fit hAf
          have hDl := hDs.1
          have hDz : gm D c c ≠ Qi.zero := by
            rw [hD]; split
            · rename_i e; rw [e] at hpz; exact hpz
            · show gv (rw' (swp [] A p c) c) c ≠ _
              rw [swp_at (by omega)]; exact hpz
          refine T_seq ?_
          refine T_region ?_
          refine R_op rfl rfl rfl (op_move (Has.t rfl)) ?_
          refine R_op rfl rfl rfl (op_addN (Has.t rfl) (Has.cN 1) (by show _ < 9223372036854775808; first | omega | (simp only [lim]; omega))) ?_
          refine R_op rfl rfl rfl (op_assign (Has.t rfl)) ?_
          refine R_nil ?_
          refine T_block ?_
          refine T_loop (fun (r : Nat) => c < r ∧ r ≤ n) (fun (r : Nat) => n - r) (fun (r : Nat) => [(0, Is (.slice (some ⟨B, 0, none⟩) n n)), (4, NT .i64 q), (5, NT .i64 c), (7, NT .i64 r), (12, NT .i64 n), (13, NT .i64 c)]) (fun (r : Nat) => [Z, matW B 30 49 5 us us (FRow NumT (redM D c r))]) (c + 1) ⟨Nat.lt_succ_self _, hcn⟩
            (Sub.cons rfl (Sub.cons rfl (Sub.cons rfl (Sub.cons rfl (Sub.cons rfl (Sub.cons rfl Sub.nil)))))) (HSub.cons (fun _ _ _ h => h) (HSub.cons (matW_of (congrArg _ redM_start)) HSub.nil)) (fun r ⟨hcr, hrn⟩ => ?_)
          refine T_seq ?_
          refine T_seq ?_
          refine T_region ?_
          refine R_op rfl rfl rfl (op_move (Has.t rfl)) ?_
          refine R_op rfl rfl rfl (op_move (Has.t rfl)) ?_
          refine R_op rfl rfl rfl (op_lenI Tryz.runUnderlying31 (Has.t rfl)) ?_
          refine R_op rfl rfl rfl (op_lssN (Has.t rfl) (Has.t rfl)) ?_
          refine R_nil ?_
          refine T_cond (Has.t rfl) (fun hr => ?_) (fun hr => ?_)
          · simp only [decide_eq_true_eq] at hr
            obtain ⟨X, hX⟩ : ∃ X, X = redM D c r := ⟨_, rfl⟩
            have hXr : rw' X r = rw' D r := by rw [hX]; exact redM_at (by omega) (by omega)
            have hXc : rw' X c = rw' D c := by rw [hX]; exact redM_at (by omega) (by omega)
            have hXl : X.length = n := by rw [hX, redM_len]; exact hDl
            have hXrl : (rw' X r).length = m := by rw [hXr]; exact hDs.row hr
            have hXcl : (rw' X c).length = m := by rw [hXc]; exact hDs.row hcn
            have hXrg : (X.getD r []).length = m := hXrl
            have hXcg : (X.getD c []).length = m := hXcl
            have hXfr : FitL (rw' X r) (grow L c) := by rw [hXr]; exact hDf.row r
            have hXfc : FitL (rw' X c) (grow L c) := by rw [hXc]; exact hDf.row c
            haveI g1 : FitC (gm X r c) (grow L c) := hXfr.get hG1 c
            haveI g2 : FitC (gm X c c) (grow L c) := hXfc.get hG1 c
            have hXz : gm X c c ≠ Qi.zero := by show gv (rw' X c) c ≠ _; rw [hXc]; exact hDz
            haveI g3 : FitC (gm X r c / gm X c c) (grow L c + 3 * grow L c + 2) := ⟨g1.fit.div g2.fit hXz⟩
            have hend := step_row (D := D) (r := r) (c := c) (by omega) hcr
            rw [← hX] at hend ⊢
            refine T_skip ?_
            refine T_seq ?_
            refine T_block ?_
            refine T_seq ?_
            refine Y.D_start (m := 21) [] ?_
            refine Y.D_hide (Ei := [(0, _)]) rfl rfl (Y.Srcs.cons (Y.Src.pre rfl rfl) Y.Srcs.nil) rfl rfl (S_plain rfl (op_move (Has.t rfl))) ?_
            refine Y.D_hide (Ei := [(7, _)]) rfl rfl (Y.Srcs.cons (Y.Src.pre rfl rfl) Y.Srcs.nil) rfl rfl (S_plain rfl (op_move (Has.t rfl))) ?_
            refine Y.D_hide (Ei := [(69, _), (70, _)]) rfl rfl (Y.Srcs.cons (Y.Src.op 0 rfl rfl) (Y.Srcs.cons (Y.Src.op 1 rfl rfl) Y.Srcs.nil)) rfl rfl (S_plain rfl (op_idxB Tryz.runUnderlying31 Tryz.sizeOf30 (Has.t rfl) (Has.t rfl) rfl (by omega) (by rw [Nat.mul_one, Nat.zero_add]))) ?_
            refine Y.D_hide (Ei := [(71, _)]) rfl rfl (Y.Srcs.cons (Y.Src.op 2 rfl rfl) Y.Srcs.nil) rfl rfl (S_plain rfl (op_ldHW Tryz.isAgg30 Tryz.sizeOf30 (Has.t rfl) (j := 1) rfl (by omega))) ?_
            refine Y.D_hide (Ei := [(5, _)]) rfl rfl (Y.Srcs.cons (Y.Src.pre rfl rfl) Y.Srcs.nil) rfl rfl (S_plain rfl (op_move (Has.t rfl))) ?_
            refine Y.D_hide (Ei := [(72, _), (73, _)]) rfl rfl (Y.Srcs.cons (Y.Src.op 3 rfl rfl) (Y.Srcs.cons (Y.Src.op 4 rfl rfl) Y.Srcs.nil)) rfl rfl (S_plain rfl (op_idxW Tryz.runUnderlying30 Tryz.sizeOf49 (Has.t rfl) (Has.t rfl) rfl (j := 1) rfl (by omega) (by omega) (by omega))) ?_
            refine Y.D_hide (Ei := [(74, _)]) rfl rfl (Y.Srcs.cons (Y.Src.op 5 rfl rfl) Y.Srcs.nil) rfl rfl (S_plain rfl (op_ldW Tryz.isAgg49 Tryz.sizeOf49 (Has.t rfl) (j := 1) rfl (by omega) (by omega) (by omega))) ?_
            refine Y.D_hide (Ei := [(75, _)]) rfl rfl (Y.Srcs.cons (Y.Src.op 6 rfl rfl) Y.Srcs.nil) rfl rfl (S_plain rfl (op_iface mkif_49 (Has.t rfl))) ?_
            refine Y.D_hide (Ei := [(0, _)]) rfl rfl (Y.Srcs.cons (Y.Src.pre rfl rfl) Y.Srcs.nil) rfl rfl (S_plain rfl (op_move (Has.t rfl))) ?_
            refine Y.D_hide (Ei := [(5, _)]) rfl rfl (Y.Srcs.cons (Y.Src.pre rfl rfl) Y.Srcs.nil) rfl rfl (S_plain rfl (op_move (Has.t rfl))) ?_
            refine Y.D_hide (Ei := [(77, _), (78, _)]) rfl rfl (Y.Srcs.cons (Y.Src.op 8 rfl rfl) (Y.Srcs.cons (Y.Src.op 9 rfl rfl) Y.Srcs.nil)) rfl rfl (S_plain rfl (op_idxB Tryz.runUnderlying31 Tryz.sizeOf30 (Has.t rfl) (Has.t rfl) rfl (by omega) (by rw [Nat.mul_one, Nat.zero_add]))) ?_
            refine Y.D_hide (Ei := [(79, _)]) rfl rfl (Y.Srcs.cons (Y.Src.op 10 rfl rfl) Y.Srcs.nil) rfl rfl (S_plain rfl (op_ldHW Tryz.isAgg30 Tryz.sizeOf30 (Has.t rfl) (j := 1) rfl (by omega))) ?_
            refine Y.D_hide (Ei := [(5, _)]) rfl rfl (Y.Srcs.cons (Y.Src.pre rfl rfl) Y.Srcs.nil) rfl rfl (S_plain rfl (op_move (Has.t rfl))) ?_
            refine Y.D_hide (Ei := [(80, _), (81, _)]) rfl rfl (Y.Srcs.cons (Y.Src.op 11 rfl rfl) (Y.Srcs.cons (Y.Src.op 12 rfl rfl) Y.Srcs.nil)) rfl rfl (S_plain rfl (op_idxW Tryz.runUnderlying30 Tryz.sizeOf49 (Has.t rfl) (Has.t rfl) rfl (j := 1) rfl (by omega) (by omega) (by omega))) ?_
            refine Y.D_hide (Ei := [(82, _)]) rfl rfl (Y.Srcs.cons (Y.Src.op 13 rfl rfl) Y.Srcs.nil) rfl rfl (S_plain rfl (op_ldW Tryz.isAgg49 Tryz.sizeOf49 (Has.t rfl) (j := 1) rfl (by omega) (by omega) (by omega))) ?_
            refine Y.D_hide (Ei := [(76, _), (83, _)]) rfl rfl (Y.Srcs.cons (Y.Src.op 7 rfl rfl) (Y.Srcs.cons (Y.Src.op 14 rfl rfl) Y.Srcs.nil)) rfl rfl (S_plain rfl (op_invoke meth_49_Div Tryz.call174 (c_Div (x := gm X r c) (y := gm X c c) (L := grow L c) (M := grow L c) (by omega)) (Has.t rfl) ⟨(Has.t rfl), trivial⟩)) ?_
            refine Y.D_hide (Ei := [(84, _)]) rfl rfl (Y.Srcs.cons (Y.Src.op 15 rfl rfl) Y.Srcs.nil) rfl rfl (S_plain rfl (op_move (Has.t rfl))) ?_
            refine Y.D_hide (Ei := [(68, _)]) rfl rfl (Y.Srcs.cons (Y.Src.op 16 rfl rfl) Y.Srcs.nil) rfl rfl (S_plain rfl (op_extract (Has.t rfl) rfl)) ?_
            refine Y.D_hide (Ei := [(68, _)]) rfl rfl (Y.Srcs.cons (Y.Src.op 16 rfl rfl) Y.Srcs.nil) rfl rfl (S_plain rfl (op_extract (Has.t rfl) rfl)) ?_
            refine Y.D_newp (Ei := []) (fun bb => box bb 49 [BoolT (decide ((gm X r c / gm X c c).a < 0)), NatT (gm X r c / gm X c c).a.natAbs, BoolT (decide ((gm X r c / gm X c c).b < 0)), NatT (gm X r c / gm X c c).b.natAbs, NatT (du (gm X r c / gm X c c))]) 20 rfl rfl rfl Y.Srcs.nil rfl rfl (by kernel_rfl) (new_alloc (Ts := [Is (.bool false), Is (.slice none 0 0), Is (.bool false), Is (.slice none 0 0), Is (.slice none 0 0)]) Tryz.zeroValue49 rfl (fun V => Cells.cons' ⟨rfl, trivial⟩ (Cells.cons' ⟨rfl, trivial⟩ (Cells.cons' ⟨rfl, trivial⟩ (Cells.cons' ⟨rfl, trivial⟩ (Cells.cons' ⟨rfl, trivial⟩ (Cells.nil))))))) ?_
            refine Y.D_putN (Ei := [(85, _)]) 19 rfl rfl rfl rfl rfl rfl (Y.Srcs.cons (Y.Src.op 17 rfl rfl) Y.Srcs.nil) (fun bb => P_stA Tryz.sizeOf49 (Has.t rfl) (Has.t rfl) rfl (i := 0) rfl (Nat.le_of_ble_eq_true rfl) rfl rfl) ?_
            refine Y.D_done mixed rfl (by kernel_rfl) rfl (by simp [Y.okP]) rfl rfl (Y.F_val (Y.F_val (Y.F_val (Y.F_val (Y.F_val (Y.F_val (Y.F_val (Y.F_val (Y.F_val (Y.F_val (Y.F_val (Y.F_val (Y.F_val (Y.F_val (Y.F_val (Y.F_val (Y.F_val (Y.F_val (Y.F_val (Y.F_newp (fun B8 => Y.F_putN (Y.F_nil ?_))))))))))))))))))))))
            refine R_op rfl rfl rfl (op_assign (Has.t rfl)) ?_
            refine R_nil ?_
            refine T_seq ?_
            refine T_region ?_
            refine R_op rfl rfl rfl (op_move (Has.t rfl)) ?_
            refine R_op rfl rfl rfl (op_addN (Has.t rfl) (Has.cN 1) (by show _ < 9223372036854775808; first | omega | (simp only [lim]; omega))) ?_
            refine R_op rfl rfl rfl (op_assign (Has.t rfl)) ?_
            refine R_nil ?_
            refine T_block ?_
            refine T_loop (fun (k : Nat) => c < k ∧ k ≤ m) (fun (k : Nat) => m - k) (fun (k : Nat) => [(0, Is (.slice (some ⟨B, 0, none⟩) n n)), (4, NT .i64 q), (5, NT .i64 c), (7, NT .i64 r), (8, PtrB B8 0), (10, NT .i64 k), (12, NT .i64 n), (13, NT .i64 c)]) (fun (k : Nat) => [Z, matW B 30 49 5 us us (FRow NumT (X.set r (redR (rw' X r) (rw' X c) c k))), box B8 49 [BoolT (decide ((gm X r c / gm X c c).a < 0)), NatT (gm X r c / gm X c c).a.natAbs, BoolT (decide ((gm X r c / gm X c c).b < 0)), NatT (gm X r c / gm X c c).b.natAbs, NatT (du (gm X r c / gm X c c))]]) (c + 1) ⟨Nat.lt_succ_self _, by omega⟩
              (Sub.cons rfl (Sub.cons rfl (Sub.cons rfl (Sub.cons rfl (Sub.cons rfl (Sub.cons rfl (Sub.cons rfl (Sub.cons rfl Sub.nil)))))))) (HSub.cons (fun _ _ _ h => h) (HSub.cons (matW_of (by rw [← redR_start, set_rw (by omega)])) (HSub.cons (box_of rfl) HSub.nil))) (fun k ⟨hck, hkm⟩ => ?_)
            obtain ⟨Y, hY⟩ : ∃ Y, Y = (X.set r (redR (rw' X r) (rw' X c) c k)) := ⟨_, rfl⟩
            have hYl : Y.length = n := by rw [hY, List.length_set]; exact hXl
            have hYrl : (rw' Y r).length = m := by rw [hY, rw_set (by omega), redR_len]; exact hXrl
            have hYcl : (rw' Y c).length = m := by rw [hY, rw_set_ne (by omega)]; exact hXcl
            have hYrg : (Y.getD r []).length = m := hYrl
            have hYcg : (Y.getD c []).length = m := hYcl
            rw [← hY]
            refine T_seq ?_
            refine T_seq ?_
            refine T_region ?_
            refine R_op rfl rfl rfl (op_move (Has.t rfl)) ?_
            refine R_op rfl rfl rfl (op_move (Has.t rfl)) ?_
            refine R_op rfl rfl rfl (op_move (Has.t rfl)) ?_
            refine R_op rfl rfl rfl (op_idxB Tryz.runUnderlying31 Tryz.sizeOf30 (Has.t rfl) (Has.t rfl) rfl (by omega) (by rw [Nat.mul_one, Nat.zero_add])) ?_
            refine R_op rfl rfl rfl (op_ldHW Tryz.isAgg30 Tryz.sizeOf30 (Has.t rfl) (j := 1) rfl (by omega)) ?_
            refine R_op rfl rfl rfl (op_lenW Tryz.runUnderlying30 (Has.t rfl) (j := 1) rfl (by omega) (by omega)) ?_
            refine R_op rfl rfl rfl (op_lssN (Has.t rfl) (Has.t rfl)) ?_
            refine R_nil ?_
            refine T_cond (Has.t rfl) (fun hk => ?_) (fun hk => ?_)
            · have hk2 : k < m := by simp only [decide_eq_true_eq] at hk; omega
              have e1 : gm Y r k = gv (rw' X r) k := by rw [hY]; exact elt_r (by omega) (by omega) hck
              have e2 : gm Y c k = gv (rw' X c) k := by rw [hY]; exact elt_c (by omega)
              haveI y1 : FitC (gm Y r k) (grow L c) := by rw [e1]; exact hXfr.get hG1 k
              haveI y2 : FitC (gm Y c k) (grow L c) := by rw [e2]; exact hXfc.get hG1 k
              have hst := step_elt (X := X) (r := r) (c := c) (k := k) (by omega) (by omega) (by omega) hck
              rw [← hY] at hst
              refine T_skip ?_
              refine T_seq ?_
              refine T_block ?_
              refine D_start (m := 24) ?_
              refine D_step (Ei := [(0, _)]) rfl rfl (Srcs.cons (Src.pre rfl rfl) Srcs.nil) (S_plain rfl (op_move (Has.t rfl))) ?_
              refine D_step (Ei := [(7, _)]) rfl rfl (Srcs.cons (Src.pre rfl rfl) Srcs.nil) (S_plain rfl (op_move (Has.t rfl))) ?_
              refine D_step (Ei := [(98, _), (99, _)]) rfl rfl (Srcs.cons (Src.op 0 rfl rfl) (Srcs.cons (Src.op 1 rfl rfl) Srcs.nil)) (S_plain rfl (op_idxB Tryz.runUnderlying31 Tryz.sizeOf30 (Has.t rfl) (Has.t rfl) rfl (by omega) (by rw [Nat.mul_one, Nat.zero_add]))) ?_
              refine D_step (Ei := [(100, _)]) rfl rfl (Srcs.cons (Src.op 2 rfl rfl) Srcs.nil) (S_plain rfl (op_ldHW Tryz.isAgg30 Tryz.sizeOf30 (Has.t rfl) (j := 1) rfl (by omega))) ?_
              refine D_step (Ei := [(10, _)]) rfl rfl (Srcs.cons (Src.pre rfl rfl) Srcs.nil) (S_plain rfl (op_move (Has.t rfl))) ?_
              refine D_step (Ei := [(0, _)]) rfl rfl (Srcs.cons (Src.pre rfl rfl) Srcs.nil) (S_plain rfl (op_move (Has.t rfl))) ?_
              refine D_step (Ei := [(7, _)]) rfl rfl (Srcs.cons (Src.pre rfl rfl) Srcs.nil) (S_plain rfl (op_move (Has.t rfl))) ?_
              refine D_step (Ei := [(103, _), (104, _)]) rfl rfl (Srcs.cons (Src.op 5 rfl rfl) (Srcs.cons (Src.op 6 rfl rfl) Srcs.nil)) (S_plain rfl (op_idxB Tryz.runUnderlying31 Tryz.sizeOf30 (Has.t rfl) (Has.t rfl) rfl (by omega) (by rw [Nat.mul_one, Nat.zero_add]))) ?_
              refine D_step (Ei := [(105, _)]) rfl rfl (Srcs.cons (Src.op 7 rfl rfl) Srcs.nil) (S_plain rfl (op_ldHW Tryz.isAgg30 Tryz.sizeOf30 (Has.t rfl) (j := 1) rfl (by omega))) ?_
              refine D_step (Ei := [(10, _)]) rfl rfl (Srcs.cons (Src.pre rfl rfl) Srcs.nil) (S_plain rfl (op_move (Has.t rfl))) ?_
              refine D_step (Ei := [(106, _), (107, _)]) rfl rfl (Srcs.cons (Src.op 8 rfl rfl) (Srcs.cons (Src.op 9 rfl rfl) Srcs.nil)) (S_plain rfl (op_idxW Tryz.runUnderlying30 Tryz.sizeOf49 (Has.t rfl) (Has.t rfl) rfl (j := 1) rfl (by omega) (by omega) (by omega))) ?_
              refine D_step (Ei := [(108, _)]) rfl rfl (Srcs.cons (Src.op 10 rfl rfl) Srcs.nil) (S_plain rfl (op_ldW Tryz.isAgg49 Tryz.sizeOf49 (Has.t rfl) (j := 1) rfl (by omega) (by omega) (by omega))) ?_
              refine D_step (Ei := [(109, _)]) rfl rfl (Srcs.cons (Src.op 11 rfl rfl) Srcs.nil) (S_plain rfl (op_iface mkif_49 (Has.t rfl))) ?_
              refine D_step (Ei := [(8, _)]) rfl rfl (Srcs.cons (Src.pre rfl rfl) Srcs.nil) (S_plain rfl (op_ldBA Tryz.isAgg49 Tryz.sizeOf49 (Has.t rfl) (i := 2) rfl rfl rfl)) ?_
              refine D_step (Ei := [(111, _)]) rfl rfl (Srcs.cons (Src.op 13 rfl rfl) Srcs.nil) (S_plain rfl (op_iface mkif_49 (Has.t rfl))) ?_
              refine D_step (Ei := [(0, _)]) rfl rfl (Srcs.cons (Src.pre rfl rfl) Srcs.nil) (S_plain rfl (op_move (Has.t rfl))) ?_
              refine D_step (Ei := [(5, _)]) rfl rfl (Srcs.cons (Src.pre rfl rfl) Srcs.nil) (S_plain rfl (op_move (Has.t rfl))) ?_
              refine D_step (Ei := [(113, _), (114, _)]) rfl rfl (Srcs.cons (Src.op 15 rfl rfl) (Srcs.cons (Src.op 16 rfl rfl) Srcs.nil)) (S_plain rfl (op_idxB Tryz.runUnderlying31 Tryz.sizeOf30 (Has.t rfl) (Has.t rfl) rfl (by omega) (by rw [Nat.mul_one, Nat.zero_add]))) ?_
              refine D_step (Ei := [(115, _)]) rfl rfl (Srcs.cons (Src.op 17 rfl rfl) Srcs.nil) (S_plain rfl (op_ldHW Tryz.isAgg30 Tryz.sizeOf30 (Has.t rfl) (j := 1) rfl (by omega))) ?_
              refine D_step (Ei := [(10, _)]) rfl rfl (Srcs.cons (Src.pre rfl rfl) Srcs.nil) (S_plain rfl (op_move (Has.t rfl))) ?_
              refine D_step (Ei := [(116, _), (117, _)]) rfl rfl (Srcs.cons (Src.op 18 rfl rfl) (Srcs.cons (Src.op 19 rfl rfl) Srcs.nil)) (S_plain rfl (op_idxW Tryz.runUnderlying30 Tryz.sizeOf49 (Has.t rfl) (Has.t rfl) rfl (j := 1) rfl (by omega) (by omega) (by omega))) ?_
              refine D_step (Ei := [(118, _)]) rfl rfl (Srcs.cons (Src.op 20 rfl rfl) Srcs.nil) (S_plain rfl (op_ldW Tryz.isAgg49 Tryz.sizeOf49 (Has.t rfl) (j := 1) rfl (by omega) (by omega) (by omega))) ?_
              refine D_step (Ei := [(112, _), (119, _)]) rfl rfl (Srcs.cons (Src.op 14 rfl rfl) (Srcs.cons (Src.op 21 rfl rfl) Srcs.nil)) (S_plain rfl (op_invoke meth_49_Mul Tryz.call56 (c_Mul (x := gm X r c / gm X c c) (y := gm Y c k) (L := grow L c + 3 * grow L c + 2) (M := grow L c) (by omega)) (Has.t rfl) ⟨(Has.t rfl), trivial⟩)) ?_
              refine D_step (Ei := [(110, _), (120, _)]) rfl rfl (Srcs.cons (Src.op 12 rfl rfl) (Srcs.cons (Src.op 22 rfl rfl) Srcs.nil)) (S_plain rfl (op_invoke meth_49_Sub Tryz.call58 (c_Sub (x := gm Y r k) (y := gm X r c / gm X c c * gm Y c k) (L := grow L c) (M := grow L c + 3 * grow L c + 2 + grow L c + 1) (by omega)) (Has.t rfl) ⟨(Has.t rfl), trivial⟩)) ?_
              refine D_done mixed rfl (by kernel_rfl) (F_val (F_val (F_val (F_val (F_val (F_val (F_val (F_val (F_val (F_val (F_val (F_val (F_val (F_val (F_val (F_val (F_val (F_val (F_val (F_val (F_val (F_val (F_val (F_val (F_nil ?_)))))))))))))))))))))))))
              refine R_op rfl rfl rfl (op_idxW Tryz.runUnderlying30 Tryz.sizeOf49 (Has.t rfl) (Has.t rfl) rfl (j := 1) rfl (by omega) (by omega) (by omega)) ?_
              refine R_stW Tryz.sizeOf49 (Has.t rfl) (Has.t rfl) (j := 1) rfl (El.ag rfl) (F := NumT) (z := gm Y r k - gm X r c / gm X c c * gm Y c k) (by omega) (by omega) (by omega) rfl ?_
              refine R_nil ?_
              refine T_blk ?_
              refine T_region ?_
              refine R_op rfl rfl rfl (op_move (Has.t rfl)) ?_
              refine R_op rfl rfl rfl (op_addN (Has.t rfl) (Has.cN 1) (by show _ < 9223372036854775808; first | omega | (simp only [lim]; omega))) ?_
              refine R_op rfl rfl rfl (op_assign (Has.t rfl)) ?_
              refine R_nil ?_
              refine T_again (k + 1) ⟨by omega, hk2⟩ (by omega) (Sub.cons rfl (Sub.cons rfl (Sub.cons rfl (Sub.cons rfl (Sub.cons rfl (Sub.cons rfl (Sub.cons rfl (Sub.cons rfl Sub.nil)))))))) (HSub.cons (fun _ _ _ h => h) (HSub.cons (matW_of (congrArg _ hst)) (HSub.cons (box_of rfl) HSub.nil)))
            · have hk3 : k = m := by simp only [decide_eq_false_iff_not] at hk; omega
              subst hk3
              refine T_exit rfl ?_
              refine T_blk ?_
              refine T_region ?_
              refine R_op rfl rfl rfl (op_move (Has.t rfl)) ?_
              refine R_op rfl rfl rfl (op_addN (Has.t rfl) (Has.cN 1) (by show _ < 9223372036854775808; first | omega | (simp only [lim]; omega))) ?_
              refine R_op rfl rfl rfl (op_assign (Has.t rfl)) ?_
              refine R_nil ?_
              refine T_keep [0, 1] rfl (by decide) ?_
              refine T_again (r + 1) ⟨by omega, hr⟩ (by omega) (Sub.cons rfl (Sub.cons rfl (Sub.cons rfl (Sub.cons rfl (Sub.cons rfl (Sub.cons rfl Sub.nil)))))) (HSub.cons (fun _ _ _ h => h) (HSub.cons (matW_of (by rw [hY, ← hend, hDs.row hr])) HSub.nil))
          · simp only [decide_eq_false_iff_not] at hr
            obtain rfl : r = n := Nat.le_antisymm hrn (by omega)
            refine T_exit rfl ?_
            refine T_blk ?_
            refine T_region ?_
            refine R_op rfl rfl rfl (op_addN (Has.t rfl) (Has.cN 1) (by show _ < 9223372036854775808; first | omega | (simp only [lim]; omega))) ?_
            refine R_op rfl rfl rfl (op_move (Has.t rfl)) ?_
            refine R_nil ?_
            refine T_again (c + 1, q, us, redM D c r) ⟨⟨hcn, by show q ≤ c + 1; rw [hq]; split <;> omega⟩, hnx, hus⟩ (by dsimp only; omega) (Sub.cons rfl (Sub.cons rfl (Sub.cons rfl (Sub.cons rfl Sub.nil)))) (HSub.refl _)
  · simp only [decide_eq_false_iff_not] at hcn
    obtain rfl : c = n := Nat.le_antisymm hc (by omega)
    have hvl := hvs.len
    have hAs : Shp A c m := by have h := elim_shp hs hc; rw [hA] at h; exact h
    refine T_exit rfl ?_
    refine T_seq ?_
    refine T_region ?_
    refine R_op rfl rfl rfl (op_move (Has.t rfl)) ?_
    refine R_op rfl rfl rfl (op_assign (Has.t rfl)) ?_
    refine R_op rfl rfl rfl (op_assign Has.c) ?_
    refine R_nil ?_
    exact T_retO () trivial [0, 1] ⟨⟨_, rfl, fun _ _ _ h => h⟩, ⟨_, rfl, (fun S w V h => matO_of (by rw [hA]) S w V (matW_close (by rw [List.length_map, hAs.1]; exact hvl) S w V h))⟩, trivial⟩ (by decide) (rvs2 rfl (rv_to (rv_tmp rfl) (nt_of (by rw [hA]))) (rv_to (rv_tmp rfl) (int_of (by rw [hA]))))
end Go.Proofs.YtppibhcfaahgpaaGreat
namespace Go.Proofs.YtppibhcfaahgpaaGreat
open Go Go.RowKit
abbrev cpRow (M bs : List (List Qi)) (i : Nat) : List Qi := rw' M i ++ bs.map fun b => gv b i
def copyM (M bs : List (List Qi)) (n : Nat) : List (List Qi) := tab n (cpRow M bs)
theorem cp_next {r : List Qi} {bs : List (List Qi)} {i j : Nat} (h : j < bs.length) : (r ++ (bs.take j).map fun b => gv b i) ++ [gv (bs.getD j []) i] = r ++ (bs.take (j + 1)).map fun b => gv b i := by
  rw [List.append_assoc, List.take_add_one, List.map_append]
  simp [List.getD, h]
theorem copyM_shp {M bs : List (List Qi)} {n m : Nat} (h : Shp M n m) : Shp (copyM M bs n) n (m + bs.length) := by
  refine ⟨tab_len _ _, fun r hr => ?_⟩
  obtain ⟨i, hi, rfl⟩ := tab_mem.1 hr
  rw [List.length_append, List.length_map, h.row hi]
theorem copyM_fit {M bs : List (List Qi)} {n L : Nat} (h : FitM M L) (hb : FitM bs L) (hL : 1 ≤ L) : FitM (copyM M bs n) L := fun r hr x hx => by
  obtain ⟨i, hi, rfl⟩ := tab_mem.1 hr
  rcases List.mem_append.1 hx with h1 | h1
  · exact h.row i x h1
  · obtain ⟨b, hb1, rfl⟩ := List.mem_map.1 h1
    exact FitL.get (hb b hb1) hL i
theorem copyM_nil {M : List (List Qi)} {n m : Nat} (h : Shp M n m) : copyM M [] n = M := by
  have : copyM M [] n = tab n (rw' M) := tab_congr fun i _ => by simp [cpRow]
  rw [this]; exact (tab_eq (h := h.1)).symm
def subS (U : List (List Qi)) (x : List Qi) (n c : Nat) : Nat → Qi
  | 0 => gm U c n
  | k + 1 => subS U x n c k - gm U c (c + 1 + k) * gv x (c + 1 + k)
def bkS (U : List (List Qi)) (n : Nat) : Nat → List Qi
  | 0 => tab n fun _ => Qi.zero
  | j + 1 => (bkS U n j).set (n - (j + 1)) (subS U (bkS U n j) n (n - (j + 1)) j / gm U (n - (j + 1)) (n - (j + 1)))
theorem bkS_len (U : List (List Qi)) (n : Nat) : ∀ j, (bkS U n j).length = n
  | 0 => tab_len _ _
  | j + 1 => by rw [bkS, List.length_set, bkS_len U n j]
def slvU (M : List (List Qi)) (b : List Qi) (n : Nat) : List (List Qi) × Nat × Int := elimTo (copyM M [b] n) n
def slvE (M : List (List Qi)) (b : List Qi) (n : Nat) : Int := if 0 ≤ (slvU M b n).2.2 then 6 else 0
def slvX (M : List (List Qi)) (b : List Qi) (n : Nat) : List Qi := bkS (slvU M b n).1 n n
def xgr (G : Nat) : Nat → Nat
  | 0 => G
  | j + 1 => j * (xgr G j + G + 2) + 4 * G + 2
theorem xgr_step (G j : Nat) : xgr G j ≤ xgr G (j + 1) := by
  cases j with
  | zero => simp only [xgr]; omega
  | succ j =>
    have : xgr G (j + 1) + G + 2 ≤ (j + 1) * (xgr G (j + 1) + G + 2) := Nat.le_mul_of_pos_left _ (by omega)
    rw [show xgr G (j + 1 + 1) = (j + 1) * (xgr G (j + 1) + G + 2) + 4 * G + 2 from rfl]
    omega
theorem xgr_ge (G : Nat) : ∀ j, G ≤ xgr G j
  | 0 => Nat.le_refl _
  | j + 1 => Nat.le_trans (xgr_ge G j) (xgr_step G j)
theorem xgr_mono (G : Nat) : ∀ {i j : Nat}, i ≤ j → xgr G i ≤ xgr G j
  | i, 0, h => by rw [show i = 0 by omega]; exact Nat.le_refl _
  | i, j + 1, h => by
    by_cases e : i = j + 1
    · rw [e]; exact Nat.le_refl _
    · exact Nat.le_trans (xgr_mono G (show i ≤ j by omega)) (xgr_step G j)
theorem elim_diag {M : List (List Qi)} {n m : Nat} (hs : Shp M n m) : ∀ {c : Nat}, c ≤ n → (elimTo M c).2.2 < 0 → ∀ i, i < c → gm (elimTo M c).1 i i ≠ Qi.zero
  | 0, _, _, i, hi => by omega
  | c + 1, hc, hst, i, hi => by
    have sh := elim_shp hs (c := c) (by omega)
    obtain ⟨_, i2, i3, i4⟩ := pv_spec (M := (elimTo M c).1) (c := c) (n := M.length) (by rw [hs.1]; omega)
    simp only [elimTo] at hst ⊢
    split at hst
    · rename_i h0; omega
    · rename_i h0
      rw [if_neg h0]
      split at hst
      · simp at hst; omega
      · rename_i h1
        rw [if_neg h1]
        have ih := elim_diag hs (c := c) (by omega) (by omega)
        have hl : ∀ X : List (List Qi), X.length = n → gm (redM X c M.length) i i = gm X i i := fun X hX => by
          show gv (rw' (redM X c M.length) i) i = _
          rw [redM_at (by omega) (by omega)]
        by_cases e : pv (elimTo M c).1 c M.length = c
        · rw [if_pos e, hl _ sh.1]
          by_cases e2 : i = c
          · rw [e2]; have := i4 (by have := hs.1; omega); rw [e] at this; exact this
          · exact ih i (by omega)
        · have hpl : pv (elimTo M c).1 c M.length < n := by rw [← hs.1]; omega
          rw [if_neg e, hl _ ((swp_len _ _ _ _).trans sh.1)]
          by_cases e2 : i = c
          · rw [e2]
            show gv (rw' (swp [] _ _ c) c) c ≠ _
            rw [swp_at (by rw [sh.1]; omega)]
            exact i4 (by have := hs.1; omega)
          · have : rw' (swp [] (elimTo M c).1 (pv (elimTo M c).1 c M.length) c) i = rw' (elimTo M c).1 i := by
              simp only [rw', swp, List.getD]
              rw [List.getElem?_set_ne (Ne.symm e2), List.getElem?_set_ne (by omega)]
            show gv (rw' (swp [] _ _ c) i) i ≠ _
            rw [this]; exact ih i (by omega)
theorem sub_fit {U : List (List Qi)} {x : List Qi} {n c G X : Nat} (hU : FitM U G) (hx : FitL x X) (hG : 1 ≤ G) (hX : 1 ≤ X) : ∀ k, FitC (subS U x n c k) (G + k * (G + X + 2))
  | 0 => (hU.get hG c n).le (by omega)
  | k + 1 => by
    haveI f1 := sub_fit (n := n) (c := c) hU hx hG hX k
    haveI f2 := hU.get hG c (c + 1 + k)
    haveI f3 := hx.get hX (c + 1 + k)
    have : FitC (subS U x n c (k + 1)) (G + k * (G + X + 2) + (G + X + 1) + 1) := by unfold subS; infer_instance
    exact this.le (by rw [Nat.add_mul]; omega)
theorem bk_elt {U : List (List Qi)} {x : List Qi} {n c G X j : Nat} (hU : FitM U G) (hx : FitL x X) (hG : 1 ≤ G) (hX : 1 ≤ X) (hz : gm U c c ≠ Qi.zero) : FitC (subS U x n c j / gm U c c) (j * (X + G + 2) + 4 * G + 2) := by
  have f1 := sub_fit (n := n) (c := c) hU hx hG hX j
  have f2 := hU.get hG c c
  have : FitC (subS U x n c j / gm U c c) (G + j * (G + X + 2) + 3 * G + 2) := ⟨f1.fit.div f2.fit hz⟩
  exact this.le (by rw [Nat.add_comm X G]; omega)
theorem bk_fit {U : List (List Qi)} {n G : Nat} (hU : FitM U G) (hG : 1 ≤ G) (hz : ∀ i, i < n → gm U i i ≠ Qi.zero) : ∀ j, j ≤ n → FitL (bkS U n j) (xgr G j)
  | 0, _ => FitL.tab fun _ _ => FitC.zero hG
  | j + 1, hj => fun y hy => by
    have ih := bk_fit hU hG hz j (by omega)
    rcases List.mem_or_eq_of_mem_set hy with h1 | h1
    · exact (ih y h1).le (xgr_step G j)
    · rw [h1]; exact bk_elt hU ih hG (Nat.le_trans hG (xgr_ge G j)) (hz _ (by omega))
theorem slvU_shp {M : List (List Qi)} {b : List Qi} {n : Nat} (h : Shp M n n) : Shp (slvU M b n).1 n (n + 1) := elim_shp (copyM_shp h) (Nat.le_refl n)
theorem slvU_fit {M : List (List Qi)} {b : List Qi} {n L : Nat} (h : Shp M n n) (hM : FitM M L) (hb : FitL b L) (hL : 1 ≤ L) : FitM (slvU M b n).1 (grow L n) := elim_fit (copyM_shp h) (copyM_fit hM (fun r hr => by simp at hr; subst hr; exact hb) hL) hL (Nat.le_refl n)
def unitR (n i : Nat) : List Qi := (tab n fun _ => Qi.zero).set i (Qi.ofInt 1)
def idM (n : Nat) : List (List Qi) := tab n (unitR n)
theorem idM_shp (n : Nat) : Shp (idM n) n n := ⟨tab_len _ _, fun r hr => by obtain ⟨i, _, rfl⟩ := tab_mem.1 hr; rw [unitR, List.length_set, tab_len]⟩
theorem fit_one : FitC (Qi.ofInt 1) 1 := ⟨Qi.Fit.int (L := 1) (by decide) (by decide)⟩
theorem unitR_fit {n i L : Nat} (h : 1 ≤ L) : FitL (unitR n i) L := fun x hx => by
  rcases List.mem_or_eq_of_mem_set hx with h1 | h1
  · obtain ⟨_, _, rfl⟩ := tab_mem.1 h1; exact FitC.zero h
  · rw [h1]; exact fit_one.le h
theorem idM_fit {n L : Nat} (h : 1 ≤ L) : FitM (idM n) L := fun r hr => by obtain ⟨i, _, rfl⟩ := tab_mem.1 hr; exact unitR_fit h
theorem slvU_lt {M : List (List Qi)} {b : List Qi} {n : Nat} (h : ¬ 0 ≤ (slvU M b n).2.2) : (slvU M b n).2.2 < 0 := by omega
theorem tab_rep (F : Qi → Ty) (n : Nat) : List.replicate n (F Qi.zero) = (tab n fun _ => Qi.zero).map F := by rw [tab_map, rep_tab]
theorem bk_ge {n j : Nat} (h : (0 : Int) ≤ (n : Int) - 1 - (j : Int)) : j < n := by omega
theorem bk_lt {n j : Nat} (h : (n : Int) - 1 - (j : Int) < 0) : n ≤ j := by omega
theorem bk_bound {G X k j : Nat} (h : k < j) : k * (G + X + 2) + (G + X + 2) ≤ j * (X + G + 2) := by
  rw [Nat.add_comm X G, ← Nat.succ_mul]; exact Nat.mul_le_mul_right _ h
end Go.Proofs.YtppibhcfaahgpaaGreat
namespace Go.Proofs.YtppibhcfaahgpaaGreat
open Go Go.RowKit
set_option maxRecDepth 20000 in
theorem c_square {M : List (List Qi)} {n : Nat} (h : Shp M n n) (h1 : 1 ≤ n) (hn : n ≤ 32) : Fun Tryz.prog 242 [NumM M] (BoolT true) := by
  have hl := h.1
  refine Fun.intro Tryz.func242 rfl Tryz.ntmps242 rfl (fun cx => ?_)
  refine T_seq ?_
  refine T_region ?_
  refine R_op rfl rfl rfl (op_assign Has.c) ?_
  refine R_nil ?_
  refine T_seq ?_
  refine T_region ?_
  refine R_op rfl rfl rfl (op_move (Has.t rfl)) ?_
  refine R_op rfl rfl rfl (op_call Tryz.call200 (c_columns h h1 hn hn) ⟨(Has.t rfl), trivial⟩) ?_
  refine R_op rfl rfl rfl (op_move (Has.t rfl)) ?_
  refine R_op rfl rfl rfl (op_extract (Has.t rfl) rfl) ?_
  refine R_op rfl rfl rfl (op_extract (Has.t rfl) rfl) ?_
  refine R_op rfl rfl rfl (op_assign (Has.t rfl)) ?_
  refine R_op rfl rfl rfl (op_assign (Has.t rfl)) ?_
  refine R_nil ?_
  refine T_seq ?_
  refine T_region ?_
  refine R_op rfl rfl rfl (op_move (Has.t rfl)) ?_
  refine R_op rfl rfl rfl (op_move (Has.t rfl)) ?_
  refine R_step rfl rfl (S_when rfl rfl (Has.t rfl) (fun h => op_move (Has.t rfl))) ?_
  refine R_step rfl rfl (S_when rfl rfl (Has.t rfl) (fun h => op_move (Has.t rfl))) ?_
  refine R_step rfl rfl (S_when rfl rfl (Has.t rfl) (fun h => op_len Tryz.runUnderlying31 (Has.w rfl h) len_map)) ?_
  refine R_step rfl rfl (S_when rfl rfl (Has.t rfl) (fun h => op_eqlN (Has.w rfl h) (Has.w rfl h))) ?_
  refine R_op rfl rfl rfl (op_and (Has.t rfl) (fun h => (Has.w rfl h))) ?_
  refine R_op rfl rfl rfl (op_assign (Has.t rfl)) ?_
  refine R_nil ?_
  refine T_ret1 rfl (rv_to (rv_tmp rfl) ?_)
  exact (bool_of (by simp [hl]))
set_option maxRecDepth 20000 in
theorem c_copiedO {M bs : List (List Qi)} {n m : Nat} (hM : Shp M n m) (hb : ∀ b, b ∈ bs → n ≤ b.length) (hn : n ≤ 1000) (hm : m ≤ 1000) (hbl : bs.length ≤ 1000) : FunO Tryz.prog 243 [NumM M, NumM bs] [] (Nat) (fun B => Is (.slice (some ⟨B, 0, none⟩) n n)) (fun B => [matO B 30 49 5 (FRow NumT (copyM M bs n))]) (fun _ => True) := by
  have hMl := hM.1
  refine FunO.intro Tryz.func243 rfl Tryz.ntmps243 rfl (fun cx Z => ?_)
  refine T_seq ?_
  refine T_region ?_
  refine R_op rfl rfl rfl (op_assign Has.c) ?_
  refine R_nil ?_
  refine T_seq ?_
  refine T_region ?_
  refine R_op rfl rfl rfl (op_move (Has.t rfl)) ?_
  refine R_op rfl rfl rfl (op_len Tryz.runUnderlying31 (Has.t rfl) len_map) ?_
  refine R_new rfl rfl rfl (new_make (T := Is (.slice none 0 0)) (i := Tryz.t30) Tryz.underlying31 info_30 rfl rfl (Has.t rfl) rfl (fun _ => rfl) trivial (by show 24 * _ ≤ _; omega) (by omega)) (fun B12 => ?_)
  refine R_op rfl rfl rfl (op_assign (Has.t rfl)) ?_
  refine R_nil ?_
  refine T_seq ?_
  refine T_seq ?_
  refine T_region ?_
  refine R_op rfl rfl rfl (op_move (Has.t rfl)) ?_
  refine R_op rfl rfl rfl (op_len Tryz.runUnderlying31 (Has.t rfl) len_map) ?_
  refine R_op rfl rfl rfl (op_move (Has.cN 0)) ?_
  refine R_nil ?_
  refine T_block ?_
  refine T_conv 1 rfl (mat_nil (e := 49) (s := 5)) ?_
  refine T_loop (fun (i : Nat) => i ≤ M.length) (fun (i : Nat) => M.length - i) (fun (i : Nat) => [(0, NumM M), (1, NumM bs), (5, Is (.slice (some ⟨B12, 0, none⟩) M.length M.length)), (13, NumM M), (14, NT .i64 M.length), (15, NT .i64 i)]) (fun (i : Nat) => [Z, matO B12 30 49 5 (FRow NumT (mixT (cpRow M bs) [] M.length i))]) 0 (Nat.zero_le _)
    (Sub.cons rfl (Sub.cons rfl (Sub.cons rfl (Sub.cons rfl (Sub.cons rfl (Sub.cons rfl Sub.nil)))))) (HSub.cons (fun _ _ _ h => h) (HSub.cons (matO_of (by rw [← mix_zero, tab_const]; exact rep_FRow NumT M.length)) HSub.nil)) (fun i hi => ?_)
  refine T_seq ?_
  refine T_region ?_
  refine R_op rfl rfl rfl (op_lssN (Has.t rfl) (Has.t rfl)) ?_
  refine R_nil ?_
  refine T_seq ?_
  refine T_cond (Has.t rfl) (fun hd0 => ?_) (fun hd0 => ?_)
  · simp only [decide_eq_true_eq] at hd0
    have hrl : (rw' M i).length = m := hM.row (by omega)
    have hrl2 : (M.getD i []).length = m := hrl
    refine T_focus 1 (i) rfl (frow_mix hd0) (fun v0 => ?_)
    refine T_skip ?_
    refine T_seq ?_
    refine T_block ?_
    refine T_seq ?_
    refine T_region ?_
    refine R_op rfl rfl rfl (op_move (Has.t rfl)) ?_
    refine R_op rfl rfl rfl (op_idx Tryz.runUnderlying31 Tryz.sizeOf30 (Has.t rfl) (Has.t rfl) rfl (map_get (getD_some (d := []) hd0))) ?_
    refine R_op rfl rfl rfl (op_ld Tryz.isAgg30 Tryz.sizeOf30 (Has.t rfl)) ?_
    refine R_op rfl rfl rfl (op_assign (Has.t rfl)) ?_
    refine R_op rfl rfl rfl (op_assign (Has.t rfl)) ?_
    refine R_nil ?_
    refine T_seq ?_
    refine T_region ?_
    refine R_op rfl rfl rfl (op_move (Has.t rfl)) ?_
    refine R_op rfl rfl rfl (op_move (Has.t rfl)) ?_
    refine R_op rfl rfl rfl (op_move (Has.t rfl)) ?_
    refine R_call0 Tryz.call104 (c_CloneO (l := M.getD i []) (by omega)) ⟨(Has.t rfl), trivial⟩ rfl (fun v1 _ => ?_)
    refine R_op rfl rfl rfl (op_idxB Tryz.runUnderlying31 Tryz.sizeOf30 (Has.t rfl) (Has.t rfl) rfl (by omega) (by rw [Nat.mul_one, Nat.zero_add])) ?_
    refine R_stH Tryz.sizeOf30 (Has.t rfl) (Has.t rfl) (by simp only [FRow, List.length_map, mix_len]; omega) (j := 1) (l := 3) rfl rfl rfl ?_
    refine R_nil ?_
    refine T_seq ?_
    refine T_region ?_
    refine R_op rfl rfl rfl (op_move (Has.t rfl)) ?_
    refine R_op rfl rfl rfl (op_len Tryz.runUnderlying31 (Has.t rfl) len_map) ?_
    refine R_op rfl rfl rfl (op_move (Has.cN 0)) ?_
    refine R_nil ?_
    refine T_block ?_
    refine T_keep [0, 1, 3] rfl (by decide) ?_
    refine T_loop2 (fun (j : Nat) (v : Value) => j ≤ bs.length) (fun (j : Nat) (v : Value) => bs.length - j) (fun (j : Nat) (v : Value) => [(0, NumM M), (1, NumM bs), (5, Is (.slice (some ⟨B12, 0, none⟩) M.length M.length)), (6, NT .i64 i), (13, NumM M), (14, NT .i64 M.length), (15, NT .i64 i), (25, NumM bs), (26, NT .i64 bs.length), (27, NT .i64 j)]) (fun (j : Nat) (v : Value) => [Z, matH B12 30 49 5 (FRow NumT (mixT (cpRow M bs) [] M.length i)) i v, rowO 49 5 v ((rw' M i ++ (bs.take j).map fun b => gv b i).map NumT)]) 0 v1 (Nat.zero_le _)
      (Sub.cons rfl (Sub.cons rfl (Sub.cons rfl (Sub.cons rfl (Sub.cons rfl (Sub.cons rfl (Sub.cons rfl (Sub.cons rfl (Sub.cons rfl (Sub.cons rfl Sub.nil)))))))))) (HSub.cons (fun _ _ _ h => h) (HSub.cons (fun _ _ _ h => h) (HSub.cons (rowO_of (by simp)) HSub.nil))) (fun j v hj => ?_)
    refine T_seq ?_
    refine T_region ?_
    refine R_op rfl rfl rfl (op_lssN (Has.t rfl) (Has.t rfl)) ?_
    refine R_nil ?_
    refine T_seq ?_
    refine T_cond (Has.t rfl) (fun he => ?_) (fun he => ?_)
    · simp only [decide_eq_true_eq] at he
      have hbj : i < (bs.getD j []).length := by have h1 := hb (bs.getD j []) (by rw [getD_at he]; exact List.getElem_mem _); omega
      refine T_skip ?_
      refine T_seq ?_
      refine T_block ?_
      refine T_seq ?_
      refine T_region ?_
      refine R_op rfl rfl rfl (op_idx Tryz.runUnderlying31 Tryz.sizeOf30 (Has.t rfl) (Has.t rfl) rfl (map_get (getD_some (d := []) he))) ?_
      refine R_op rfl rfl rfl (op_ld Tryz.isAgg30 Tryz.sizeOf30 (Has.t rfl)) ?_
      refine R_op rfl rfl rfl (op_assign (Has.t rfl)) ?_
      refine R_nil ?_
      refine Y.D_startA (m := 12) [] 11 2 rfl rfl ?_
      refine Y.D_hide (Ei := [(5, _)]) rfl rfl (Y.Srcs.cons (Y.Src.pre rfl rfl) Y.Srcs.nil) rfl rfl (S_plain rfl (op_move (Has.t rfl))) ?_
      refine Y.D_hide (Ei := [(6, _)]) rfl rfl (Y.Srcs.cons (Y.Src.pre rfl rfl) Y.Srcs.nil) rfl rfl (S_plain rfl (op_move (Has.t rfl))) ?_
      refine Y.D_hide (Ei := [(5, _)]) rfl rfl (Y.Srcs.cons (Y.Src.pre rfl rfl) Y.Srcs.nil) rfl rfl (S_plain rfl (op_move (Has.t rfl))) ?_
      refine Y.D_hide (Ei := [(6, _)]) rfl rfl (Y.Srcs.cons (Y.Src.pre rfl rfl) Y.Srcs.nil) rfl rfl (S_plain rfl (op_move (Has.t rfl))) ?_
      refine Y.D_hide (Ei := [(33, _), (34, _)]) rfl rfl (Y.Srcs.cons (Y.Src.op 2 rfl rfl) (Y.Srcs.cons (Y.Src.op 3 rfl rfl) Y.Srcs.nil)) rfl rfl (S_plain rfl (op_idxB Tryz.runUnderlying31 Tryz.sizeOf30 (Has.t rfl) (Has.t rfl) rfl (by omega) (by rw [Nat.mul_one, Nat.zero_add]))) ?_
      refine Y.D_hide (Ei := [(35, _)]) rfl rfl (Y.Srcs.cons (Y.Src.op 4 rfl rfl) Y.Srcs.nil) rfl rfl (S_plain rfl (op_ldH Tryz.isAgg30 Tryz.sizeOf30 (Has.t rfl) (j := 1) rfl)) ?_
      refine Y.D_hide (Ei := [(9, _)]) rfl rfl (Y.Srcs.cons (Y.Src.pre rfl rfl) Y.Srcs.nil) rfl rfl (S_plain rfl (op_move (Has.t rfl))) ?_
      refine Y.D_hide (Ei := [(6, _)]) rfl rfl (Y.Srcs.cons (Y.Src.pre rfl rfl) Y.Srcs.nil) rfl rfl (S_plain rfl (op_move (Has.t rfl))) ?_
      refine Y.D_hide (Ei := [(37, _), (38, _)]) rfl rfl (Y.Srcs.cons (Y.Src.op 6 rfl rfl) (Y.Srcs.cons (Y.Src.op 7 rfl rfl) Y.Srcs.nil)) rfl rfl (S_plain rfl (op_idx Tryz.runUnderlying30 Tryz.sizeOf49 (Has.t rfl) (Has.t rfl) rfl (map_get (getD_some (d := Qi.zero) hbj)))) ?_
      refine Y.D_hide (Ei := [(39, _)]) rfl rfl (Y.Srcs.cons (Y.Src.op 8 rfl rfl) Y.Srcs.nil) rfl rfl (S_plain rfl (op_ld Tryz.isAgg49 Tryz.sizeOf49 (Has.t rfl))) ?_
      refine Y.D_hide (Ei := [(40, _)]) rfl rfl (Y.Srcs.cons (Y.Src.op 9 rfl rfl) Y.Srcs.nil) rfl rfl (S_plain rfl (op_bslice (xs := [.tmp 40]) Tryz.runUnderlying30 Tryz.sizeOf49 Tryz.zeroValue49 (Elems.cons (Has.t rfl) Elems.nil) rfl rfl rfl)) ?_
      refine Y.D_app (Ei := [(36, _), (41, _)]) rfl rfl rfl rfl (Y.Srcs.cons (Y.Src.op 5 rfl rfl) (Y.Srcs.cons (Y.Src.op 10 rfl rfl) Y.Srcs.nil)) rfl (A_append (inf := Tryz.t49) und_30 info_49 rfl rfl rfl (Has.t rfl) (Has.t rfl) (by simp) (fun T hT => by simp at hT; subst hT; exact El.ag rfl) (by show _ * 88 ≤ _; simp only [List.length_map, List.length_append, List.length_take, List.length_cons, List.length_nil]; omega) (by simp only [List.length_map, List.length_append, List.length_take, List.length_cons, List.length_nil]; omega)) ?_
      refine Y.D_done mixed rfl (by kernel_rfl) rfl (by simp [Y.okP]) rfl rfl (Y.F_val (Y.F_val (Y.F_val (Y.F_val (Y.F_val (Y.F_val (Y.F_val (Y.F_val (Y.F_val (Y.F_val (Y.F_val (Y.F_app (fun v2 => Y.F_nil ?_)))))))))))))
      refine R_op rfl rfl rfl (op_idxB Tryz.runUnderlying31 Tryz.sizeOf30 (Has.t rfl) (Has.t rfl) rfl (by omega) (by rw [Nat.mul_one, Nat.zero_add])) ?_
      refine R_stH Tryz.sizeOf30 (Has.t rfl) (Has.t rfl) (by simp only [FRow, List.length_map, mix_len]; omega) (j := 1) (l := 3) rfl rfl rfl ?_
      refine R_nil ?_
      refine T_blk ?_
      refine T_region ?_
      refine R_op rfl rfl rfl (op_addN (Has.t rfl) (Has.cN 1) (by show _ < 9223372036854775808; first | omega | (simp only [lim]; omega))) ?_
      refine R_op rfl rfl rfl (op_move (Has.t rfl)) ?_
      refine R_nil ?_
      refine T_keep [0, 1, 3] rfl (by decide) ?_
      refine T_again (j + 1, v2) he (by dsimp only; omega) (Sub.cons rfl (Sub.cons rfl (Sub.cons rfl (Sub.cons rfl (Sub.cons rfl (Sub.cons rfl (Sub.cons rfl (Sub.cons rfl (Sub.cons rfl (Sub.cons rfl Sub.nil)))))))))) (HSub.cons (fun _ _ _ h => h) (HSub.cons (fun _ _ _ h => h) (HSub.cons (rowO_of ((app_mapF NumT _ (gv (bs.getD j []) i)).trans (congrArg _ (cp_next he)))) HSub.nil)))
    · simp only [decide_eq_false_iff_not] at he
      obtain rfl : bs.length = j := Nat.le_antisymm (by omega) hj
      refine T_exit rfl ?_
      refine T_blk ?_
      refine T_unfocus 1 2 rfl rfl (by decide) (by simp only [FRow, List.length_map, mix_len]; omega) ?_
      refine T_region ?_
      refine R_op rfl rfl rfl (op_addN (Has.t rfl) (Has.cN 1) (by show _ < 9223372036854775808; first | omega | (simp only [lim]; omega))) ?_
      refine R_op rfl rfl rfl (op_move (Has.t rfl)) ?_
      refine R_nil ?_
      refine T_keep [0, 1] rfl (by decide) ?_
      refine T_again (i + 1) hd0 (by omega) (Sub.cons rfl (Sub.cons rfl (Sub.cons rfl (Sub.cons rfl (Sub.cons rfl (Sub.cons rfl Sub.nil)))))) (HSub.cons (fun _ _ _ h => h) (HSub.cons (matO_of (by rw [List.take_length, set_FRow, ← mix_set (f := cpRow M bs)])) HSub.nil))
  · simp only [decide_eq_false_iff_not] at hd0
    obtain rfl : i = M.length := Nat.le_antisymm hi (by omega)
    subst hMl
    refine T_exit rfl ?_
    refine T_seq ?_
    refine T_region ?_
    refine R_op rfl rfl rfl (op_move (Has.t rfl)) ?_
    refine R_op rfl rfl rfl (op_assign (Has.t rfl)) ?_
    refine R_nil ?_
    exact T_retO B12 trivial [0, 1] ⟨⟨_, rfl, fun _ _ _ h => h⟩, ⟨_, rfl, (matO_of (by rw [mix_fin]; rfl))⟩, trivial⟩ (by decide) (rvs1 rfl (rv_tmp rfl))
end Go.Proofs.YtppibhcfaahgpaaGreat
namespace Go.Proofs.YtppibhcfaahgpaaGreat
open Go Go.RowKit
set_option maxRecDepth 20000 in
theorem c_IdO {n : Nat} (hn : n ≤ 32) : FunO Tryz.prog 192 [NT .i64 n] [] (Nat) (fun B => Is (.slice (some ⟨B, 0, none⟩) n n)) (fun B => [matP exactH B 30 49 5 (FRow NumT (idM n))]) (fun _ => True) := by
  refine FunO.intro Tryz.func192 rfl Tryz.ntmps192 rfl (fun cx Z => ?_)
  refine T_seq ?_
  refine T_region ?_
  refine R_op rfl rfl rfl (op_assign Has.c) ?_
  refine R_nil ?_
  refine T_seq ?_
  refine T_region ?_
  refine R_new rfl rfl rfl (new_alloc (Ts := [Is (.bool false), Is (.slice none 0 0), Is (.bool false), Is (.slice none 0 0), Is (.slice none 0 0)]) Tryz.zeroValue49 rfl (fun V => Cells.cons' ⟨rfl, trivial⟩ (Cells.cons' ⟨rfl, trivial⟩ (Cells.cons' ⟨rfl, trivial⟩ (Cells.cons' ⟨rfl, trivial⟩ (Cells.cons' ⟨rfl, trivial⟩ (Cells.nil))))))) (fun B3 => ?_)
  refine R_nil ?_
  refine T_seq ?_
  refine T_region ?_
  refine R_op rfl rfl rfl (op_move (Has.t rfl)) ?_
  refine R_op rfl rfl rfl (OpTy.nat (op_maxN (Has.t rfl) (Has.cN 0)) (show max n 0 = n by omega)) ?_
  refine R_op rfl rfl rfl (OpTy.nat (op_minN (Has.t rfl) (Has.cN 32)) (show min n 32 = n by omega)) ?_
  refine R_new rfl rfl rfl (new_make (T := Is (.slice none 0 0)) (i := Tryz.t30) Tryz.underlying31 info_30 rfl rfl (Has.t rfl) rfl (fun _ => rfl) trivial (by show 24 * _ ≤ _; omega) (by omega)) (fun B9 => ?_)
  refine R_op rfl rfl rfl (op_assign (Has.t rfl)) ?_
  refine R_nil ?_
  refine T_seq ?_
  refine T_seq ?_
  refine T_region ?_
  refine R_op rfl rfl rfl (op_move (Has.t rfl)) ?_
  refine R_op rfl rfl rfl (op_lenI Tryz.runUnderlying31 (Has.t rfl)) ?_
  refine R_op rfl rfl rfl (op_move (Has.cN 0)) ?_
  refine R_nil ?_
  refine T_block ?_
  refine T_conv 2 rfl (mat_nilE exactH ⟨none, 0, rfl⟩ (e := 49) (s := 5)) ?_
  refine T_loop (fun (k : Nat) => k ≤ n) (fun (k : Nat) => n - k) (fun (k : Nat) => [(3, PtrB B3 0), (4, Is (.slice (some ⟨B9, 0, none⟩) n n)), (11, NT .i64 n), (12, NT .i64 k)]) (fun (k : Nat) => [Z, box B3 49 [Is (.bool false), Is (.slice none 0 0), Is (.bool false), Is (.slice none 0 0), Is (.slice none 0 0)], matP exactH B9 30 49 5 (FRow NumT (mixT (unitR n) [] n k))]) 0 (Nat.zero_le _)
    (Sub.cons rfl (Sub.cons rfl (Sub.cons rfl (Sub.cons rfl Sub.nil)))) (HSub.cons (fun _ _ _ h => h) (HSub.cons (fun _ _ _ h => h) (HSub.cons (matO_of (by rw [← mix_zero, tab_const]; exact rep_FRow NumT n)) HSub.nil))) (fun k hk => ?_)
  refine T_seq ?_
  refine T_region ?_
  refine R_op rfl rfl rfl (op_lssN (Has.t rfl) (Has.t rfl)) ?_
  refine R_nil ?_
  refine T_seq ?_
  refine T_cond (Has.t rfl) (fun hd => ?_) (fun hd => ?_)
  · simp only [decide_eq_true_eq] at hd
    refine T_focusE 2 (k) rfl (frow_mix hd) (fun v hv => ?_)
    refine T_skip ?_
    refine T_seq ?_
    refine T_block ?_
    refine T_seq ?_
    refine T_region ?_
    refine R_op rfl rfl rfl (op_move (Has.t rfl)) ?_
    refine R_op rfl rfl rfl (op_assign (Has.t rfl)) ?_
    refine R_nil ?_
    refine T_seq ?_
    refine D_start (m := 10) ?_
    refine D_step (Ei := [(4, _)]) rfl rfl (Srcs.cons (Src.pre rfl rfl) Srcs.nil) (S_plain rfl (op_move (Has.t rfl))) ?_
    refine D_step (Ei := [(5, _)]) rfl rfl (Srcs.cons (Src.pre rfl rfl) Srcs.nil) (S_plain rfl (op_move (Has.t rfl))) ?_
    refine D_step (Ei := [(3, _)]) rfl rfl (Srcs.cons (Src.pre rfl rfl) Srcs.nil) (S_plain rfl (op_ldBA Tryz.isAgg49 Tryz.sizeOf49 (Has.t rfl) (i := 1) rfl rfl rfl)) ?_
    refine D_step (Ei := [(17, _)]) rfl rfl (Srcs.cons (Src.op 2 rfl rfl) Srcs.nil) (S_plain rfl (op_iface mkif_49 (Has.t rfl))) ?_
    refine D_step (Ei := []) rfl rfl Srcs.nil (S_plain rfl (op_call Tryz.call28 (c_Int (n := 0) (by decide) (by decide)) ⟨(Has.cN 0), trivial⟩)) ?_
    refine D_step (Ei := [(18, _), (19, _)]) rfl rfl (Srcs.cons (Src.op 3 rfl rfl) (Srcs.cons (Src.op 4 rfl rfl) Srcs.nil)) (S_plain rfl (op_invoke meth_49_Of Tryz.call264 c_OfZ (Has.t rfl) ⟨(Has.t rfl), trivial⟩)) ?_
    refine D_step (Ei := [(20, _)]) rfl rfl (Srcs.cons (Src.op 5 rfl rfl) Srcs.nil) (S_plain rfl (op_bslice (xs := [.tmp 20]) Tryz.runUnderlying30 Tryz.sizeOf49 Tryz.zeroValue49 (Elems.cons (Has.t rfl) Elems.nil) rfl rfl rfl)) ?_
    refine D_step (Ei := [(4, _)]) rfl rfl (Srcs.cons (Src.pre rfl rfl) Srcs.nil) (S_plain rfl (op_move (Has.t rfl))) ?_
    refine D_step (Ei := [(22, _)]) rfl rfl (Srcs.cons (Src.op 7 rfl rfl) Srcs.nil) (S_plain rfl (op_lenI Tryz.runUnderlying31 (Has.t rfl))) ?_
    refine D_new (Ei := [(21, _), (23, _)]) rfl rfl rfl (Srcs.cons (Src.op 6 rfl rfl) (Srcs.cons (Src.op 8 rfl rfl) Srcs.nil)) (new_call0 Tryz.call168 (c_RepO (m := n) (by omega) (by omega)) ⟨(Has.t rfl), (Has.t rfl), trivial⟩) ?_
    refine D_done mixed rfl (by kernel_rfl) (F_val (F_val (F_val (F_val (F_val (F_val (F_val (F_val (F_val (F_new (fun B24 => F_nil ?_)))))))))))
    refine R_op rfl rfl rfl (op_idxB Tryz.runUnderlying31 Tryz.sizeOf30 (Has.t rfl) (Has.t rfl) rfl (by omega) (by rw [Nat.mul_one, Nat.zero_add])) ?_
    refine R_stH Tryz.sizeOf30 (Has.t rfl) (Has.t rfl) (by simp only [FRow, List.length_map, mix_len]; omega) (j := 2) (l := 4) rfl rfl rfl ?_
    refine R_nil ?_
    have hB24 := B24.1.2
    refine D_start (m := 9) ?_
    refine D_step (Ei := [(4, _)]) rfl rfl (Srcs.cons (Src.pre rfl rfl) Srcs.nil) (S_plain rfl (op_move (Has.t rfl))) ?_
    refine D_step (Ei := [(5, _)]) rfl rfl (Srcs.cons (Src.pre rfl rfl) Srcs.nil) (S_plain rfl (op_move (Has.t rfl))) ?_
    refine D_step (Ei := [(26, _), (27, _)]) rfl rfl (Srcs.cons (Src.op 0 rfl rfl) (Srcs.cons (Src.op 1 rfl rfl) Srcs.nil)) (S_plain rfl (op_idxB Tryz.runUnderlying31 Tryz.sizeOf30 (Has.t rfl) (Has.t rfl) rfl (by omega) (by rw [Nat.mul_one, Nat.zero_add]))) ?_
    refine D_step (Ei := [(28, _)]) rfl rfl (Srcs.cons (Src.op 2 rfl rfl) Srcs.nil) (S_plain rfl (op_ldH Tryz.isAgg30 Tryz.sizeOf30 (Has.t rfl) (j := 2) rfl)) ?_
    refine D_step (Ei := [(5, _)]) rfl rfl (Srcs.cons (Src.pre rfl rfl) Srcs.nil) (S_plain rfl (op_move (Has.t rfl))) ?_
    refine D_step (Ei := [(3, _)]) rfl rfl (Srcs.cons (Src.pre rfl rfl) Srcs.nil) (S_plain rfl (op_ldBA Tryz.isAgg49 Tryz.sizeOf49 (Has.t rfl) (i := 1) rfl rfl rfl)) ?_
    refine D_step (Ei := [(31, _)]) rfl rfl (Srcs.cons (Src.op 5 rfl rfl) Srcs.nil) (S_plain rfl (op_iface mkif_49 (Has.t rfl))) ?_
    refine D_step (Ei := []) rfl rfl Srcs.nil (S_plain rfl (op_call Tryz.call28 (c_Int (n := 1) (by decide) (by decide)) ⟨(Has.cN 1), trivial⟩)) ?_
    refine D_step (Ei := [(32, _), (33, _)]) rfl rfl (Srcs.cons (Src.op 6 rfl rfl) (Srcs.cons (Src.op 7 rfl rfl) Srcs.nil)) (S_plain rfl (op_invoke meth_49_Of Tryz.call264 c_OfZ (Has.t rfl) ⟨(Has.t rfl), trivial⟩)) ?_
    refine D_done mixed rfl (by kernel_rfl) (F_val (F_val (F_val (F_val (F_val (F_val (F_val (F_val (F_val (F_nil ?_))))))))))
    refine R_op rfl rfl rfl (op_idxO Tryz.runUnderlying30 Tryz.sizeOf49 (Has.t rfl) (Has.t rfl) rfl (i := 4) rfl (by simp only [List.length_map, tab_len]; omega) rfl) ?_
    refine R_stO Tryz.sizeOf49 (Has.t rfl) (Has.t rfl) (El.ag rfl) (i := 4) rfl rfl (by simp only [List.length_map, tab_len]; omega) rfl ?_
    refine R_nil ?_
    refine T_blk ?_
    refine T_unfocus 2 4 rfl rfl (by decide) (by simp only [FRow, List.length_map, mix_len]; omega) ?_
    refine T_region ?_
    refine R_op rfl rfl rfl (op_addN (Has.t rfl) (Has.cN 1) (by show _ < 9223372036854775808; first | omega | (simp only [lim]; omega))) ?_
    refine R_op rfl rfl rfl (op_move (Has.t rfl)) ?_
    refine R_nil ?_
    refine T_keep [0, 1, 2] rfl (by decide) ?_
    refine T_again (k + 1) hd (by omega) (Sub.cons rfl (Sub.cons rfl (Sub.cons rfl (Sub.cons rfl Sub.nil)))) (HSub.cons (fun _ _ _ h => h) (HSub.cons (fun _ _ _ h => h) (HSub.cons (matO_of (by rw [← mix_set (f := unitR n), ← set_FRow, unitR, ← set_mapF])) HSub.nil)))
  · simp only [decide_eq_false_iff_not] at hd
    obtain rfl : n = k := Nat.le_antisymm (by omega) hk
    refine T_exit rfl ?_
    refine T_seq ?_
    refine T_region ?_
    refine R_op rfl rfl rfl (op_move (Has.t rfl)) ?_
    refine R_op rfl rfl rfl (op_assign (Has.t rfl)) ?_
    refine R_nil ?_
    exact T_retO B9 trivial [0, 2] ⟨⟨_, rfl, fun _ _ _ h => h⟩, ⟨_, rfl, (matO_of (by rw [mix_fin]; rfl))⟩, trivial⟩ (by decide) (rvs1 rfl (rv_tmp rfl))
theorem c_Id {n : Nat} (hn : n ≤ 32) : Fun Tryz.prog 192 [NT .i64 n] (NumM (idM n)) := (c_IdO hn).fun fun B _ v S V h1 h2 => frz_matF (s := 5) (M := idM n) (idM_shp n).1.symm v S V h1 h2
set_option maxHeartbeats 1000000 in
set_option maxRecDepth 20000 in
theorem c_Solve {M : List (List Qi)} {b : List Qi} {n L : Nat} (hM : Shp M n n) (hb : b.length = n) (hf : FitM M L) (hfb : FitL b L) (hL : 1 ≤ L) (h1 : 1 ≤ n) (hn : n ≤ 32) (hg : 6 * grow L n + 4 ≤ 17592186044415) (hx : xgr (grow L n) (n + 1) ≤ 17592186044415) : Fun Tryz.prog 244 [NumM M, NumsT b] (TupT [NumsT (okL (slvE M b n) (slvX M b n)), IntT .i64 (slvE M b n)]) := by
  have hMl := hM.1
  have hcs : Shp (copyM M [b] n) n (n + 1) := copyM_shp hM
  have hcf : FitM (copyM M [b] n) L := copyM_fit hf (fun r hr => by simp at hr; subst hr; exact hfb) hL
  obtain ⟨U, hU⟩ : ∃ U, U = (slvU M b n).1 := ⟨_, rfl⟩
  have hUs : Shp U n (n + 1) := by rw [hU]; exact slvU_shp hM
  have hUl := hUs.1
  have hUf : FitM U (grow L n) := by rw [hU]; exact slvU_fit hM hf hfb hL
  have hG1 : 1 ≤ grow L n := Nat.le_trans hL (grow_le L n)
  refine Fun.intro Tryz.func244 rfl Tryz.ntmps244 rfl (fun cx => ?_)
  refine T_seq ?_
  refine T_region ?_
  refine R_op rfl rfl rfl (op_assign Has.c) ?_
  refine R_op rfl rfl rfl (op_assign (Has.cN 0)) ?_
  refine R_nil ?_
  refine T_seq ?_
  refine T_seq ?_
  refine T_region ?_
  refine R_op rfl rfl rfl (op_move (Has.t rfl)) ?_
  refine R_op rfl rfl rfl (op_call Tryz.call242 (c_square hM h1 hn) ⟨(Has.t rfl), trivial⟩) ?_
  refine R_op rfl rfl rfl (op_not (Has.t rfl)) ?_
  refine R_op rfl rfl rfl (op_move (Has.t rfl)) ?_
  refine R_step rfl rfl (S_when rfl rfl (Has.t rfl) (fun h => op_move (Has.t rfl))) ?_
  refine R_step rfl rfl (S_when rfl rfl (Has.t rfl) (fun h => op_len Tryz.runUnderlying30 (Has.w rfl h) len_map)) ?_
  refine R_step rfl rfl (S_when rfl rfl (Has.t rfl) (fun h => op_move (Has.t rfl))) ?_
  refine R_step rfl rfl (S_when rfl rfl (Has.t rfl) (fun h => op_len Tryz.runUnderlying31 (Has.w rfl h) len_map)) ?_
  refine R_step rfl rfl (S_when rfl rfl (Has.t rfl) (fun h => op_neqN (Has.w rfl h) (Has.w rfl h))) ?_
  refine R_op rfl rfl rfl (op_or (Has.t rfl) (fun h => (Has.w rfl h))) ?_
  refine R_nil ?_
  refine T_condF (Has.t rfl) (by simp [hMl, hb]) ?_
  refine T_skip ?_
  refine T_seq ?_
  refine T_region ?_
  refine R_op rfl rfl rfl (op_move (Has.t rfl)) ?_
  refine R_op rfl rfl rfl (op_len Tryz.runUnderlying31 (Has.t rfl) (by rw [List.length_map, hMl])) ?_
  refine R_op rfl rfl rfl (op_assign (Has.t rfl)) ?_
  refine R_nil ?_
  refine T_seq ?_
  refine T_region ?_
  refine R_op rfl rfl rfl (op_move (Has.t rfl)) ?_
  refine R_op rfl rfl rfl (op_move (Has.t rfl)) ?_
  refine R_op rfl rfl rfl (op_bslice (xs := [.tmp 26]) Tryz.runUnderlying31 Tryz.sizeOf30 Tryz.zeroValue30 (Elems.cons (Has.t rfl) Elems.nil) rfl rfl rfl) ?_
  refine R_call0 Tryz.call243 (c_copiedO (M := M) (bs := [b]) (n := n) (m := n) hM (fun r hr => by simp at hr; subst hr; omega) (by omega) (by omega) (by simp)) ⟨(Has.t rfl), (Has.t rfl), trivial⟩ rfl (fun B28 _ => ?_)
  refine R_op rfl rfl rfl (op_assign (Has.t rfl)) ?_
  refine R_nil ?_
  refine T_seq ?_
  refine T_seq ?_
  refine T_region ?_
  refine R_op rfl rfl rfl (op_move (Has.t rfl)) ?_
  refine R_call1 Tryz.call246 (c_elimO (n := n) (m := n + 1) (L := L) hcs hcf hL hg (by omega) (by omega)) (i := 0) rfl ⟨(Has.t rfl), trivial⟩ rfl (fun uu _ => ?_)
  refine R_op rfl rfl rfl (op_move (Has.t rfl)) ?_
  refine R_op rfl rfl rfl (op_extract (Has.t rfl) rfl) ?_
  refine R_op rfl rfl rfl (op_extract (Has.t rfl) rfl) ?_
  refine R_op rfl rfl rfl (op_assign (Has.t rfl)) ?_
  refine R_op rfl rfl rfl (op_assign (Has.t rfl)) ?_
  refine R_nil ?_
  refine T_seq ?_
  refine T_region ?_
  refine R_op rfl rfl rfl (op_move (Has.t rfl)) ?_
  refine R_op rfl rfl rfl (op_geq (Has.t rfl) Has.c) ?_
  refine R_nil ?_
  refine T_cond (Has.t rfl) (fun hs => ?_) (fun hs => ?_)
  · have he : slvE M b n = 6 := by rw [slvE, if_pos (show 0 ≤ (slvU M b n).2.2 from of_decide_eq_true hs)]
    refine T_seq ?_
    refine T_region ?_
    refine R_op rfl rfl rfl (op_assign Has.c) ?_
    refine R_op rfl rfl rfl (op_assign (Has.cN 6)) ?_
    refine R_nil ?_
    refine T_ret2 rfl (rv_to (rv_tmp rfl) ?_) (rv_to (rv_tmp rfl) ?_)
    · exact (fun v V k => by rw [he]; exact nil_slT v V k)
    · exact (int_of he.symm)
  · have hst : ¬ 0 ≤ (slvU M b n).2.2 := of_decide_eq_false hs
    have he : slvE M b n = 0 := by rw [slvE, if_neg hst]
    have hdz : ∀ i, i < n → gm U i i ≠ Qi.zero := by rw [hU]; exact elim_diag hcs (Nat.le_refl n) (slvU_lt hst)
    refine T_skip ?_
    refine T_seq ?_
    refine T_region ?_
    refine R_op rfl rfl rfl (op_move (Has.t rfl)) ?_
    refine R_new rfl rfl rfl (new_makeO (T := NumT Qi.zero) (i := Tryz.t49) und_30 info_49 rfl rfl (Has.t rfl) rfl num_zero_p (El.ag rfl) (by show 88 * _ ≤ _; omega) (by omega)) (fun B37 => ?_)
    refine R_op rfl rfl rfl (op_assign (Has.t rfl)) ?_
    refine R_nil ?_
    refine T_seq ?_
    refine T_seq ?_
    refine T_region ?_
    refine R_op rfl rfl rfl (op_move (Has.t rfl)) ?_
    refine R_op rfl rfl rfl (op_subN (Has.t rfl) (Has.cN 1) (by omega) (by show _ < 9223372036854775808; first | omega | (simp only [lim]; omega))) ?_
    refine R_op rfl rfl rfl (op_assign (Has.t rfl)) ?_
    refine R_nil ?_
    refine T_block ?_
    refine T_conv 0 rfl (matO_of (show FRow NumT (elimTo (copyM M [b] n) n).1 = FRow NumT U by rw [hU]; rfl)) ?_
    refine T_openW 0 rfl (fun vs hvs => ?_)
    have hvl : vs.length = n := by have h := hvs.len; rw [List.length_map, hUl] at h; exact h
    refine T_loop (fun (j : Nat) => j ≤ n) (fun (j : Nat) => n - j) (fun (j : Nat) => [(0, Is (.slice (some ⟨B28, 0, none⟩) n n)), (6, NT .i64 n), (9, Is B37), (10, IntT .i64 ((n : Int) - 1 - (j : Int)))]) (fun (j : Nat) => [matW B28 30 49 5 vs vs (FRow NumT U), rowO 49 5 B37 ((bkS U n j).map NumT)]) 0 (Nat.zero_le _)
      (Sub.cons rfl (Sub.cons rfl (Sub.cons rfl (Sub.to rfl (int_of (by omega)) Sub.nil)))) (HSub.cons (fun _ _ _ h => h) (HSub.cons (rowO_of (by rw [bkS]; exact tab_rep NumT n)) HSub.nil)) (fun j hj => ?_)
    refine T_seq ?_
    refine T_seq ?_
    refine T_region ?_
    refine R_op rfl rfl rfl (op_move (Has.t rfl)) ?_
    refine R_op rfl rfl rfl (op_geq (Has.t rfl) Has.c) ?_
    refine R_nil ?_
    refine T_cond (Has.t rfl) (fun hc => ?_) (fun hc => ?_)
    · have hjn : j < n := bk_ge (of_decide_eq_true hc)
      obtain ⟨q, hq⟩ : ∃ q, q = n - (j + 1) := ⟨_, rfl⟩
      have hqi : (n : Int) - 1 - (j : Int) = (q : Int) := by omega
      have hqr : (U.getD q []).length = n + 1 := hUs.row (by omega)
      have hXf := bk_fit hUf hG1 hdz j hj
      have hXl := bkS_len U n j
      have hX1 : 1 ≤ xgr (grow L n) j := Nat.le_trans hG1 (xgr_ge _ _)
      have hxm := xgr_mono (grow L n) (show j + 1 ≤ n + 1 by omega)
      refine T_skip ?_
      refine T_seq ?_
      refine T_block ?_
      refine T_seq ?_
      refine T_region ?_
      refine R_op rfl rfl rfl (op_move (Has.t rfl)) ?_
      refine R_op rfl rfl rfl (op_move (Has.t rfl)) ?_
      refine R_op rfl rfl rfl (op_idxB Tryz.runUnderlying31 Tryz.sizeOf30 (Has.t rfl) (Has.t rfl) hqi (by omega) (by rw [Nat.mul_one, Nat.zero_add])) ?_
      refine R_op rfl rfl rfl (op_ldHW Tryz.isAgg30 Tryz.sizeOf30 (Has.t rfl) (j := 0) rfl (by omega)) ?_
      refine R_op rfl rfl rfl (op_move (Has.t rfl)) ?_
      refine R_op rfl rfl rfl (op_idxW Tryz.runUnderlying30 Tryz.sizeOf49 (Has.t rfl) (Has.t rfl) rfl (j := 0) rfl (by omega) (by omega) (by omega)) ?_
      refine R_op rfl rfl rfl (op_ldW Tryz.isAgg49 Tryz.sizeOf49 (Has.t rfl) (j := 0) rfl (by omega) (by omega) (by omega)) ?_
      refine R_new rfl rfl rfl (new_alloc (Ts := [Is (.bool false), Is (.slice none 0 0), Is (.bool false), Is (.slice none 0 0), Is (.slice none 0 0)]) Tryz.zeroValue49 rfl (fun V => Cells.cons' ⟨rfl, trivial⟩ (Cells.cons' ⟨rfl, trivial⟩ (Cells.cons' ⟨rfl, trivial⟩ (Cells.cons' ⟨rfl, trivial⟩ (Cells.cons' ⟨rfl, trivial⟩ (Cells.nil))))))) (fun B11 => ?_)
      refine R_stA Tryz.sizeOf49 (Has.t rfl) (Has.t rfl) rfl (i := 2) rfl (Nat.le_of_ble_eq_true rfl) rfl rfl ?_
      refine R_nil ?_
      refine T_seq ?_
      refine T_seq ?_
      refine T_region ?_
      refine R_op rfl rfl rfl (op_move (Has.t rfl)) ?_
      refine R_op rfl rfl rfl (op_add (Has.t rfl) Has.c (r := ((q + 1 : Nat) : Int)) ((w64 (z := (n : Int) - 1 - (j : Int) + 1) (by omega)).trans (by omega))) ?_
      refine R_op rfl rfl rfl (op_assign (Has.t rfl)) ?_
      refine R_nil ?_
      refine T_block ?_
      refine T_loop (fun (k : Nat) => k ≤ j) (fun (k : Nat) => j - k) (fun (k : Nat) => [(0, Is (.slice (some ⟨B28, 0, none⟩) n n)), (6, NT .i64 n), (9, Is B37), (10, IntT .i64 ((n : Int) - 1 - (j : Int))), (11, PtrB B11 0), (12, NT .i64 (q + 1 + k))]) (fun (k : Nat) => [matW B28 30 49 5 vs vs (FRow NumT U), rowO 49 5 B37 ((bkS U n j).map NumT), box B11 49 [BoolT (decide ((subS U (bkS U n j) n q k).a < 0)), NatT (subS U (bkS U n j) n q k).a.natAbs, BoolT (decide ((subS U (bkS U n j) n q k).b < 0)), NatT (subS U (bkS U n j) n q k).b.natAbs, NatT (du (subS U (bkS U n j) n q k))]]) 0 (Nat.zero_le _)
        (Sub.cons rfl (Sub.cons rfl (Sub.cons rfl (Sub.cons rfl (Sub.cons rfl (Sub.cons rfl Sub.nil)))))) (HSub.cons (fun _ _ _ h => h) (HSub.cons (fun _ _ _ h => h) (HSub.cons (box_of rfl) HSub.nil))) (fun k hk => ?_)
      refine T_seq ?_
      refine T_seq ?_
      refine T_region ?_
      refine R_op rfl rfl rfl (op_move (Has.t rfl)) ?_
      refine R_op rfl rfl rfl (op_move (Has.t rfl)) ?_
      refine R_op rfl rfl rfl (op_lssN (Has.t rfl) (Has.t rfl)) ?_
      refine R_nil ?_
      refine T_cond (Has.t rfl) (fun hf => ?_) (fun hf => ?_)
      · have hkj : k < j := by simp only [decide_eq_true_eq] at hf; omega
        haveI f1 : FitC (subS U (bkS U n j) n q k) (grow L n + k * (grow L n + xgr (grow L n) j + 2)) := sub_fit hUf hXf hG1 hX1 k
        haveI f2 : FitC (gm U q (q + 1 + k)) (grow L n) := hUf.get hG1 _ _
        haveI f3 : FitC (gv (bkS U n j) (q + 1 + k)) (xgr (grow L n) j) := hXf.get hX1 _
        have hb1 := bk_bound (G := grow L n) (X := xgr (grow L n) j) hkj
        have hb2 : xgr (grow L n) (j + 1) = j * (xgr (grow L n) j + grow L n + 2) + 4 * grow L n + 2 := rfl
        refine T_skip ?_
        refine T_seq ?_
        refine T_block ?_
        refine D_start (m := 15) ?_
        refine D_step (Ei := [(11, _)]) rfl rfl (Srcs.cons (Src.pre rfl rfl) Srcs.nil) (S_plain rfl (op_ldBA Tryz.isAgg49 Tryz.sizeOf49 (Has.t rfl) (i := 2) rfl rfl rfl)) ?_
        refine D_step (Ei := [(58, _)]) rfl rfl (Srcs.cons (Src.op 0 rfl rfl) Srcs.nil) (S_plain rfl (op_iface mkif_49 (Has.t rfl))) ?_
        refine D_step (Ei := [(0, _)]) rfl rfl (Srcs.cons (Src.pre rfl rfl) Srcs.nil) (S_plain rfl (op_move (Has.t rfl))) ?_
        refine D_step (Ei := [(10, _)]) rfl rfl (Srcs.cons (Src.pre rfl rfl) Srcs.nil) (S_plain rfl (op_move (Has.t rfl))) ?_
        refine D_step (Ei := [(60, _), (61, _)]) rfl rfl (Srcs.cons (Src.op 2 rfl rfl) (Srcs.cons (Src.op 3 rfl rfl) Srcs.nil)) (S_plain rfl (op_idxB Tryz.runUnderlying31 Tryz.sizeOf30 (Has.t rfl) (Has.t rfl) hqi (by omega) (by rw [Nat.mul_one, Nat.zero_add]))) ?_
        refine D_step (Ei := [(62, _)]) rfl rfl (Srcs.cons (Src.op 4 rfl rfl) Srcs.nil) (S_plain rfl (op_ldHW Tryz.isAgg30 Tryz.sizeOf30 (Has.t rfl) (j := 0) rfl (by omega))) ?_
        refine D_step (Ei := [(12, _)]) rfl rfl (Srcs.cons (Src.pre rfl rfl) Srcs.nil) (S_plain rfl (op_move (Has.t rfl))) ?_
        refine D_step (Ei := [(63, _), (64, _)]) rfl rfl (Srcs.cons (Src.op 5 rfl rfl) (Srcs.cons (Src.op 6 rfl rfl) Srcs.nil)) (S_plain rfl (op_idxW Tryz.runUnderlying30 Tryz.sizeOf49 (Has.t rfl) (Has.t rfl) rfl (j := 0) rfl (by omega) (by omega) (by omega))) ?_
        refine D_step (Ei := [(65, _)]) rfl rfl (Srcs.cons (Src.op 7 rfl rfl) Srcs.nil) (S_plain rfl (op_ldW Tryz.isAgg49 Tryz.sizeOf49 (Has.t rfl) (j := 0) rfl (by omega) (by omega) (by omega))) ?_
        refine D_step (Ei := [(66, _)]) rfl rfl (Srcs.cons (Src.op 8 rfl rfl) Srcs.nil) (S_plain rfl (op_iface mkif_49 (Has.t rfl))) ?_
        refine D_step (Ei := [(9, _)]) rfl rfl (Srcs.cons (Src.pre rfl rfl) Srcs.nil) (S_plain rfl (op_move (Has.t rfl))) ?_
        refine D_step (Ei := [(12, _)]) rfl rfl (Srcs.cons (Src.pre rfl rfl) Srcs.nil) (S_plain rfl (op_move (Has.t rfl))) ?_
        refine D_step (Ei := [(68, _), (69, _)]) rfl rfl (Srcs.cons (Src.op 10 rfl rfl) (Srcs.cons (Src.op 11 rfl rfl) Srcs.nil)) (S_plain rfl (op_idxO Tryz.runUnderlying30 Tryz.sizeOf49 (Has.t rfl) (Has.t rfl) rfl (i := 1) rfl (by rw [List.length_map]; omega) rfl)) ?_
        refine D_step (Ei := [(70, _)]) rfl rfl (Srcs.cons (Src.op 12 rfl rfl) Srcs.nil) (S_plain rfl (op_ldO Tryz.isAgg49 Tryz.sizeOf49 (Has.t rfl) (i := 1) rfl rfl (map_get (getD_some (d := Qi.zero) (by omega))))) ?_
        refine D_step (Ei := [(67, _), (71, _)]) rfl rfl (Srcs.cons (Src.op 9 rfl rfl) (Srcs.cons (Src.op 13 rfl rfl) Srcs.nil)) (S_plain rfl (op_invoke meth_49_Mul Tryz.call56 (c_Mul (x := gm U q (q + 1 + k)) (y := gv (bkS U n j) (q + 1 + k)) (L := grow L n) (M := xgr (grow L n) j) (by omega)) (Has.t rfl) ⟨(Has.t rfl), trivial⟩)) ?_
        refine D_done mixed rfl (by kernel_rfl) (F_val (F_val (F_val (F_val (F_val (F_val (F_val (F_val (F_val (F_val (F_val (F_val (F_val (F_val (F_val (F_nil ?_))))))))))))))))
        refine R_op rfl rfl rfl (op_invoke meth_49_Sub Tryz.call58 (c_Sub (x := (subS U (bkS U n j) n q k)) (y := gm U q (q + 1 + k) * gv (bkS U n j) (q + 1 + k)) (L := grow L n + k * (grow L n + xgr (grow L n) j + 2)) (M := grow L n + xgr (grow L n) j + 1) (by omega)) (Has.t rfl) ⟨(Has.t rfl), trivial⟩) ?_
        refine R_stA Tryz.sizeOf49 (Has.t rfl) (Has.t rfl) rfl (i := 2) rfl (Nat.le_of_ble_eq_true rfl) rfl rfl ?_
        refine R_nil ?_
        refine T_blk ?_
        refine T_region ?_
        refine R_op rfl rfl rfl (op_move (Has.t rfl)) ?_
        refine R_op rfl rfl rfl (op_addN (Has.t rfl) (Has.cN 1) (by show _ < 9223372036854775808; first | omega | (simp only [lim]; omega))) ?_
        refine R_op rfl rfl rfl (op_assign (Has.t rfl)) ?_
        refine R_nil ?_
        refine T_again (k + 1) hkj (by omega) (Sub.cons rfl (Sub.cons rfl (Sub.cons rfl (Sub.cons rfl (Sub.cons rfl (Sub.cons rfl Sub.nil)))))) (HSub.cons (fun _ _ _ h => h) (HSub.cons (fun _ _ _ h => h) (HSub.cons (box_of rfl) HSub.nil)))
      · obtain rfl : k = j := Nat.le_antisymm hk (by simp only [decide_eq_false_iff_not] at hf; omega)
        haveI f1 : FitC (subS U (bkS U n k) n q k) (grow L n + k * (grow L n + xgr (grow L n) k + 2)) := sub_fit hUf hXf hG1 hX1 k
        haveI f2 : FitC (gm U q q) (grow L n) := hUf.get hG1 _ _
        have hb3 : k * (xgr (grow L n) k + grow L n + 2) = k * (grow L n + xgr (grow L n) k + 2) := by rw [Nat.add_comm (xgr _ _)]
        have hb2 : xgr (grow L n) (k + 1) = k * (xgr (grow L n) k + grow L n + 2) + 4 * grow L n + 2 := rfl
        refine T_exit rfl ?_
        refine Y.D_start (m := 17) [(16, 1, rowO 49 5 B37 (((bkS U n k).map NumT).set q (NumT ((subS U (bkS U n k) n q k) / gm U q q))))] ?_
        refine Y.D_step (Ei := [(9, _)]) rfl rfl (Y.Srcs.cons (Y.Src.pre rfl rfl) Y.Srcs.nil) rfl rfl (by kernel_rfl) (S_plain rfl (op_move (Has.t rfl))) ?_
        refine Y.D_step (Ei := [(10, _)]) rfl rfl (Y.Srcs.cons (Y.Src.pre rfl rfl) Y.Srcs.nil) rfl rfl (by kernel_rfl) (S_plain rfl (op_move (Has.t rfl))) ?_
        refine Y.D_step (Ei := [(11, _)]) rfl rfl (Y.Srcs.cons (Y.Src.pre rfl rfl) Y.Srcs.nil) rfl rfl (by kernel_rfl) (S_plain rfl (op_ldBA Tryz.isAgg49 Tryz.sizeOf49 (Has.t rfl) (i := 2) rfl rfl rfl)) ?_
        refine Y.D_step (Ei := [(77, _)]) rfl rfl (Y.Srcs.cons (Y.Src.op 2 rfl rfl) Y.Srcs.nil) rfl rfl (by kernel_rfl) (S_plain rfl (op_iface mkif_49 (Has.t rfl))) ?_
        refine Y.D_step (Ei := [(0, _)]) rfl rfl (Y.Srcs.cons (Y.Src.pre rfl rfl) Y.Srcs.nil) rfl rfl (by kernel_rfl) (S_plain rfl (op_move (Has.t rfl))) ?_
        refine Y.D_step (Ei := [(10, _)]) rfl rfl (Y.Srcs.cons (Y.Src.pre rfl rfl) Y.Srcs.nil) rfl rfl (by kernel_rfl) (S_plain rfl (op_move (Has.t rfl))) ?_
        refine Y.D_step (Ei := [(79, _), (80, _)]) rfl rfl (Y.Srcs.cons (Y.Src.op 4 rfl rfl) (Y.Srcs.cons (Y.Src.op 5 rfl rfl) Y.Srcs.nil)) rfl rfl (by kernel_rfl) (S_plain rfl (op_idxB Tryz.runUnderlying31 Tryz.sizeOf30 (Has.t rfl) (Has.t rfl) hqi (by omega) (by rw [Nat.mul_one, Nat.zero_add]))) ?_
        refine Y.D_step (Ei := [(81, _)]) rfl rfl (Y.Srcs.cons (Y.Src.op 6 rfl rfl) Y.Srcs.nil) rfl rfl (by kernel_rfl) (S_plain rfl (op_ldHW Tryz.isAgg30 Tryz.sizeOf30 (Has.t rfl) (j := 0) rfl (by omega))) ?_
        refine Y.D_step (Ei := [(10, _)]) rfl rfl (Y.Srcs.cons (Y.Src.pre rfl rfl) Y.Srcs.nil) rfl rfl (by kernel_rfl) (S_plain rfl (op_move (Has.t rfl))) ?_
        refine Y.D_step (Ei := [(82, _), (83, _)]) rfl rfl (Y.Srcs.cons (Y.Src.op 7 rfl rfl) (Y.Srcs.cons (Y.Src.op 8 rfl rfl) Y.Srcs.nil)) rfl rfl (by kernel_rfl) (S_plain rfl (op_idxW Tryz.runUnderlying30 Tryz.sizeOf49 (Has.t rfl) (Has.t rfl) hqi (j := 0) rfl (by omega) (by omega) (by omega))) ?_
        refine Y.D_step (Ei := [(84, _)]) rfl rfl (Y.Srcs.cons (Y.Src.op 9 rfl rfl) Y.Srcs.nil) rfl rfl (by kernel_rfl) (S_plain rfl (op_ldW Tryz.isAgg49 Tryz.sizeOf49 (Has.t rfl) (j := 0) rfl (by omega) (by omega) (by omega))) ?_
        refine Y.D_step (Ei := [(78, _), (85, _)]) rfl rfl (Y.Srcs.cons (Y.Src.op 3 rfl rfl) (Y.Srcs.cons (Y.Src.op 10 rfl rfl) Y.Srcs.nil)) rfl rfl (by kernel_rfl) (S_plain rfl (op_invoke meth_49_Div Tryz.call174 (c_Div (x := (subS U (bkS U n k) n q k)) (y := gm U q q) (L := grow L n + k * (grow L n + xgr (grow L n) k + 2)) (M := grow L n) (by omega)) (Has.t rfl) ⟨(Has.t rfl), trivial⟩)) ?_
        refine Y.D_step (Ei := [(86, _)]) rfl rfl (Y.Srcs.cons (Y.Src.op 11 rfl rfl) Y.Srcs.nil) rfl rfl (by kernel_rfl) (S_plain rfl (op_move (Has.t rfl))) ?_
        refine Y.D_step (Ei := [(74, _)]) rfl rfl (Y.Srcs.cons (Y.Src.op 12 rfl rfl) Y.Srcs.nil) rfl rfl (by kernel_rfl) (S_plain rfl (op_extract (Has.t rfl) rfl)) ?_
        refine Y.D_hide (Ei := [(74, _)]) rfl rfl (Y.Srcs.cons (Y.Src.op 12 rfl rfl) Y.Srcs.nil) rfl rfl (S_plain rfl (op_extract (Has.t rfl) rfl)) ?_
        refine Y.D_step (Ei := [(75, _), (76, _)]) rfl rfl (Y.Srcs.cons (Y.Src.op 0 rfl rfl) (Y.Srcs.cons (Y.Src.op 1 rfl rfl) Y.Srcs.nil)) rfl rfl (by kernel_rfl) (S_plain rfl (op_idxO Tryz.runUnderlying30 Tryz.sizeOf49 (Has.t rfl) (Has.t rfl) hqi (i := 1) rfl (by rw [List.length_map]; omega) rfl)) ?_
        refine Y.D_putI (Ei := [(89, _), (87, _)]) 1 rfl rfl rfl (Y.Srcs.cons (Y.Src.op 15 rfl rfl) (Y.Srcs.cons (Y.Src.op 13 rfl rfl) Y.Srcs.nil)) (.head _) rfl (P_stO Tryz.sizeOf49 (Has.t rfl) (Has.t rfl) (El.ag rfl) (i := 0) rfl rfl (by rw [List.length_map]; omega)) ?_
        refine Y.D_done mixed rfl (by kernel_rfl) rfl (by simp [Y.okP]) rfl rfl (Y.F_val (Y.F_val (Y.F_val (Y.F_val (Y.F_val (Y.F_val (Y.F_val (Y.F_val (Y.F_val (Y.F_val (Y.F_val (Y.F_val (Y.F_val (Y.F_val (Y.F_val (Y.F_val (Y.F_putI (Y.F_nil ?_))))))))))))))))))
        refine R_nil ?_
        refine T_blk ?_
        refine T_region ?_
        refine R_op rfl rfl rfl (op_move (Has.t rfl)) ?_
        refine R_op rfl rfl rfl (op_sub (Has.t rfl) Has.c (w64 (by omega))) ?_
        refine R_op rfl rfl rfl (op_assign (Has.t rfl)) ?_
        refine R_nil ?_
        refine T_keep [0, 1] rfl (by decide) ?_
        refine T_again (k + 1) hjn (by omega) (Sub.cons rfl (Sub.cons rfl (Sub.cons rfl (Sub.to rfl (int_of (by omega)) Sub.nil)))) (HSub.cons (fun _ _ _ h => h) (HSub.cons (rowO_of (by rw [set_mapF, bkS, ← hq])) HSub.nil))
    · obtain rfl : j = n := Nat.le_antisymm hj (bk_lt (by have h := of_decide_eq_false hc; omega))
      refine T_freeze (i := 1) (tt := 9) rfl rfl frz_row ?_
      refine T_exit rfl ?_
      refine T_seq ?_
      refine T_region ?_
      refine R_op rfl rfl rfl (op_move (Has.t rfl)) ?_
      refine R_op rfl rfl rfl (op_assign (Has.t rfl)) ?_
      refine R_op rfl rfl rfl (op_assign (Has.cN 0)) ?_
      refine R_nil ?_
      refine T_ret2 rfl (rv_to (rv_tmp rfl) ?_) (rv_to (rv_tmp rfl) ?_)
      · exact (slT_of (by rw [he, slvX, ← hU]; rfl))
      · exact (int_of he.symm)
end Go.Proofs.YtppibhcfaahgpaaGreat
namespace Go.Proofs.YtppibhcfaahgpaaGreat
open Go Go.RowKit
abbrev ek (n k : Nat) : List Qi := (idM n).getD k []
theorem ek_len {n k : Nat} (h : k < n) : (ek n k).length = n := (idM_shp n).row h
theorem ek_fit {n k L : Nat} (h : 1 ≤ L) : FitL (ek n k) L := (idM_fit h).row k
def invE (M : List (List Qi)) (n : Nat) : Int := firstE (fun k => slvE M (ek n k) n) n
def invX (M : List (List Qi)) (n : Nat) : List (List Qi) := tab n fun r => tab n fun j => gv (slvX M (ek n j) n) r
theorem tab_getD {α : Type} {n i : Nat} {f : Nat → α} {d : α} (h : i < n) : (tab n f).getD i d = f i := by simp [List.getD, tab_get h]
def invP (M : List (List Qi)) (n k i : Nat) : List (List Qi) := tab n fun r => tab n fun j => if j < k ∨ j = k ∧ r < i then gv (slvX M (ek n j) n) r else gm M r j
theorem invP_shp (M : List (List Qi)) (n k i : Nat) : Shp (invP M n k i) n n := Shp.tab
theorem invP_zero {M : List (List Qi)} {n : Nat} (h : Shp M n n) : M = invP M n 0 0 := by
  rw [invP]
  conv => lhs; rw [mat_tab h]
  exact tab_congr fun r _ => tab_congr fun j _ => by rw [if_neg (by omega)]
theorem invP_col (M : List (List Qi)) (n k : Nat) : invP M n k n = invP M n (k + 1) 0 := tab_congr fun r hr => tab_congr fun j _ => by
  by_cases h : j < k ∨ j = k ∧ r < n
  · rw [if_pos h, if_pos (by omega)]
  · rw [if_neg h, if_neg (by omega)]
theorem invP_fin (M : List (List Qi)) (n : Nat) : invP M n n 0 = invX M n := tab_congr fun r _ => tab_congr fun j hj => by rw [if_pos (by omega)]
theorem invP_next {M : List (List Qi)} {n k i : Nat} (hi : i < n) (hk : k < n) : (invP M n k i).set i (((invP M n k i).getD i []).set k (gv (slvX M (ek n k) n) i)) = invP M n k (i + 1) := by
  apply List.ext_getElem?
  intro r
  by_cases hr : r < n
  · by_cases e : r = i
    · subst e
      rw [List.getElem?_set_self (by rw [(invP_shp _ _ _ _).1]; exact hr), invP, invP, tab_get (f := fun r => tab n fun j => if j < k ∨ j = k ∧ r < _ + 1 then gv (slvX M (ek n j) n) r else gm M r j) hr]
      congr 1
      have : (tab n fun x => tab n fun j => if j < k ∨ j = k ∧ x < r then gv (slvX M (ek n j) n) x else gm M x j).getD r [] = tab n fun j => if j < k ∨ j = k ∧ r < r then gv (slvX M (ek n j) n) r else gm M r j := tab_getD hr
      rw [this]
      apply List.ext_getElem?
      intro j
      by_cases hj : j < n
      · by_cases e2 : j = k
        · subst e2
          rw [List.getElem?_set_self (by rw [tab_len]; exact hj), tab_get hj, if_pos (by omega)]
        · rw [List.getElem?_set_ne (Ne.symm e2), tab_get hj, tab_get hj]
          by_cases e3 : j < k
          · rw [if_pos (.inl e3), if_pos (.inl e3)]
          · rw [if_neg (by omega), if_neg (by omega)]
      · rw [List.getElem?_eq_none (by rw [List.length_set, tab_len]; omega), List.getElem?_eq_none (by rw [tab_len]; omega)]
    · rw [List.getElem?_set_ne (Ne.symm e), invP, invP, tab_get hr, tab_get hr]
      congr 1
      refine tab_congr fun j _ => ?_
      by_cases e3 : j < k ∨ j = k ∧ r < i
      · rw [if_pos e3, if_pos (by omega)]
      · rw [if_neg e3, if_neg (by omega)]
  · rw [List.getElem?_eq_none (by rw [List.length_set, (invP_shp _ _ _ _).1]; omega), List.getElem?_eq_none (by rw [(invP_shp _ _ _ _).1]; omega)]
theorem invE_at {M : List (List Qi)} {n k : Nat} (h : ∀ i, i < k → slvE M (ek n i) n = 0) (hk : k < n) (hx : slvE M (ek n k) n ≠ 0) : invE M n = slvE M (ek n k) n := firstE_at h hx hk
theorem invE_zero {M : List (List Qi)} {n : Nat} (h : ∀ i, i < n → slvE M (ek n i) n = 0) : invE M n = 0 := firstE_none h
def pmM (m : Bool) (a b : List (List Qi)) (n : Nat) : List (List Qi) := tab n fun i => tab n fun j => if m = true then gm a i j - gm b i j else gm a i j + gm b i j
theorem pmM_shp {m : Bool} {a b : List (List Qi)} {n : Nat} : Shp (pmM m a b n) n n := Shp.tab
theorem pmM_fit {m : Bool} {a b : List (List Qi)} {n L M : Nat} (ha : FitM a L) (hb : FitM b M) (h1 : 1 ≤ L) (h2 : 1 ≤ M) : FitM (pmM m a b n) (L + M + 1) := FitM.tab fun i j _ _ => by
  haveI := ha.get h1 i j; haveI := hb.get h2 i j
  split
  · infer_instance
  · infer_instance
theorem all2_nil {T : Ty} {s : Nat} : ∀ vs V, AllT [T, Is (.slice none 0 0)] vs V → AllT [T, SlT s []] vs V
  | [_, _], _, ⟨h1, h2, h3⟩ => ⟨h1, nil_slT _ _ h2, h3⟩
  | [], _, h => h.elim
  | [_], _, h => h.2.elim
  | _ :: _ :: _ :: _, _, h => h.2.2.elim
theorem FunO.arg {P : Program} {f : FuncId} {Ts Ts' : List Ty} {As : Hp} {γ : Type} {U : γ → Ty} {As' : γ → Hp} {Q : γ → Prop} (h : FunO P f Ts As γ U As' Q) (i : ∀ vs V, AllT Ts' vs V → AllT Ts vs V) : FunO P f Ts' As γ U As' Q :=
  fun cx Z vs V w h1 h2 => h cx Z vs V w h1 (i _ _ h2)
end Go.Proofs.YtppibhcfaahgpaaGreat
namespace Go.Proofs.YtppibhcfaahgpaaGreat
open Go Go.RowKit
theorem c_copied0 {M : List (List Qi)} {n m : Nat} (hM : Shp M n m) (hn : n ≤ 1000) (hm : m ≤ 1000) : FunO Tryz.prog 243 [NumM M, Is (.slice none 0 0)] [] Nat (fun B => Is (.slice (some ⟨B, 0, none⟩) n n)) (fun B => [matO B 30 49 5 (FRow NumT M)]) (fun _ => True) := by
  have h := c_copiedO (M := M) (bs := []) hM (fun b hb => by cases hb) hn hm (by simp)
  rw [copyM_nil hM] at h
  exact h.arg all2_nil
set_option maxHeartbeats 1000000 in
set_option maxRecDepth 20000 in
theorem c_Inv {M : List (List Qi)} {n L : Nat} (hM : Shp M n n) (hf : FitM M L) (hL : 1 ≤ L) (h1 : 1 ≤ n) (hn : n ≤ 32) (hg : 6 * grow L n + 4 ≤ 17592186044415) (hx : xgr (grow L n) (n + 1) ≤ 17592186044415) : Fun Tryz.prog 224 [NumM M] (TupT [NumM (okL (invE M n) (invX M n)), IntT .i64 (invE M n)]) := by
  have hMl := hM.1
  refine Fun.intro Tryz.func224 rfl Tryz.ntmps224 rfl (fun cx => ?_)
  refine T_seq ?_
  refine T_region ?_
  refine R_op rfl rfl rfl (op_assign Has.c) ?_
  refine R_op rfl rfl rfl (op_assign (Has.cN 0)) ?_
  refine R_nil ?_
  refine T_seq ?_
  refine T_seq ?_
  refine T_region ?_
  refine R_op rfl rfl rfl (op_move (Has.t rfl)) ?_
  refine R_op rfl rfl rfl (op_call Tryz.call242 (c_square hM h1 hn) ⟨(Has.t rfl), trivial⟩) ?_
  refine R_op rfl rfl rfl (op_not (Has.t rfl)) ?_
  refine R_nil ?_
  refine T_condF (Has.t rfl) (by rfl) ?_
  refine T_skip ?_
  refine T_seq ?_
  refine T_region ?_
  refine R_op rfl rfl rfl (op_move (Has.t rfl)) ?_
  refine R_call0 Tryz.call243 (c_copied0 hM (by omega) (by omega)) ⟨(Has.t rfl), Has.c, trivial⟩ rfl (fun B14 _ => ?_)
  refine R_op rfl rfl rfl (op_assign (Has.t rfl)) ?_
  refine R_nil ?_
  refine T_seq ?_
  refine T_seq ?_
  refine T_region ?_
  refine R_op rfl rfl rfl (op_move (Has.t rfl)) ?_
  refine R_op rfl rfl rfl (op_len Tryz.runUnderlying31 (Has.t rfl) (by rw [List.length_map, hMl])) ?_
  refine R_op rfl rfl rfl (op_call Tryz.call192 (c_Id (n := n) hn) ⟨(Has.t rfl), trivial⟩) ?_
  refine R_op rfl rfl rfl (op_len Tryz.runUnderlying31 (Has.t rfl) len_map) ?_
  refine R_op rfl rfl rfl (op_move (Has.cN 0)) ?_
  refine R_nil ?_
  refine T_block ?_
  refine T_loop (fun (k : Nat) => k ≤ n ∧ ∀ i, i < k → slvE M (ek n i) n = 0) (fun (k : Nat) => n - k) (fun (k : Nat) => [(0, NumM M), (4, Is (.slice (some ⟨B14, 0, none⟩) n n)), (17, NumM (idM n)), (18, NT .i64 n), (19, NT .i64 k)]) (fun (k : Nat) => [matO B14 30 49 5 (FRow NumT (invP M n k 0))]) 0 ⟨Nat.zero_le _, fun i h => by omega⟩
    (Sub.cons rfl (Sub.cons rfl (Sub.cons rfl (Sub.to rfl (nt_of (idM_shp n).1) (Sub.cons rfl Sub.nil))))) (HSub.cons (matO_of (congrArg _ (invP_zero hM))) HSub.nil) (fun k ⟨hk, h0⟩ => ?_)
  refine T_seq ?_
  refine T_region ?_
  refine R_op rfl rfl rfl (op_lssN (Has.t rfl) (Has.t rfl)) ?_
  refine R_nil ?_
  refine T_seq ?_
  refine T_cond (Has.t rfl) (fun hd0 => ?_) (fun hd0 => ?_)
  · simp only [decide_eq_true_eq] at hd0
    have hel := ek_len hd0
    refine T_skip ?_
    refine T_seq ?_
    refine T_block ?_
    refine T_seq ?_
    refine T_region ?_
    refine R_op rfl rfl rfl (op_move (Has.t rfl)) ?_
    refine R_op rfl rfl rfl (op_idx Tryz.runUnderlying31 Tryz.sizeOf30 (Has.t rfl) (Has.t rfl) rfl (map_get (getD_some (d := []) (by rw [(idM_shp n).1]; exact hd0)))) ?_
    refine R_op rfl rfl rfl (op_ld Tryz.isAgg30 Tryz.sizeOf30 (Has.t rfl)) ?_
    refine R_op rfl rfl rfl (op_assign (Has.t rfl)) ?_
    refine R_op rfl rfl rfl (op_assign (Has.t rfl)) ?_
    refine R_nil ?_
    refine T_seq ?_
    refine T_region ?_
    refine R_op rfl rfl rfl (op_move (Has.t rfl)) ?_
    refine R_op rfl rfl rfl (op_move (Has.t rfl)) ?_
    refine R_op rfl rfl rfl (op_call Tryz.call244 (c_Solve (M := M) (b := ek n k) (n := n) (L := L) hM hel hf (ek_fit hL) hL h1 hn hg hx) ⟨(Has.t rfl), (Has.t rfl), trivial⟩) ?_
    refine R_op rfl rfl rfl (op_move (Has.t rfl)) ?_
    refine R_op rfl rfl rfl (op_extract (Has.t rfl) rfl) ?_
    refine R_op rfl rfl rfl (op_extract (Has.t rfl) rfl) ?_
    refine R_op rfl rfl rfl (op_assign (Has.t rfl)) ?_
    refine R_op rfl rfl rfl (op_assign (Has.t rfl)) ?_
    refine R_nil ?_
    refine T_seq ?_
    refine T_seq ?_
    refine T_region ?_
    refine R_op rfl rfl rfl (op_move (Has.t rfl)) ?_
    refine R_op rfl rfl rfl (op_neq (Has.t rfl) Has.c) ?_
    refine R_nil ?_
    refine T_cond (Has.t rfl) (fun he => ?_) (fun he => ?_)
    · have he2 : ¬ slvE M (ek n k) n = 0 := by simpa using he
      have hi := invE_at h0 hd0 he2
      refine T_seq ?_
      refine T_region ?_
      refine R_op rfl rfl rfl (op_move (Has.t rfl)) ?_
      refine R_op rfl rfl rfl (op_assign Has.c) ?_
      refine R_op rfl rfl rfl (op_assign (Has.t rfl)) ?_
      refine R_nil ?_
      refine T_ret2 rfl (rv_to (rv_tmp rfl) ?_) (rv_to (rv_tmp rfl) ?_)
      · exact (fun v V h => by rw [hi, okL, if_neg he2]; exact nil_slT v V h)
      · exact (int_of hi.symm)
    · have he2 : slvE M (ek n k) n = 0 := by simpa using he
      have hxl : (slvX M (ek n k) n).length = n := bkS_len _ _ _
      refine T_sub (E' := [(0, _), (4, _), (5, _), (7, _), (17, _), (18, _), (19, _)]) (Sub.cons rfl (Sub.cons rfl (Sub.cons rfl (Sub.to rfl (slT_of (Us := (slvX M (ek n k) n).map NumT) (by rw [he2]; rfl)) (Sub.cons rfl (Sub.cons rfl (Sub.cons rfl Sub.nil))))))) ?_
      refine T_skip ?_
      refine T_seq ?_
      refine T_region ?_
      refine R_op rfl rfl rfl (op_move (Has.t rfl)) ?_
      refine R_op rfl rfl rfl (op_len Tryz.runUnderlying30 (Has.t rfl) len_map) ?_
      refine R_op rfl rfl rfl (op_move (Has.cN 0)) ?_
      refine R_nil ?_
      refine T_block ?_
      refine T_loop (fun (i : Nat) => i ≤ n) (fun (i : Nat) => n - i) (fun (i : Nat) => [(0, NumM M), (4, Is (.slice (some ⟨B14, 0, none⟩) n n)), (5, NT .i64 k), (7, NumsT (slvX M (ek n k) n)), (17, NumM (idM n)), (18, NT .i64 n), (19, NT .i64 k), (34, NT .i64 n), (35, NT .i64 i)]) (fun (i : Nat) => [matO B14 30 49 5 (FRow NumT (invP M n k i))]) 0 (Nat.zero_le _)
        (Sub.cons rfl (Sub.cons rfl (Sub.cons rfl (Sub.cons rfl (Sub.cons rfl (Sub.cons rfl (Sub.cons rfl (Sub.to rfl (nt_of hxl) (Sub.cons rfl Sub.nil))))))))) (HSub.refl _) (fun i hi => ?_)
      refine T_seq ?_
      refine T_region ?_
      refine R_op rfl rfl rfl (op_lssN (Has.t rfl) (Has.t rfl)) ?_
      refine R_nil ?_
      refine T_seq ?_
      refine T_cond (Has.t rfl) (fun hf2 => ?_) (fun hf2 => ?_)
      · simp only [decide_eq_true_eq] at hf2
        have hpl := (invP_shp M n k i).1
        have hpr : ((invP M n k i).getD i []).length = n := (invP_shp M n k i).row hf2
        refine T_focus 0 (i) rfl (frow_get (by omega)) (fun v => ?_)
        refine T_skip ?_
        refine T_seq ?_
        refine T_block ?_
        refine T_seq ?_
        refine T_region ?_
        refine R_op rfl rfl rfl (op_move (Has.t rfl)) ?_
        refine R_op rfl rfl rfl (op_assign (Has.t rfl)) ?_
        refine R_nil ?_
        refine D_start (m := 9) ?_
        refine D_step (Ei := [(4, _)]) rfl rfl (Srcs.cons (Src.pre rfl rfl) Srcs.nil) (S_plain rfl (op_move (Has.t rfl))) ?_
        refine D_step (Ei := [(9, _)]) rfl rfl (Srcs.cons (Src.pre rfl rfl) Srcs.nil) (S_plain rfl (op_move (Has.t rfl))) ?_
        refine D_step (Ei := [(38, _), (39, _)]) rfl rfl (Srcs.cons (Src.op 0 rfl rfl) (Srcs.cons (Src.op 1 rfl rfl) Srcs.nil)) (S_plain rfl (op_idxB Tryz.runUnderlying31 Tryz.sizeOf30 (Has.t rfl) (Has.t rfl) rfl (by omega) (by rw [Nat.mul_one, Nat.zero_add]))) ?_
        refine D_step (Ei := [(40, _)]) rfl rfl (Srcs.cons (Src.op 2 rfl rfl) Srcs.nil) (S_plain rfl (op_ldH Tryz.isAgg30 Tryz.sizeOf30 (Has.t rfl) (j := 0) rfl)) ?_
        refine D_step (Ei := [(5, _)]) rfl rfl (Srcs.cons (Src.pre rfl rfl) Srcs.nil) (S_plain rfl (op_move (Has.t rfl))) ?_
        refine D_step (Ei := [(7, _)]) rfl rfl (Srcs.cons (Src.pre rfl rfl) Srcs.nil) (S_plain rfl (op_move (Has.t rfl))) ?_
        refine D_step (Ei := [(9, _)]) rfl rfl (Srcs.cons (Src.pre rfl rfl) Srcs.nil) (S_plain rfl (op_move (Has.t rfl))) ?_
        refine D_step (Ei := [(43, _), (44, _)]) rfl rfl (Srcs.cons (Src.op 5 rfl rfl) (Srcs.cons (Src.op 6 rfl rfl) Srcs.nil)) (S_plain rfl (op_idx Tryz.runUnderlying30 Tryz.sizeOf49 (Has.t rfl) (Has.t rfl) rfl (map_get (getD_some (d := Qi.zero) (by omega))))) ?_
        refine D_step (Ei := [(45, _)]) rfl rfl (Srcs.cons (Src.op 7 rfl rfl) Srcs.nil) (S_plain rfl (op_ld Tryz.isAgg49 Tryz.sizeOf49 (Has.t rfl))) ?_
        refine D_done mixed rfl (by kernel_rfl) (F_val (F_val (F_val (F_val (F_val (F_val (F_val (F_val (F_val (F_nil ?_))))))))))
        refine R_op rfl rfl rfl (op_idxO Tryz.runUnderlying30 Tryz.sizeOf49 (Has.t rfl) (Has.t rfl) rfl (i := 1) rfl (by rw [List.length_map]; omega) rfl) ?_
        refine R_stO Tryz.sizeOf49 (Has.t rfl) (Has.t rfl) (El.ag rfl) (i := 1) rfl rfl (by rw [List.length_map]; omega) rfl ?_
        refine R_nil ?_
        refine T_blk ?_
        refine T_unfocus 0 1 rfl rfl (by decide) (by simp only [FRow, List.length_map]; omega) ?_
        refine T_region ?_
        refine R_op rfl rfl rfl (op_addN (Has.t rfl) (Has.cN 1) (by show _ < 9223372036854775808; first | omega | (simp only [lim]; omega))) ?_
        refine R_op rfl rfl rfl (op_move (Has.t rfl)) ?_
        refine R_nil ?_
        refine T_keep [0] rfl (by decide) ?_
        refine T_again (i + 1) hf2 (by omega) (Sub.cons rfl (Sub.cons rfl (Sub.cons rfl (Sub.cons rfl (Sub.cons rfl (Sub.cons rfl (Sub.cons rfl (Sub.cons rfl (Sub.cons rfl Sub.nil))))))))) (HSub.cons (matO_of (by rw [set_mapF, set_FRow, invP_next hf2 hd0])) HSub.nil)
      · simp only [decide_eq_false_iff_not] at hf2
        obtain rfl : n = i := Nat.le_antisymm (by omega) hi
        refine T_exit rfl ?_
        refine T_blk ?_
        refine T_region ?_
        refine R_op rfl rfl rfl (op_addN (Has.t rfl) (Has.cN 1) (by show _ < 9223372036854775808; first | omega | (simp only [lim]; omega))) ?_
        refine R_op rfl rfl rfl (op_move (Has.t rfl)) ?_
        refine R_nil ?_
        refine T_again (k + 1) ⟨hd0, fun j h => by
            by_cases e : j = k
            · rw [e]; exact he2
            · exact h0 j (by omega)⟩ (by omega) (Sub.cons rfl (Sub.cons rfl (Sub.cons rfl (Sub.cons rfl (Sub.cons rfl Sub.nil))))) (HSub.cons (matO_of (by rw [invP_col])) HSub.nil)
  · simp only [decide_eq_false_iff_not] at hd0
    obtain rfl : n = k := Nat.le_antisymm (by omega) hk
    have hi := invE_zero h0
    refine T_freeze (i := 0) (tt := 4) rfl rfl (frz_matF (s := 5) (M := invP M n n 0) (invP_shp M n n 0).1.symm) ?_
    refine T_exit rfl ?_
    refine T_seq ?_
    refine T_region ?_
    refine R_op rfl rfl rfl (op_move (Has.t rfl)) ?_
    refine R_op rfl rfl rfl (op_assign (Has.t rfl)) ?_
    refine R_op rfl rfl rfl (op_assign (Has.cN 0)) ?_
    refine R_nil ?_
    refine T_ret2 rfl (rv_to (rv_tmp rfl) ?_) (rv_to (rv_tmp rfl) ?_)
    · exact (slT_of (by rw [hi, invP_fin]; rfl))
    · exact (int_of hi.symm)
set_option maxRecDepth 20000 in
theorem c_sum1 {m : Bool} {a b : List (List Qi)} {n i j L M : Nat} (ha : Shp a n n) (hb : Shp b n n) (hfa : FitM a L) (hfb : FitM b M) (h1 : 1 ≤ L) (h2 : 1 ≤ M) (hg : L + M + 1 ≤ 17592186044415) (hi : i < n) (hj : j < n) : Fun Tryz.prog 225 [NT .i64 i, NT .i64 j, PT (BoolT m), PT (NumM a), PT (NumM b)] (NumT (if m = true then gm a i j - gm b i j else gm a i j + gm b i j)) := by
  have hal := ha.1
  have hbl := hb.1
  have har := ha.row hi
  have hbr := hb.row hi
  haveI f1 : FitC (gm a i j) L := hfa.get h1 i j
  haveI f2 : FitC (gm b i j) M := hfb.get h2 i j
  refine Fun.intro Tryz.func225 rfl Tryz.ntmps225 rfl (fun cx => ?_)
  refine T_seq ?_
  refine T_region ?_
  refine R_new rfl rfl rfl (new_alloc (Ts := [Is (.bool false), Is (.slice none 0 0), Is (.bool false), Is (.slice none 0 0), Is (.slice none 0 0)]) Tryz.zeroValue49 rfl (fun V => Cells.cons' ⟨rfl, trivial⟩ (Cells.cons' ⟨rfl, trivial⟩ (Cells.cons' ⟨rfl, trivial⟩ (Cells.cons' ⟨rfl, trivial⟩ (Cells.cons' ⟨rfl, trivial⟩ (Cells.nil))))))) (fun B7 => ?_)
  refine R_nil ?_
  refine T_seq ?_
  refine T_seq ?_
  refine T_region ?_
  refine R_op rfl rfl rfl (op_ld Tryz.isAgg4 Tryz.sizeOf4 (Has.t rfl)) ?_
  refine R_nil ?_
  refine T_cond (Has.t rfl) (fun hm => ?_) (fun hm => ?_)
  · refine T_seq ?_
    refine D_start (m := 15) ?_
    refine D_step (Ei := [(3, _)]) rfl rfl (Srcs.cons (Src.pre rfl rfl) Srcs.nil) (S_plain rfl (op_ld Tryz.isAgg31 Tryz.sizeOf31 (Has.t rfl))) ?_
    refine D_step (Ei := [(0, _)]) rfl rfl (Srcs.cons (Src.pre rfl rfl) Srcs.nil) (S_plain rfl (op_move (Has.t rfl))) ?_
    refine D_step (Ei := [(9, _), (10, _)]) rfl rfl (Srcs.cons (Src.op 0 rfl rfl) (Srcs.cons (Src.op 1 rfl rfl) Srcs.nil)) (S_plain rfl (op_idx Tryz.runUnderlying31 Tryz.sizeOf30 (Has.t rfl) (Has.t rfl) rfl (map_get (getD_some (d := []) (by omega))))) ?_
    refine D_step (Ei := [(11, _)]) rfl rfl (Srcs.cons (Src.op 2 rfl rfl) Srcs.nil) (S_plain rfl (op_ld Tryz.isAgg30 Tryz.sizeOf30 (Has.t rfl))) ?_
    refine D_step (Ei := [(1, _)]) rfl rfl (Srcs.cons (Src.pre rfl rfl) Srcs.nil) (S_plain rfl (op_move (Has.t rfl))) ?_
    refine D_step (Ei := [(12, _), (13, _)]) rfl rfl (Srcs.cons (Src.op 3 rfl rfl) (Srcs.cons (Src.op 4 rfl rfl) Srcs.nil)) (S_plain rfl (op_idx Tryz.runUnderlying30 Tryz.sizeOf49 (Has.t rfl) (Has.t rfl) rfl (map_get (getD_some (d := Qi.zero) (by omega))))) ?_
    refine D_step (Ei := [(14, _)]) rfl rfl (Srcs.cons (Src.op 5 rfl rfl) Srcs.nil) (S_plain rfl (op_ld Tryz.isAgg49 Tryz.sizeOf49 (Has.t rfl))) ?_
    refine D_step (Ei := [(15, _)]) rfl rfl (Srcs.cons (Src.op 6 rfl rfl) Srcs.nil) (S_plain rfl (op_iface mkif_49 (Has.t rfl))) ?_
    refine D_step (Ei := [(4, _)]) rfl rfl (Srcs.cons (Src.pre rfl rfl) Srcs.nil) (S_plain rfl (op_ld Tryz.isAgg31 Tryz.sizeOf31 (Has.t rfl))) ?_
    refine D_step (Ei := [(0, _)]) rfl rfl (Srcs.cons (Src.pre rfl rfl) Srcs.nil) (S_plain rfl (op_move (Has.t rfl))) ?_
    refine D_step (Ei := [(17, _), (18, _)]) rfl rfl (Srcs.cons (Src.op 8 rfl rfl) (Srcs.cons (Src.op 9 rfl rfl) Srcs.nil)) (S_plain rfl (op_idx Tryz.runUnderlying31 Tryz.sizeOf30 (Has.t rfl) (Has.t rfl) rfl (map_get (getD_some (d := []) (by omega))))) ?_
    refine D_step (Ei := [(19, _)]) rfl rfl (Srcs.cons (Src.op 10 rfl rfl) Srcs.nil) (S_plain rfl (op_ld Tryz.isAgg30 Tryz.sizeOf30 (Has.t rfl))) ?_
    refine D_step (Ei := [(1, _)]) rfl rfl (Srcs.cons (Src.pre rfl rfl) Srcs.nil) (S_plain rfl (op_move (Has.t rfl))) ?_
    refine D_step (Ei := [(20, _), (21, _)]) rfl rfl (Srcs.cons (Src.op 11 rfl rfl) (Srcs.cons (Src.op 12 rfl rfl) Srcs.nil)) (S_plain rfl (op_idx Tryz.runUnderlying30 Tryz.sizeOf49 (Has.t rfl) (Has.t rfl) rfl (map_get (getD_some (d := Qi.zero) (by omega))))) ?_
    refine D_step (Ei := [(22, _)]) rfl rfl (Srcs.cons (Src.op 13 rfl rfl) Srcs.nil) (S_plain rfl (op_ld Tryz.isAgg49 Tryz.sizeOf49 (Has.t rfl))) ?_
    refine D_done mixed rfl (by kernel_rfl) (F_val (F_val (F_val (F_val (F_val (F_val (F_val (F_val (F_val (F_val (F_val (F_val (F_val (F_val (F_val (F_nil ?_))))))))))))))))
    refine R_op rfl rfl rfl (op_invoke meth_49_Sub Tryz.call58 (c_Sub (x := gm a i j) (y := gm b i j) (L := L) (M := M) hg) (Has.t rfl) ⟨(Has.t rfl), trivial⟩) ?_
    refine R_stA Tryz.sizeOf49 (Has.t rfl) (Has.t rfl) rfl (i := 0) rfl (Nat.le_of_ble_eq_true rfl) rfl rfl ?_
    refine R_nil ?_
    refine T_ret1 rfl (rv_to (rv_cell Tryz.isAgg49 Tryz.sizeOf49 rfl (i := 0) rfl rfl) ?_)
    exact (num_of (by rw [if_pos hm]))
  · refine T_skip ?_
    refine T_seq ?_
    refine D_start (m := 15) ?_
    refine D_step (Ei := [(3, _)]) rfl rfl (Srcs.cons (Src.pre rfl rfl) Srcs.nil) (S_plain rfl (op_ld Tryz.isAgg31 Tryz.sizeOf31 (Has.t rfl))) ?_
    refine D_step (Ei := [(0, _)]) rfl rfl (Srcs.cons (Src.pre rfl rfl) Srcs.nil) (S_plain rfl (op_move (Has.t rfl))) ?_
    refine D_step (Ei := [(25, _), (26, _)]) rfl rfl (Srcs.cons (Src.op 0 rfl rfl) (Srcs.cons (Src.op 1 rfl rfl) Srcs.nil)) (S_plain rfl (op_idx Tryz.runUnderlying31 Tryz.sizeOf30 (Has.t rfl) (Has.t rfl) rfl (map_get (getD_some (d := []) (by omega))))) ?_
    refine D_step (Ei := [(27, _)]) rfl rfl (Srcs.cons (Src.op 2 rfl rfl) Srcs.nil) (S_plain rfl (op_ld Tryz.isAgg30 Tryz.sizeOf30 (Has.t rfl))) ?_
    refine D_step (Ei := [(1, _)]) rfl rfl (Srcs.cons (Src.pre rfl rfl) Srcs.nil) (S_plain rfl (op_move (Has.t rfl))) ?_
    refine D_step (Ei := [(28, _), (29, _)]) rfl rfl (Srcs.cons (Src.op 3 rfl rfl) (Srcs.cons (Src.op 4 rfl rfl) Srcs.nil)) (S_plain rfl (op_idx Tryz.runUnderlying30 Tryz.sizeOf49 (Has.t rfl) (Has.t rfl) rfl (map_get (getD_some (d := Qi.zero) (by omega))))) ?_
    refine D_step (Ei := [(30, _)]) rfl rfl (Srcs.cons (Src.op 5 rfl rfl) Srcs.nil) (S_plain rfl (op_ld Tryz.isAgg49 Tryz.sizeOf49 (Has.t rfl))) ?_
    refine D_step (Ei := [(31, _)]) rfl rfl (Srcs.cons (Src.op 6 rfl rfl) Srcs.nil) (S_plain rfl (op_iface mkif_49 (Has.t rfl))) ?_
    refine D_step (Ei := [(4, _)]) rfl rfl (Srcs.cons (Src.pre rfl rfl) Srcs.nil) (S_plain rfl (op_ld Tryz.isAgg31 Tryz.sizeOf31 (Has.t rfl))) ?_
    refine D_step (Ei := [(0, _)]) rfl rfl (Srcs.cons (Src.pre rfl rfl) Srcs.nil) (S_plain rfl (op_move (Has.t rfl))) ?_
    refine D_step (Ei := [(33, _), (34, _)]) rfl rfl (Srcs.cons (Src.op 8 rfl rfl) (Srcs.cons (Src.op 9 rfl rfl) Srcs.nil)) (S_plain rfl (op_idx Tryz.runUnderlying31 Tryz.sizeOf30 (Has.t rfl) (Has.t rfl) rfl (map_get (getD_some (d := []) (by omega))))) ?_
    refine D_step (Ei := [(35, _)]) rfl rfl (Srcs.cons (Src.op 10 rfl rfl) Srcs.nil) (S_plain rfl (op_ld Tryz.isAgg30 Tryz.sizeOf30 (Has.t rfl))) ?_
    refine D_step (Ei := [(1, _)]) rfl rfl (Srcs.cons (Src.pre rfl rfl) Srcs.nil) (S_plain rfl (op_move (Has.t rfl))) ?_
    refine D_step (Ei := [(36, _), (37, _)]) rfl rfl (Srcs.cons (Src.op 11 rfl rfl) (Srcs.cons (Src.op 12 rfl rfl) Srcs.nil)) (S_plain rfl (op_idx Tryz.runUnderlying30 Tryz.sizeOf49 (Has.t rfl) (Has.t rfl) rfl (map_get (getD_some (d := Qi.zero) (by omega))))) ?_
    refine D_step (Ei := [(38, _)]) rfl rfl (Srcs.cons (Src.op 13 rfl rfl) Srcs.nil) (S_plain rfl (op_ld Tryz.isAgg49 Tryz.sizeOf49 (Has.t rfl))) ?_
    refine D_done mixed rfl (by kernel_rfl) (F_val (F_val (F_val (F_val (F_val (F_val (F_val (F_val (F_val (F_val (F_val (F_val (F_val (F_val (F_val (F_nil ?_))))))))))))))))
    refine R_op rfl rfl rfl (op_invoke meth_49_Add Tryz.call59 (c_Add (x := gm a i j) (y := gm b i j) (L := L) (M := M) hg) (Has.t rfl) ⟨(Has.t rfl), trivial⟩) ?_
    refine R_stA Tryz.sizeOf49 (Has.t rfl) (Has.t rfl) rfl (i := 0) rfl (Nat.le_of_ble_eq_true rfl) rfl rfl ?_
    refine R_nil ?_
    refine T_ret1 rfl (rv_to (rv_cell Tryz.isAgg49 Tryz.sizeOf49 rfl (i := 0) rfl rfl) ?_)
    exact (num_of (by rw [if_neg (by rw [hm]; decide)]))
set_option maxRecDepth 20000 in
theorem c_sum {m : Bool} {a b : List (List Qi)} {n L M : Nat} (ha : Shp a n n) (hb : Shp b n n) (hfa : FitM a L) (hfb : FitM b M) (h1 : 1 ≤ L) (h2 : 1 ≤ M) (hg : L + M + 1 ≤ 17592186044415) (hn : n ≤ 1000) : Fun Tryz.prog 194 [NumM a, NumM b, BoolT m] (NumM (pmM m a b n)) := by
  have hal := ha.1
  refine Fun.intro Tryz.func194 rfl Tryz.ntmps194 rfl (fun cx => ?_)
  refine T_seq ?_
  refine T_region ?_
  refine R_new rfl rfl rfl (new_box1 (Has.t rfl)) (fun B3 => ?_)
  refine R_new rfl rfl rfl (new_box1 (Has.t rfl)) (fun B4 => ?_)
  refine R_new rfl rfl rfl (new_box1 (Has.t rfl)) (fun B5 => ?_)
  refine R_op rfl rfl rfl (op_assign Has.c) ?_
  refine R_nil ?_
  refine T_seq ?_
  refine T_freeze (i := 0) (tt := 3) rfl rfl frz_ptr1 ?_
  refine T_freeze (i := 1) (tt := 4) rfl rfl frz_ptr1 ?_
  refine T_freeze (i := 2) (tt := 5) rfl rfl frz_ptr1 ?_
  refine T_region ?_
  refine R_op rfl rfl rfl (op_ld Tryz.isAgg31 Tryz.sizeOf31 (Has.t rfl)) ?_
  refine R_op rfl rfl rfl (op_len Tryz.runUnderlying31 (Has.t rfl) (by rw [List.length_map, hal])) ?_
  refine R_op rfl rfl rfl (op_clos (γ := Fin n × Fin n) (Ts := fun x => [NT .i64 x.1.1, NT .i64 x.2.1]) (U := fun x => NumT (if m = true then gm a x.1.1 x.2.1 - gm b x.1.1 x.2.1 else gm a x.1.1 x.2.1 + gm b x.1.1 x.2.1)) Tryz.call225 (fun x => c_sum1 ha hb hfa hfb h1 h2 hg x.1.2 x.2.2) ⟨(Has.t rfl), (Has.t rfl), (Has.t rfl), trivial⟩) ?_
  refine R_op rfl rfl rfl (op_call Tryz.call105 (c_fill (n := n) (f := fun i j => if m = true then gm a i j - gm b i j else gm a i j + gm b i j) hn) ⟨(Has.t rfl), (Has.t rfl), trivial⟩) ?_
  refine R_op rfl rfl rfl (op_assign (Has.t rfl)) ?_
  refine R_nil ?_
  exact T_ret1 rfl (rv_tmp rfl)
set_option maxRecDepth 20000 in
theorem c_overE {Y M : List (List Qi)} {n L : Nat} (hM : Shp M n n) (hf : FitM M L) (hL : 1 ≤ L) (h1 : 1 ≤ n) (hn : n ≤ 32) (hg : 6 * grow L n + 4 ≤ 17592186044415) (hx : xgr (grow L n) (n + 1) ≤ 17592186044415) (hE : invE M n ≠ 0) : Fun Tryz.prog 193 [NumM Y, NumM M] (TupT [NumM [], IntT .i64 5]) := by
  refine Fun.intro Tryz.func193 rfl Tryz.ntmps193 rfl (fun cx => ?_)
  refine T_seq ?_
  refine T_region ?_
  refine R_op rfl rfl rfl (op_assign Has.c) ?_
  refine R_op rfl rfl rfl (op_assign (Has.cN 0)) ?_
  refine R_nil ?_
  refine T_seq ?_
  refine T_region ?_
  refine R_op rfl rfl rfl (op_move (Has.t rfl)) ?_
  refine R_op rfl rfl rfl (op_call Tryz.call224 (c_Inv hM hf hL h1 hn hg hx) ⟨(Has.t rfl), trivial⟩) ?_
  refine R_op rfl rfl rfl (op_move (Has.t rfl)) ?_
  refine R_op rfl rfl rfl (op_extract (Has.t rfl) rfl) ?_
  refine R_op rfl rfl rfl (op_extract (Has.t rfl) rfl) ?_
  refine R_op rfl rfl rfl (op_assign (Has.t rfl)) ?_
  refine R_op rfl rfl rfl (op_assign (Has.t rfl)) ?_
  refine R_nil ?_
  refine T_seq ?_
  refine T_seq ?_
  refine T_region ?_
  refine R_op rfl rfl rfl (op_move (Has.t rfl)) ?_
  refine R_op rfl rfl rfl (op_neq (Has.t rfl) Has.c) ?_
  refine R_nil ?_
  refine T_condT (Has.t rfl) (by simp [hE]) ?_
  refine T_seq ?_
  refine T_region ?_
  refine R_op rfl rfl rfl (op_assign Has.c) ?_
  refine R_op rfl rfl rfl (op_assign (Has.cN 5)) ?_
  refine R_nil ?_
  refine T_ret2 rfl (rv_to (rv_tmp rfl) ?_) (rv_tmp rfl)
  exact (fun v V h => nil_slT v V h)
set_option maxRecDepth 20000 in
theorem c_ImpE {z : List Qi} {s : List (List Qi)} {L : Nat} (hs : Shp s z.length z.length) (hf : FitM s L) (hL : 1 ≤ L) (h1 : 1 ≤ z.length) (hn : z.length ≤ 8) (hg : 6 * grow (L + 2) z.length + 4 ≤ 17592186044415) (hx : xgr (grow (L + 2) z.length) (z.length + 1) ≤ 17592186044415) (hE : invE (pmM true (idM z.length) s z.length) z.length ≠ 0) : Fun Tryz.prog 143 [NetT z s] (TupT [NumM [], IntT .i64 5]) := by
  have hgl := grow_le (L + 2) z.length
  have hid := idM_shp z.length
  have hif : FitM (idM z.length) 1 := idM_fit (Nat.le_refl 1)
  have hpf : FitM (pmM true (idM z.length) s z.length) (L + 2) := by have h := pmM_fit (m := true) (n := z.length) hif hf (Nat.le_refl 1) hL; rw [show L + 2 = 1 + L + 1 by omega]; exact h
  refine Fun.intro Tryz.func143 rfl Tryz.ntmps143 rfl (fun cx => ?_)
  refine T_seq ?_
  refine T_region ?_
  refine R_new rfl rfl rfl (new_box (Has.t rfl)) (fun B1 => ?_)
  refine R_op rfl rfl rfl (op_assign Has.c) ?_
  refine R_op rfl rfl rfl (op_assign (Has.cN 0)) ?_
  refine R_nil ?_
  refine T_seq ?_
  refine T_region ?_
  refine R_op rfl rfl rfl (op_fldB fa_33_0 (Has.t rfl) rfl) ?_
  refine R_op rfl rfl rfl (op_ldB Tryz.isAgg30 Tryz.sizeOf30 (Has.t rfl) (i := 0) rfl rfl) ?_
  refine R_op rfl rfl rfl (op_len Tryz.runUnderlying30 (Has.t rfl) len_map) ?_
  refine R_op rfl rfl rfl (op_call Tryz.call192 (c_Id (n := z.length) (by omega)) ⟨(Has.t rfl), trivial⟩) ?_
  refine R_op rfl rfl rfl (op_assign (Has.t rfl)) ?_
  refine R_nil ?_
  refine T_seq ?_
  refine D_start (m := 13) ?_
  refine D_step (Ei := [(4, _)]) rfl rfl (Srcs.cons (Src.pre rfl rfl) Srcs.nil) (S_plain rfl (op_move (Has.t rfl))) ?_
  refine D_step (Ei := [(1, _)]) rfl rfl (Srcs.cons (Src.pre rfl rfl) Srcs.nil) (S_plain rfl (op_fldB fa_33_1 (Has.t rfl) rfl)) ?_
  refine D_step (Ei := [(13, _)]) rfl rfl (Srcs.cons (Src.op 1 rfl rfl) Srcs.nil) (S_plain rfl (op_ldB Tryz.isAgg31 Tryz.sizeOf31 (Has.t rfl) (i := 0) rfl rfl)) ?_
  refine D_step (Ei := [(12, _), (14, _)]) rfl rfl (Srcs.cons (Src.op 0 rfl rfl) (Srcs.cons (Src.op 2 rfl rfl) Srcs.nil)) (S_plain rfl (op_call Tryz.call194 (c_sum (m := false) (n := z.length) (L := 1) (M := L) hid hs hif hf (Nat.le_refl 1) hL (by omega) (by omega)) ⟨(Has.t rfl), (Has.t rfl), Has.c, trivial⟩)) ?_
  refine D_step (Ei := [(4, _)]) rfl rfl (Srcs.cons (Src.pre rfl rfl) Srcs.nil) (S_plain rfl (op_move (Has.t rfl))) ?_
  refine D_step (Ei := [(1, _)]) rfl rfl (Srcs.cons (Src.pre rfl rfl) Srcs.nil) (S_plain rfl (op_fldB fa_33_1 (Has.t rfl) rfl)) ?_
  refine D_step (Ei := [(17, _)]) rfl rfl (Srcs.cons (Src.op 5 rfl rfl) Srcs.nil) (S_plain rfl (op_ldB Tryz.isAgg31 Tryz.sizeOf31 (Has.t rfl) (i := 0) rfl rfl)) ?_
  refine D_step (Ei := [(16, _), (18, _)]) rfl rfl (Srcs.cons (Src.op 4 rfl rfl) (Srcs.cons (Src.op 6 rfl rfl) Srcs.nil)) (S_plain rfl (op_call Tryz.call194 (c_sum (m := true) (n := z.length) (L := 1) (M := L) hid hs hif hf (Nat.le_refl 1) hL (by omega) (by omega)) ⟨(Has.t rfl), (Has.t rfl), Has.c, trivial⟩)) ?_
  refine D_step (Ei := [(15, _), (19, _)]) rfl rfl (Srcs.cons (Src.op 3 rfl rfl) (Srcs.cons (Src.op 7 rfl rfl) Srcs.nil)) (S_plain rfl (op_call Tryz.call193 (c_overE (n := z.length) (L := L + 2) pmM_shp hpf (by omega) h1 (by omega) hg hx hE) ⟨(Has.t rfl), (Has.t rfl), trivial⟩)) ?_
  refine D_step (Ei := [(20, _)]) rfl rfl (Srcs.cons (Src.op 8 rfl rfl) Srcs.nil) (S_plain rfl (op_move (Has.t rfl))) ?_
  refine D_step (Ei := [(11, _)]) rfl rfl (Srcs.cons (Src.op 9 rfl rfl) Srcs.nil) (S_plain rfl (op_extract (Has.t rfl) rfl)) ?_
  refine D_step (Ei := [(11, _)]) rfl rfl (Srcs.cons (Src.op 9 rfl rfl) Srcs.nil) (S_plain rfl (op_extract (Has.t rfl) rfl)) ?_
  refine D_step (Ei := [(21, _)]) rfl rfl (Srcs.cons (Src.op 10 rfl rfl) Srcs.nil) (S_plain rfl (op_assign (Has.t rfl))) ?_
  refine D_done mixed rfl (by kernel_rfl) (F_val (F_val (F_val (F_val (F_val (F_val (F_val (F_val (F_val (F_val (F_val (F_val (F_val (F_nil ?_))))))))))))))
  refine R_op rfl rfl rfl (op_assign (Has.t rfl)) ?_
  refine R_nil ?_
  refine T_seq ?_
  refine T_seq ?_
  refine T_region ?_
  refine R_op rfl rfl rfl (op_move (Has.t rfl)) ?_
  refine R_op rfl rfl rfl (op_neq (Has.t rfl) Has.c) ?_
  refine R_nil ?_
  refine T_condT (Has.t rfl) (by rfl) ?_
  refine T_seq ?_
  refine T_region ?_
  refine R_op rfl rfl rfl (op_move (Has.t rfl)) ?_
  refine R_op rfl rfl rfl (op_assign Has.c) ?_
  refine R_op rfl rfl rfl (op_assign (Has.t rfl)) ?_
  refine R_nil ?_
  refine T_ret2 rfl (rv_to (rv_tmp rfl) ?_) (rv_tmp rfl)
  exact (fun v V h => nil_slT v V h)
end Go.Proofs.YtppibhcfaahgpaaGreat
namespace Go.Proofs.YtppibhcfaahgpaaGreat
open Go Go.RowKit
section
variable {P : Program} {R : Post} {cx : Cx} {n : Nat} {k : List It} {E : Env} {H : Hp}
theorem T_frzcellG (i l off : Nat) {B : Nat} {BT : TypeId} {Us : List Ty} {v : Value} {A : SA} {T : Ty} (hB : H[i]? = some (box B BT Us)) (hU : Us[off]? = some (Is v)) (hL : H[l]? = some A) (hne : i ≠ l) (hT : ∀ S V, A.h S V V → T.p v V)
    (h : Tr P R cx n k E ((H.set l SA.emp).set i (box B BT (Us.set off T)))) : Tr P R cx n k E H := fun a w ⟨V, hi, hs⟩ => by
  obtain ⟨V', S, hle, hi', hA⟩ := hi.freeze hL
  have hT := hT S V' hA
  refine h a w ⟨V', hi'.withHH ?_, hs.mono hle⟩
  obtain ⟨F, h1, h2⟩ := hi'.hp
  have hB' : (H.set l SA.emp)[i]? = some (box B BT Us) := by rw [List.getElem?_set_ne (Ne.symm hne)]; exact hB
  have hil := (List.getElem?_eq_some_iff.1 hB').1
  refine ⟨F, fun q A hq => ?_, fun q r b hq hr => h2 q r b (by simpa using hq) (by simpa using hr)⟩
  by_cases c : i = q
  · subst c
    rw [List.getElem?_set_self hil] at hq
    obtain rfl := Option.some.inj hq
    obtain ⟨⟨k1, cs, k2, k3⟩, k4⟩ := h1 i _ hB'
    obtain ⟨u, u1, u2⟩ := k3.get hU
    obtain rfl : u = v := u2
    have hset : cs.set off u = cs := by
      apply List.ext_getElem?
      intro j
      by_cases cj : off = j
      · subst cj; rw [List.getElem?_set_self (List.getElem?_eq_some_iff.1 u1).1, u1]
      · rw [List.getElem?_set_ne cj]
    refine ⟨⟨k1, cs, k2, ?_⟩, k4⟩
    have := k3.set off (v := u) hT (k3.pl u (List.mem_of_getElem? u1))
    rwa [hset] at this
  · rw [List.getElem?_set_ne c] at hq
    exact h1 q A hq
theorem frzM {B e l : Nat} {BT : TypeId} {F : Qi → Ty} {q : Value → Prop} {M : List (List Qi)} (hl : l = M.length) : ∀ S V, (matP q B BT e 5 (FRow F M)).h S V V → (SlT 1 (M.map fun r => SlT 5 (r.map F))).p (.slice (some ⟨B, 0, none⟩) l l) V := fun S V h =>
  frz_matF (s := 5) (M := M) hl _ S V rfl h
end
def skp (p i : Nat) : Nat := if i < p then i else i + 1
abbrev IntsT (l : List Nat) : Ty := SlT 1 (l.map (NT .i64))
def lftL (p n : Nat) : List Nat := tab n fun j => skp p j + 1
def cnt (p i : Nat) : Nat := if i ≤ p then i else i - 1
theorem lft_next {p i : Nat} (h : i ≠ p) : lftL p (cnt p i) ++ [i + 1] = lftL p (cnt p (i + 1)) := by
  have e1 : skp p (cnt p i) = i := by unfold skp cnt; split <;> split <;> omega
  have e2 : cnt p (i + 1) = cnt p i + 1 := by unfold cnt; split <;> split <;> omega
  rw [e2, lftL, lftL, tab_succ, e1]
theorem lft_same {p : Nat} : lftL p (cnt p p) = lftL p (cnt p (p + 1)) := by
  have e2 : cnt p (p + 1) = cnt p p := by unfold cnt; split <;> split <;> omega
  rw [e2]
theorem cnt_fin {p n : Nat} (h : p < n) : cnt p n = n - 1 := by unfold cnt; split <;> omega
theorem cnt_le (p i : Nat) : cnt p i ≤ i := by unfold cnt; split <;> omega
theorem skp_lt {p i n : Nat} (h : i < n - 1) (hp : p < n) : skp p i < n := by unfold skp; split <;> omega
theorem lft_get {p n j : Nat} (h : j < n) : (lftL p n)[j]? = some (skp p j + 1) := tab_get h
def prtZ (z : List Qi) (p m : Nat) : List Qi := tab m fun i => gv z (skp p i)
def prtS (s : List (List Qi)) (p m : Nat) : List (List Qi) := tab m fun i => tab m fun j => gm s (skp p i) (skp p j)
def trmX (s : List (List Qi)) (p : Nat) (f : Qi) (i j : Nat) : Qi := gm s (skp p i) (skp p j) + gm s (skp p i) p * (f * gm s p (skp p j))
def trmS (s : List (List Qi)) (p m : Nat) (f : Qi) : List (List Qi) := tab m fun i => tab m fun j => trmX s p f i j
def trmF (s : List (List Qi)) (p : Nat) (g : Qi) : Qi := g / (Qi.ofInt 1 - gm s p p * g)
def trmE (z : List Qi) (s : List (List Qi)) (port : Int) (g : Qi) : Int :=
  if ¬ (1 ≤ port ∧ port ≤ z.length) then 1 else if z.length = 1 then 4 else if Qi.ofInt 1 - gm s (port - 1).toNat (port - 1).toNat * g = Qi.zero then 6 else 0
def trmRZ (z : List Qi) (s : List (List Qi)) (port : Int) (g : Qi) : List Qi := okL (trmE z s port g) (prtZ z (port - 1).toNat (z.length - 1))
def trmRS (z : List Qi) (s : List (List Qi)) (port : Int) (g : Qi) : List (List Qi) := okL (trmE z s port g) (trmS s (port - 1).toNat (z.length - 1) (trmF s (port - 1).toNat g))
theorem trm_bad {z : List Qi} {s : List (List Qi)} {port : Int} {g : Qi} {e : Int} (h : trmE z s port g = e) (he : e ≠ 0) : ∀ v V, (NetT [] []).p v V → (NetT (trmRZ z s port g) (trmRS z s port g)).p v V := by
  rw [trmRZ, trmRS, okL, okL, h, if_neg he, if_neg he]; exact fun _ _ k => k
theorem trm_p (p : Nat) : ((p : Int) + 1 - 1).toNat = p := by omega
theorem trm_good {z : List Qi} {s : List (List Qi)} {p : Nat} {g : Qi} (h : trmE z s ((p : Int) + 1) g = 0) : ∀ v V, (NetT (prtZ z p (z.length - 1)) (trmS s p (z.length - 1) (trmF s p g))).p v V → (NetT (trmRZ z s ((p : Int) + 1) g) (trmRS z s ((p : Int) + 1) g)).p v V := by
  rw [trmRZ, trmRS, okL, okL, h, if_pos rfl, if_pos rfl, trm_p]; exact fun _ _ k => k
theorem trmE_1 {z : List Qi} {s : List (List Qi)} {port : Int} {g : Qi} (h : ¬ (1 ≤ port ∧ port ≤ z.length)) : trmE z s port g = 1 := by rw [trmE, if_pos h]
theorem trmE_4 {z : List Qi} {s : List (List Qi)} {port : Int} {g : Qi} (h : 1 ≤ port ∧ port ≤ z.length) (h1 : z.length = 1) : trmE z s port g = 4 := by rw [trmE, if_neg (fun k => k h), if_pos h1]
theorem trmE_d {z : List Qi} {s : List (List Qi)} {p : Nat} {g : Qi} (h : p < z.length) (h1 : ¬ z.length = 1) : trmE z s ((p : Int) + 1) g = if Qi.ofInt 1 - gm s p p * g = Qi.zero then 6 else 0 := by
  rw [trmE, if_neg (fun k => k (by omega)), if_neg h1, trm_p]
theorem trmF_fit {s : List (List Qi)} {p L : Nat} {g : Qi} (hs : FitM s L) (hg : FitC g L) (hL : 1 ≤ L) (hd : Qi.ofInt 1 - gm s p p * g ≠ Qi.zero) : FitC (trmF s p g) (7 * L + 11) := by
  haveI f0 := fit_one
  haveI f1 := hs.get hL p p
  haveI f2 := hg
  have f3 : FitC (Qi.ofInt 1 - gm s p p * g) (1 + (L + L + 1) + 1) := @fitSub _ _ _ _ f0 inferInstance
  have : FitC (trmF s p g) (L + 3 * (1 + (L + L + 1) + 1) + 2) := ⟨f2.fit.div f3.fit hd⟩
  exact this.le (by omega)
end Go.Proofs.YtppibhcfaahgpaaGreat
namespace Go.Proofs.YtppibhcfaahgpaaGreat
open Go Go.RowKit
theorem info_3 : Tryz.prog.info? 3 = some Tryz.t3 := by kernel_rfl
theorem und_207 : Tryz.prog.underlying 207 = some (.slice 3) := by kernel_rfl
end Go.Proofs.YtppibhcfaahgpaaGreat
namespace Go.Proofs.YtppibhcfaahgpaaGreat
open Go Go.RowKit
set_option maxRecDepth 20000 in
theorem c_IndexInt {l : List Int} {v : Int} (hl : l.length ≤ 1000000) : Fun Tryz.prog 221 [SlT 1 (l.map (IntT .i64)), IntT .i64 v] (IntT .i64 (idxZ (fun x => decide (v = x)) l)) := by
  refine Fun.intro Tryz.func221 rfl Tryz.ntmps221 rfl (fun cx => ?_)
  refine T_seq ?_
  refine T_region ?_
  refine R_op rfl rfl rfl (op_assign (Has.cN 0)) ?_
  refine R_nil ?_
  refine T_seq ?_
  refine T_seq ?_
  refine T_region ?_
  refine R_op rfl rfl rfl (op_move (Has.t rfl)) ?_
  refine R_op rfl rfl rfl (op_len Tryz.runUnderlying207 (Has.t rfl) len_map) ?_
  refine R_op rfl rfl rfl (op_move (Has.cN 0)) ?_
  refine R_nil ?_
  refine T_block ?_
  refine T_loop (fun (k : Nat) => k ≤ l.length ∧ ∀ (i : Nat) (x : Int), i < k → l[i]? = some x → decide (v = x) = false) (fun (k : Nat) => l.length - k) (fun (k : Nat) => [(0, SlT 1 (l.map (IntT .i64))), (1, IntT .i64 v), (7, NT .i64 l.length), (8, NT .i64 k)]) (fun (k : Nat) => []) 0 ⟨Nat.zero_le _, fun i x h => by omega⟩
    (Sub.cons rfl (Sub.cons rfl (Sub.cons rfl (Sub.cons rfl Sub.nil)))) HSub.nil (fun k ⟨hk, hn⟩ => ?_)
  refine T_seq ?_
  refine T_region ?_
  refine R_op rfl rfl rfl (op_lssN (Has.t rfl) (Has.t rfl)) ?_
  refine R_nil ?_
  refine T_seq ?_
  refine T_cond (Has.t rfl) (fun hb => ?_) (fun hb => ?_)
  · simp only [decide_eq_true_eq] at hb
    refine T_skip ?_
    refine T_seq ?_
    refine T_block ?_
    refine T_seq ?_
    refine T_region ?_
    refine R_op rfl rfl rfl (op_move (Has.t rfl)) ?_
    refine R_op rfl rfl rfl (op_assign (Has.t rfl)) ?_
    refine R_nil ?_
    refine T_seq ?_
    refine T_region ?_
    refine R_op rfl rfl rfl (op_move (Has.t rfl)) ?_
    refine R_op rfl rfl rfl (op_move (Has.t rfl)) ?_
    refine R_op rfl rfl rfl (op_move (Has.t rfl)) ?_
    refine R_op rfl rfl rfl (op_idx Tryz.runUnderlying207 Tryz.sizeOf3 (Has.t rfl) (Has.t rfl) rfl (map_get (getq hb))) ?_
    refine R_op rfl rfl rfl (op_ld Tryz.isAgg3 Tryz.sizeOf3 (Has.t rfl)) ?_
    refine R_op rfl rfl rfl (op_eql (Has.t rfl) (Has.t rfl)) ?_
    refine R_nil ?_
    refine T_cond (Has.t rfl) (fun hc => ?_) (fun hc => ?_)
    · refine T_seq ?_
      refine T_region ?_
      refine R_op rfl rfl rfl (op_move (Has.t rfl)) ?_
      refine R_op rfl rfl rfl (op_assign (Has.t rfl)) ?_
      refine R_nil ?_
      refine T_ret1 rfl (rv_to (rv_tmp rfl) ?_)
      exact (int_of (idxZ_at (p := fun x => decide (v = x)) (getq hb) hc hn).symm)
    · refine T_skip ?_
      refine T_blk ?_
      refine T_region ?_
      refine R_op rfl rfl rfl (op_addN (Has.t rfl) (Has.cN 1) (by show _ < 9223372036854775808; first | omega | (simp only [lim]; omega))) ?_
      refine R_op rfl rfl rfl (op_move (Has.t rfl)) ?_
      refine R_nil ?_
      refine T_again (k + 1) ⟨hb, fun i x h1 h2 => by
          by_cases e : i = k
          · subst e; rw [getq hb] at h2; obtain rfl := Option.some.inj h2; exact hc
          · exact hn i x (by omega) h2⟩ (by omega) (Sub.cons rfl (Sub.cons rfl (Sub.cons rfl (Sub.cons rfl Sub.nil)))) HSub.nil
  · simp only [decide_eq_false_iff_not] at hb
    refine T_exit rfl ?_
    refine T_seq ?_
    refine T_region ?_
    refine R_op rfl rfl rfl (op_assign Has.c) ?_
    refine R_nil ?_
    refine T_ret1 rfl (rv_to (rv_tmp rfl) ?_)
    exact (int_of (idxZ_none (p := fun x => decide (v = x)) (fun i x h => hn i x (by have := (List.getElem?_eq_some_iff.1 h).1; omega) h)).symm)
set_option maxRecDepth 20000 in
theorem c_ContainsInt {l : List Int} {v : Int} (hl : l.length ≤ 1000000) : Fun Tryz.prog 188 [SlT 1 (l.map (IntT .i64)), IntT .i64 v] (BoolT (l.any fun x => decide (v = x))) := by
  refine Fun.intro Tryz.func188 rfl Tryz.ntmps188 rfl (fun cx => ?_)
  refine T_seq ?_
  refine T_region ?_
  refine R_op rfl rfl rfl (op_assign Has.c) ?_
  refine R_nil ?_
  refine T_seq ?_
  refine T_region ?_
  refine R_op rfl rfl rfl (op_move (Has.t rfl)) ?_
  refine R_op rfl rfl rfl (op_move (Has.t rfl)) ?_
  refine R_op rfl rfl rfl (op_call Tryz.call221 (c_IndexInt (by omega)) ⟨(Has.t rfl), (Has.t rfl), trivial⟩) ?_
  refine R_op rfl rfl rfl (op_geq (Has.t rfl) Has.c) ?_
  refine R_op rfl rfl rfl (op_assign (Has.t rfl)) ?_
  refine R_nil ?_
  refine T_ret1 rfl (rv_to (rv_tmp rfl) ?_)
  exact (bool_of (idxZ_any _ l))
set_option maxRecDepth 20000 in
theorem c_left {z : List Qi} {s : List (List Qi)} {p : Nat} (hp : p < z.length) (hl : z.length ≤ 1000) : Fun Tryz.prog 139 [NetT z s, SlT 1 [IntT .i64 ((p : Int) + 1)]] (IntsT (lftL p (z.length - 1))) := by
  refine Fun.intro Tryz.func139 rfl Tryz.ntmps139 rfl (fun cx => ?_)
  refine T_seq ?_
  refine T_region ?_
  refine R_new rfl rfl rfl (new_box (Has.t rfl)) (fun B2 => ?_)
  refine R_op rfl rfl rfl (op_assign Has.c) ?_
  refine R_nil ?_
  refine T_seq ?_
  refine T_region ?_
  refine R_op rfl rfl rfl (op_assign Has.c) ?_
  refine R_nil ?_
  refine T_seq ?_
  refine T_seq ?_
  refine T_region ?_
  refine R_op rfl rfl rfl (op_assign (Has.cN 1)) ?_
  refine R_nil ?_
  refine T_block ?_
  refine T_row 3 1 ?_
  refine T_loop2 (fun (i : Nat) (v : Value) => i ≤ z.length) (fun (i : Nat) (v : Value) => z.length - i) (fun (i : Nat) (v : Value) => [(1, SlT 1 [IntT .i64 ((p : Int) + 1)]), (2, PtrB B2 0), (5, Is v), (6, NT .i64 (i + 1))]) (fun (i : Nat) (v : Value) => [box B2 33 [NumsT z, NumM s], rowO 3 1 v ((lftL p (cnt p i)).map (NT .i64))]) 0 (.slice none 0 0) (Nat.zero_le _)
    (Sub.cons rfl (Sub.cons rfl (Sub.cons rfl (Sub.cons rfl Sub.nil)))) (HSub.cons (box_of rfl) (HSub.cons (rowO_of rfl) HSub.nil)) (fun i v hi => ?_)
  refine T_seq ?_
  refine T_seq ?_
  refine T_region ?_
  refine R_op rfl rfl rfl (op_move (Has.t rfl)) ?_
  refine R_op rfl rfl rfl (op_fldB fa_33_0 (Has.t rfl) rfl) ?_
  refine R_op rfl rfl rfl (op_ldB Tryz.isAgg30 Tryz.sizeOf30 (Has.t rfl) (i := 0) rfl rfl) ?_
  refine R_op rfl rfl rfl (op_len Tryz.runUnderlying30 (Has.t rfl) len_map) ?_
  refine R_op rfl rfl rfl (op_leqN (Has.t rfl) (Has.t rfl)) ?_
  refine R_nil ?_
  refine T_cond (Has.t rfl) (fun hd => ?_) (fun hd => ?_)
  · simp only [decide_eq_true_eq] at hd
    have hcl := cnt_le p i
    have hll : (lftL p (cnt p i)).length = cnt p i := tab_len _ _
    refine T_skip ?_
    refine T_seq ?_
    refine T_block ?_
    refine T_join (fun (v2 : Value) => True) (fun (v2 : Value) => [(1, SlT 1 [IntT .i64 ((p : Int) + 1)]), (2, PtrB B2 0), (5, Is v2), (6, NT .i64 (i + 1))]) (fun (v2 : Value) => [box B2 33 [NumsT z, NumM s], rowO 3 1 v2 ((lftL p (cnt p (i + 1))).map (NT .i64))]) ?_ (fun v2 _ => ?_)
    · refine T_seq ?_
      refine T_region ?_
      refine R_op rfl rfl rfl (op_move (Has.t rfl)) ?_
      refine R_op rfl rfl rfl (op_move (Has.t rfl)) ?_
      refine R_op rfl rfl rfl (op_call Tryz.call188 (c_ContainsInt (l := [(p : Int) + 1]) (v := ((i + 1 : Nat) : Int)) (by simp)) ⟨(Has.t rfl), (Has.t rfl), trivial⟩) ?_
      refine R_op rfl rfl rfl (op_not (Has.t rfl)) ?_
      refine R_nil ?_
      refine T_cond (Has.t rfl) (fun he => ?_) (fun he => ?_)
      · have he2 : i ≠ p := fun e => by subst e; simp at he
        refine T_region ?_
        refine R_op rfl rfl rfl (op_move (Has.t rfl)) ?_
        refine R_op rfl rfl rfl (op_move (Has.t rfl)) ?_
        refine R_op rfl rfl rfl (op_bslice (xs := [.tmp 19]) Tryz.runUnderlying207 Tryz.sizeOf3 Tryz.zeroValue3 (Elems.cons (Has.t rfl) Elems.nil) rfl rfl rfl) ?_
        refine R_append (inf := Tryz.t3) und_207 info_3 rfl rfl rfl (Has.t rfl) (Has.t rfl) (i := 1) rfl (by simp) (fun T hT => by simp at hT; subst hT; exact El.one) (by show _ * 8 ≤ _; simp only [List.length_map, List.length_cons, List.length_nil]; omega) (by simp only [List.length_map, List.length_cons, List.length_nil]; omega) rfl (fun v3 => ?_)
        refine R_op rfl rfl rfl (op_assign (Has.t rfl)) ?_
        refine R_nil ?_
        refine T_joined v3 trivial (Sub.cons rfl (Sub.cons rfl (Sub.cons rfl (Sub.cons rfl Sub.nil)))) (HSub.cons (box_of rfl) (HSub.cons (rowO_of (by rw [← lft_next he2, List.map_append]; rfl)) HSub.nil))
      · have he2 : i = p := by simp at he; omega
        subst he2
        refine T_skip ?_
        refine T_joined v trivial (Sub.cons rfl (Sub.cons rfl (Sub.cons rfl (Sub.cons rfl Sub.nil)))) (HSub.cons (box_of rfl) (HSub.cons (rowO_of (congrArg _ lft_same)) HSub.nil))
    · refine T_blk ?_
      refine T_region ?_
      refine R_op rfl rfl rfl (op_move (Has.t rfl)) ?_
      refine R_op rfl rfl rfl (op_addN (Has.t rfl) (Has.cN 1) (by show _ < 9223372036854775808; first | omega | (simp only [lim]; omega))) ?_
      refine R_op rfl rfl rfl (op_assign (Has.t rfl)) ?_
      refine R_nil ?_
      refine T_again (i + 1, v2) hd (by dsimp only; omega) (Sub.cons rfl (Sub.cons rfl (Sub.cons rfl (Sub.cons rfl Sub.nil)))) (HSub.refl _)
  · simp only [decide_eq_false_iff_not] at hd
    obtain rfl : z.length = i := Nat.le_antisymm (by omega) hi
    have hcf := cnt_fin hp
    refine T_exit rfl ?_
    refine T_freeze (i := 1) (tt := 5) rfl rfl frz_row ?_
    refine T_seq ?_
    refine T_region ?_
    refine R_op rfl rfl rfl (op_move (Has.t rfl)) ?_
    refine R_op rfl rfl rfl (op_assign (Has.t rfl)) ?_
    refine R_nil ?_
    refine T_ret1 rfl (rv_to (rv_tmp rfl) ?_)
    exact (slT_of (by rw [hcf]))
set_option maxRecDepth 20000 in
theorem c_part1 {z : List Qi} {s : List (List Qi)} {p m : Nat} (hs : Shp s z.length z.length) (hp : p < z.length) (hm : m = z.length - 1) (hl : z.length ≤ 1000) {i j : Nat} (hi : i < m) (hj : j < m) : Fun Tryz.prog 189 [NT .i64 i, NT .i64 j, PT (NetT z s), PT (IntsT (lftL p m))] (NumT (gm s (skp p i) (skp p j))) := by
  have hki : skp p i < z.length := skp_lt (by omega) hp
  have hkj : skp p j < z.length := skp_lt (by omega) hp
  have hsl := hs.1
  have hsr := hs.row hki
  refine Fun.intro Tryz.func189 rfl Tryz.ntmps189 rfl (fun cx => ?_)
  refine T_seq ?_
  refine T_region ?_
  refine R_new rfl rfl rfl (new_alloc (Ts := [Is (.bool false), Is (.slice none 0 0), Is (.bool false), Is (.slice none 0 0), Is (.slice none 0 0)]) Tryz.zeroValue49 rfl (fun V => Cells.cons' ⟨rfl, trivial⟩ (Cells.cons' ⟨rfl, trivial⟩ (Cells.cons' ⟨rfl, trivial⟩ (Cells.cons' ⟨rfl, trivial⟩ (Cells.cons' ⟨rfl, trivial⟩ (Cells.nil))))))) (fun B6 => ?_)
  refine R_nil ?_
  refine T_seq ?_
  refine D_start (m := 14) ?_
  refine D_step (Ei := [(2, _)]) rfl rfl (Srcs.cons (Src.pre rfl rfl) Srcs.nil) (S_plain rfl (op_fld1 fa_33_1 (Has.t rfl) rfl)) ?_
  refine D_step (Ei := [(7, _)]) rfl rfl (Srcs.cons (Src.op 0 rfl rfl) Srcs.nil) (S_plain rfl (op_ld Tryz.isAgg31 Tryz.sizeOf31 (Has.t rfl))) ?_
  refine D_step (Ei := [(3, _)]) rfl rfl (Srcs.cons (Src.pre rfl rfl) Srcs.nil) (S_plain rfl (op_ld Tryz.isAgg207 Tryz.sizeOf207 (Has.t rfl))) ?_
  refine D_step (Ei := [(0, _)]) rfl rfl (Srcs.cons (Src.pre rfl rfl) Srcs.nil) (S_plain rfl (op_move (Has.t rfl))) ?_
  refine D_step (Ei := [(9, _), (10, _)]) rfl rfl (Srcs.cons (Src.op 2 rfl rfl) (Srcs.cons (Src.op 3 rfl rfl) Srcs.nil)) (S_plain rfl (op_idx Tryz.runUnderlying207 Tryz.sizeOf3 (Has.t rfl) (Has.t rfl) rfl (map_get (lft_get hi)))) ?_
  refine D_step (Ei := [(11, _)]) rfl rfl (Srcs.cons (Src.op 4 rfl rfl) Srcs.nil) (S_plain rfl (op_ld Tryz.isAgg3 Tryz.sizeOf3 (Has.t rfl))) ?_
  refine D_step (Ei := [(12, _)]) rfl rfl (Srcs.cons (Src.op 5 rfl rfl) Srcs.nil) (S_plain rfl (OpTy.nat (op_subN (Has.t rfl) (Has.cN 1) (by omega) (by show _ < 9223372036854775808; first | omega | (simp only [lim]; omega))) (show skp p i + 1 - 1 = skp p i by omega))) ?_
  refine D_step (Ei := [(8, _), (13, _)]) rfl rfl (Srcs.cons (Src.op 1 rfl rfl) (Srcs.cons (Src.op 6 rfl rfl) Srcs.nil)) (S_plain rfl (op_idx Tryz.runUnderlying31 Tryz.sizeOf30 (Has.t rfl) (Has.t rfl) rfl (map_get (getD_some (d := []) (by omega))))) ?_
  refine D_step (Ei := [(14, _)]) rfl rfl (Srcs.cons (Src.op 7 rfl rfl) Srcs.nil) (S_plain rfl (op_ld Tryz.isAgg30 Tryz.sizeOf30 (Has.t rfl))) ?_
  refine D_step (Ei := [(3, _)]) rfl rfl (Srcs.cons (Src.pre rfl rfl) Srcs.nil) (S_plain rfl (op_ld Tryz.isAgg207 Tryz.sizeOf207 (Has.t rfl))) ?_
  refine D_step (Ei := [(1, _)]) rfl rfl (Srcs.cons (Src.pre rfl rfl) Srcs.nil) (S_plain rfl (op_move (Has.t rfl))) ?_
  refine D_step (Ei := [(16, _), (17, _)]) rfl rfl (Srcs.cons (Src.op 9 rfl rfl) (Srcs.cons (Src.op 10 rfl rfl) Srcs.nil)) (S_plain rfl (op_idx Tryz.runUnderlying207 Tryz.sizeOf3 (Has.t rfl) (Has.t rfl) rfl (map_get (lft_get hj)))) ?_
  refine D_step (Ei := [(18, _)]) rfl rfl (Srcs.cons (Src.op 11 rfl rfl) Srcs.nil) (S_plain rfl (op_ld Tryz.isAgg3 Tryz.sizeOf3 (Has.t rfl))) ?_
  refine D_step (Ei := [(19, _)]) rfl rfl (Srcs.cons (Src.op 12 rfl rfl) Srcs.nil) (S_plain rfl (OpTy.nat (op_subN (Has.t rfl) (Has.cN 1) (by omega) (by show _ < 9223372036854775808; first | omega | (simp only [lim]; omega))) (show skp p j + 1 - 1 = skp p j by omega))) ?_
  refine D_done mixed rfl (by kernel_rfl) (F_val (F_val (F_val (F_val (F_val (F_val (F_val (F_val (F_val (F_val (F_val (F_val (F_val (F_val (F_nil ?_)))))))))))))))
  refine R_op rfl rfl rfl (op_idx Tryz.runUnderlying30 Tryz.sizeOf49 (Has.t rfl) (Has.t rfl) rfl (map_get (getD_some (d := Qi.zero) (by omega)))) ?_
  refine R_op rfl rfl rfl (op_ld Tryz.isAgg49 Tryz.sizeOf49 (Has.t rfl)) ?_
  refine R_stA Tryz.sizeOf49 (Has.t rfl) (Has.t rfl) rfl (i := 0) rfl (Nat.le_of_ble_eq_true rfl) rfl rfl ?_
  refine R_nil ?_
  exact T_ret1 rfl (rv_cell Tryz.isAgg49 Tryz.sizeOf49 rfl (i := 0) rfl rfl)
set_option maxRecDepth 20000 in
theorem c_partO {z : List Qi} {s : List (List Qi)} {p m : Nat} (hs : Shp s z.length z.length) (hp : p < z.length) (hm : m = z.length - 1) (hl : z.length ≤ 1000) : FunO Tryz.prog 140 [NetT z s, IntsT (lftL p m)] [] (Nat) (fun B => AggT [NumsT (prtZ z p m), Is (.slice (some ⟨B, 0, none⟩) m m)]) (fun B => [matO B 30 49 5 (FRow NumT (prtS s p m))]) (fun _ => True) := by
  have hll : (lftL p m).length = m := tab_len _ _
  refine FunO.intro Tryz.func140 rfl Tryz.ntmps140 rfl (fun cx Z => ?_)
  refine T_seq ?_
  refine T_region ?_
  refine R_new rfl rfl rfl (new_box (Has.t rfl)) (fun B2 => ?_)
  refine R_new rfl rfl rfl (new_box1 (Has.t rfl)) (fun B3 => ?_)
  refine R_new rfl rfl rfl (new_alloc (Ts := [Is (.slice none 0 0), Is (.slice none 0 0)]) Tryz.zeroValue33 rfl (fun V => Cells.cons' ⟨rfl, trivial⟩ (Cells.cons' ⟨rfl, trivial⟩ (Cells.nil)))) (fun B4 => ?_)
  refine R_nil ?_
  refine T_seq ?_
  refine T_freeze (i := 1) (tt := 2) rfl rfl frz_ptr ?_
  refine T_freeze (i := 2) (tt := 3) rfl rfl frz_ptr1 ?_
  refine T_region ?_
  refine R_op rfl rfl rfl (op_ld Tryz.isAgg207 Tryz.sizeOf207 (Has.t rfl)) ?_
  refine R_op rfl rfl rfl (op_len Tryz.runUnderlying207 (Has.t rfl) (by rw [List.length_map, hll])) ?_
  refine R_new rfl rfl rfl (new_makeO (T := NumT Qi.zero) (i := Tryz.t49) und_30 info_49 rfl rfl (Has.t rfl) rfl num_zero_p (El.ag rfl) (by show 88 * _ ≤ _; omega) (by omega)) (fun B10 => ?_)
  refine R_op rfl rfl rfl (op_assign (Has.t rfl)) ?_
  refine R_nil ?_
  refine T_seq ?_
  refine T_seq ?_
  refine T_region ?_
  refine R_op rfl rfl rfl (op_ld Tryz.isAgg207 Tryz.sizeOf207 (Has.t rfl)) ?_
  refine R_op rfl rfl rfl (op_len Tryz.runUnderlying207 (Has.t rfl) (by rw [List.length_map, hll])) ?_
  refine R_op rfl rfl rfl (op_move (Has.cN 0)) ?_
  refine R_nil ?_
  refine T_block ?_
  refine T_keep [0, 3, 4] rfl (by decide) ?_
  refine T_loop (fun (i : Nat) => i ≤ m) (fun (i : Nat) => m - i) (fun (i : Nat) => [(2, PT (NetT z s)), (3, PT (IntsT (lftL p m))), (4, PtrB B4 0), (5, Is B10), (11, IntsT (lftL p m)), (12, NT .i64 m), (13, NT .i64 i)]) (fun (i : Nat) => [Z, box B4 33 [Is (.slice none 0 0), Is (.slice none 0 0)], rowO 49 5 B10 ((mixT (fun i => gv z (skp p i)) Qi.zero m i).map NumT)]) 0 (Nat.zero_le _)
    (Sub.cons rfl (Sub.cons rfl (Sub.cons rfl (Sub.cons rfl (Sub.cons rfl (Sub.cons rfl (Sub.cons rfl Sub.nil))))))) (HSub.cons (fun _ _ _ h => h) (HSub.cons (fun _ _ _ h => h) (HSub.cons (rowO_of (by rw [← mix_zero]; exact tab_rep NumT m)) HSub.nil))) (fun i hi => ?_)
  refine T_seq ?_
  refine T_region ?_
  refine R_op rfl rfl rfl (op_lssN (Has.t rfl) (Has.t rfl)) ?_
  refine R_nil ?_
  refine T_seq ?_
  refine T_cond (Has.t rfl) (fun hd => ?_) (fun hd => ?_)
  · simp only [decide_eq_true_eq] at hd
    have hki : skp p i < z.length := skp_lt (by omega) hp
    refine T_skip ?_
    refine T_seq ?_
    refine T_block ?_
    refine T_seq ?_
    refine T_region ?_
    refine R_op rfl rfl rfl (op_move (Has.t rfl)) ?_
    refine R_op rfl rfl rfl (op_idx Tryz.runUnderlying207 Tryz.sizeOf3 (Has.t rfl) (Has.t rfl) rfl (map_get (lft_get hd))) ?_
    refine R_op rfl rfl rfl (op_ld Tryz.isAgg3 Tryz.sizeOf3 (Has.t rfl)) ?_
    refine R_op rfl rfl rfl (op_assign (Has.t rfl)) ?_
    refine R_op rfl rfl rfl (op_assign (Has.t rfl)) ?_
    refine R_nil ?_
    refine T_region ?_
    refine R_op rfl rfl rfl (op_move (Has.t rfl)) ?_
    refine R_op rfl rfl rfl (op_move (Has.t rfl)) ?_
    refine R_op rfl rfl rfl (op_fld1 fa_33_0 (Has.t rfl) rfl) ?_
    refine R_op rfl rfl rfl (op_ld Tryz.isAgg30 Tryz.sizeOf30 (Has.t rfl)) ?_
    refine R_op rfl rfl rfl (op_move (Has.t rfl)) ?_
    refine R_op rfl rfl rfl (OpTy.nat (op_subN (Has.t rfl) (Has.cN 1) (by omega) (by show _ < 9223372036854775808; first | omega | (simp only [lim]; omega))) (show skp p i + 1 - 1 = skp p i by omega)) ?_
    refine R_op rfl rfl rfl (op_idx Tryz.runUnderlying30 Tryz.sizeOf49 (Has.t rfl) (Has.t rfl) rfl (map_get (getD_some (d := Qi.zero) hki))) ?_
    refine R_op rfl rfl rfl (op_ld Tryz.isAgg49 Tryz.sizeOf49 (Has.t rfl)) ?_
    refine R_op rfl rfl rfl (op_idxO Tryz.runUnderlying30 Tryz.sizeOf49 (Has.t rfl) (Has.t rfl) rfl (i := 2) rfl (by rw [List.length_map, mix_len]; omega) rfl) ?_
    refine R_stO Tryz.sizeOf49 (Has.t rfl) (Has.t rfl) (El.ag rfl) (i := 2) rfl rfl (by rw [List.length_map, mix_len]; omega) rfl ?_
    refine R_nil ?_
    refine T_blk ?_
    refine T_region ?_
    refine R_op rfl rfl rfl (op_addN (Has.t rfl) (Has.cN 1) (by show _ < 9223372036854775808; first | omega | (simp only [lim]; omega))) ?_
    refine R_op rfl rfl rfl (op_move (Has.t rfl)) ?_
    refine R_nil ?_
    refine T_again (i + 1) hd (by omega) (Sub.cons rfl (Sub.cons rfl (Sub.cons rfl (Sub.cons rfl (Sub.cons rfl (Sub.cons rfl (Sub.cons rfl Sub.nil))))))) (HSub.cons (fun _ _ _ h => h) (HSub.cons (fun _ _ _ h => h) (HSub.cons (rowO_of (by rw [set_mapF, ← mix_set (f := (fun i => gv z (skp p i)))])) HSub.nil)))
  · simp only [decide_eq_false_iff_not] at hd
    obtain rfl : m = i := Nat.le_antisymm (by omega) hi
    rw [mix_fin]
    refine T_exit rfl ?_
    refine T_freeze (i := 2) (tt := 5) rfl rfl frz_row ?_
    refine T_seq ?_
    refine T_region ?_
    refine R_op rfl rfl rfl (op_move (Has.t rfl)) ?_
    refine R_op rfl rfl rfl (op_ld Tryz.isAgg207 Tryz.sizeOf207 (Has.t rfl)) ?_
    refine R_op rfl rfl rfl (op_len Tryz.runUnderlying207 (Has.t rfl) (by rw [List.length_map, hll])) ?_
    refine R_op rfl rfl rfl (op_clos (γ := Fin m × Fin m) (Ts := fun x => [NT .i64 x.1.1, NT .i64 x.2.1]) (U := fun x => NumT (gm s (skp p x.1.1) (skp p x.2.1))) Tryz.call189 (fun x => c_part1 hs hp hm hl x.1.2 x.2.2) ⟨(Has.t rfl), (Has.t rfl), trivial⟩) ?_
    refine R_call0 Tryz.call105 (c_fillO (n := m) (f := fun i j => gm s (skp p i) (skp p j)) (by omega)) ⟨(Has.t rfl), (Has.t rfl), trivial⟩ rfl (fun B32 _ => ?_)
    refine R_op rfl rfl rfl (bld_33_0_1 (Has.t rfl) (Has.t rfl)) ?_
    refine R_stA Tryz.sizeOf33 (Has.t rfl) (Has.t rfl) rfl (i := 1) rfl (Nat.le_of_ble_eq_true rfl) rfl rfl ?_
    refine R_nil ?_
    exact T_retO B32 trivial [0, 3] ⟨⟨_, rfl, fun _ _ _ h => h⟩, ⟨_, rfl, fun _ _ _ h => h⟩, trivial⟩ (by decide) (rvs1 rfl (rv_cell Tryz.isAgg33 Tryz.sizeOf33 rfl (i := 1) rfl rfl))
set_option maxRecDepth 20000 in
theorem c_whole {n : Int} (h1 : -9223372036854775808 ≤ n) (h2 : n ≤ 9223372036854775807) : Fun Tryz.prog 138 [IntT .i64 n] (NumT (Qi.ofInt n)) := by
  refine Fun.intro Tryz.func138 rfl Tryz.ntmps138 rfl (fun cx => ?_)
  refine T_seq ?_
  refine T_region ?_
  refine R_new rfl rfl rfl (new_alloc (Ts := [Is (.bool false), Is (.slice none 0 0), Is (.bool false), Is (.slice none 0 0), Is (.slice none 0 0)]) Tryz.zeroValue49 rfl (fun V => Cells.cons' ⟨rfl, trivial⟩ (Cells.cons' ⟨rfl, trivial⟩ (Cells.cons' ⟨rfl, trivial⟩ (Cells.cons' ⟨rfl, trivial⟩ (Cells.cons' ⟨rfl, trivial⟩ (Cells.nil))))))) (fun B2 => ?_)
  refine R_nil ?_
  refine T_seq ?_
  refine T_region ?_
  refine R_new rfl rfl rfl (new_alloc (Ts := [Is (.bool false), Is (.slice none 0 0), Is (.bool false), Is (.slice none 0 0), Is (.slice none 0 0)]) Tryz.zeroValue49 rfl (fun V => Cells.cons' ⟨rfl, trivial⟩ (Cells.cons' ⟨rfl, trivial⟩ (Cells.cons' ⟨rfl, trivial⟩ (Cells.cons' ⟨rfl, trivial⟩ (Cells.cons' ⟨rfl, trivial⟩ (Cells.nil))))))) (fun B3 => ?_)
  refine R_nil ?_
  refine T_seq ?_
  refine D_start (m := 4) ?_
  refine D_step (Ei := [(3, _)]) rfl rfl (Srcs.cons (Src.pre rfl rfl) Srcs.nil) (S_plain rfl (op_ldBA Tryz.isAgg49 Tryz.sizeOf49 (Has.t rfl) (i := 1) rfl rfl rfl)) ?_
  refine D_step (Ei := [(4, _)]) rfl rfl (Srcs.cons (Src.op 0 rfl rfl) Srcs.nil) (S_plain rfl (op_iface mkif_49 (Has.t rfl))) ?_
  refine D_step (Ei := [(0, _)]) rfl rfl (Srcs.cons (Src.pre rfl rfl) Srcs.nil) (S_plain rfl (op_move (Has.t rfl))) ?_
  refine D_step (Ei := [(6, _)]) rfl rfl (Srcs.cons (Src.op 2 rfl rfl) Srcs.nil) (S_plain rfl (op_call Tryz.call28 (c_Int (n := n) h1 h2) ⟨(Has.t rfl), trivial⟩)) ?_
  refine D_done mixed rfl (by kernel_rfl) (F_val (F_val (F_val (F_val (F_nil ?_)))))
  refine R_op rfl rfl rfl (op_invoke meth_49_Of Tryz.call264 c_OfZ (Has.t rfl) ⟨(Has.t rfl), trivial⟩) ?_
  refine R_stA Tryz.sizeOf49 (Has.t rfl) (Has.t rfl) rfl (i := 0) rfl (Nat.le_of_ble_eq_true rfl) rfl rfl ?_
  refine R_nil ?_
  exact T_ret1 rfl (rv_cell Tryz.isAgg49 Tryz.sizeOf49 rfl (i := 0) rfl rfl)
end Go.Proofs.YtppibhcfaahgpaaGreat
namespace Go.Proofs.YtppibhcfaahgpaaGreat
open Go Go.RowKit
set_option maxHeartbeats 1000000 in
set_option maxRecDepth 20000 in
theorem c_Term {z : List Qi} {s : List (List Qi)} {port : Int} {g : Qi} {L : Nat} (hs : Shp s z.length z.length) (hf : FitM s L) (hg : FitC g L) (hL : 1 ≤ L) (hLb : L ≤ 1000000) (hl : z.length ≤ 1000) : Fun Tryz.prog 62 [NetT z s, IntT .i64 port, NumT g] (TupT [NetT (trmRZ z s port g) (trmRS z s port g), IntT .i64 (trmE z s port g)]) := by
  haveI := hg
  have hsl := hs.1
  refine Fun.intro Tryz.func62 rfl Tryz.ntmps62 rfl (fun cx => ?_)
  refine T_seq ?_
  refine T_region ?_
  refine R_new rfl rfl rfl (new_box (Has.t rfl)) (fun B3 => ?_)
  refine R_new rfl rfl rfl (new_box (Has.t rfl)) (fun B5 => ?_)
  refine R_new rfl rfl rfl (new_alloc (Ts := [Is (.slice none 0 0), Is (.slice none 0 0)]) Tryz.zeroValue33 rfl (fun V => Cells.cons' ⟨rfl, trivial⟩ (Cells.cons' ⟨rfl, trivial⟩ (Cells.nil)))) (fun B6 => ?_)
  refine R_op rfl rfl rfl (op_assign (Has.cN 0)) ?_
  refine R_nil ?_
  refine T_seq ?_
  refine T_block ?_
  refine T_seq ?_
  refine T_region ?_
  refine R_op rfl rfl rfl (op_ldBA Tryz.isAgg33 Tryz.sizeOf33 (Has.t rfl) (i := 0) rfl rfl rfl) ?_
  refine R_op rfl rfl rfl (op_move (Has.t rfl)) ?_
  refine R_op rfl rfl rfl (op_call Tryz.call137 c_has ⟨(Has.t rfl), (Has.t rfl), trivial⟩) ?_
  refine R_op rfl rfl rfl (op_not (Has.t rfl)) ?_
  refine R_op rfl rfl rfl (op_assign (Has.t rfl)) ?_
  refine R_nil ?_
  refine T_cond (Has.t rfl) (fun hb => ?_) (fun hb => ?_)
  · have he : trmE z s port g = 1 := trmE_1 (by simpa only [Bool.not_eq_true', decide_eq_false_iff_not] using hb)
    refine T_seq ?_
    refine T_region ?_
    refine R_op rfl rfl rfl (OpTy.imp (bld_33_ ) net_nil) ?_
    refine R_stA Tryz.sizeOf33 (Has.t rfl) (Has.t rfl) rfl (i := 2) rfl (Nat.le_of_ble_eq_true rfl) rfl rfl ?_
    refine R_op rfl rfl rfl (op_assign (Has.cN 1)) ?_
    refine R_nil ?_
    refine T_ret2 rfl (rv_to (rv_cell Tryz.isAgg33 Tryz.sizeOf33 rfl (i := 2) rfl rfl) ?_) (rv_to (rv_tmp rfl) ?_)
    · exact (trm_bad he (by decide))
    · exact (int_of he.symm)
  · have hb2 : 1 ≤ port ∧ port ≤ (z.length : Int) := by simpa using hb
    obtain ⟨p, rfl⟩ : ∃ p : Nat, port = (p : Int) + 1 := ⟨(port - 1).toNat, by omega⟩
    have hp : p < z.length := by omega
    refine T_seq ?_
    refine T_region ?_
    refine R_op rfl rfl rfl (op_fldB fa_33_0 (Has.t rfl) rfl) ?_
    refine R_op rfl rfl rfl (op_ldB Tryz.isAgg30 Tryz.sizeOf30 (Has.t rfl) (i := 0) rfl rfl) ?_
    refine R_op rfl rfl rfl (op_len Tryz.runUnderlying30 (Has.t rfl) len_map) ?_
    refine R_op rfl rfl rfl (op_eqlN (Has.t rfl) (Has.cN 1)) ?_
    refine R_op rfl rfl rfl (op_assign (Has.t rfl)) ?_
    refine R_nil ?_
    refine T_cond (Has.t rfl) (fun hc => ?_) (fun hc => ?_)
    · have he : trmE z s ((p : Int) + 1) g = 4 := trmE_4 hb2 (by simpa using hc)
      refine T_seq ?_
      refine T_region ?_
      refine R_op rfl rfl rfl (OpTy.imp (bld_33_ ) net_nil) ?_
      refine R_stA Tryz.sizeOf33 (Has.t rfl) (Has.t rfl) rfl (i := 2) rfl (Nat.le_of_ble_eq_true rfl) rfl rfl ?_
      refine R_op rfl rfl rfl (op_assign (Has.cN 4)) ?_
      refine R_nil ?_
      refine T_ret2 rfl (rv_to (rv_cell Tryz.isAgg33 Tryz.sizeOf33 rfl (i := 2) rfl rfl) ?_) (rv_to (rv_tmp rfl) ?_)
      · exact (trm_bad he (by decide))
      · exact (int_of he.symm)
    · have hn1 : ¬ z.length = 1 := by simpa using hc
      have htd := trmE_d (s := s) (g := g) hp hn1
      obtain ⟨m, hm⟩ : ∃ m, m = z.length - 1 := ⟨_, rfl⟩
      have hspl := hs.row hp
      haveI f0 : FitC (Qi.ofInt 1) 1 := fit_one
      haveI f1 : FitC (gm s p p) L := hf.get hL p p
      refine T_skip ?_
      refine T_blk ?_
      refine T_seq ?_
      refine T_region ?_
      refine R_op rfl rfl rfl (op_move (Has.t rfl)) ?_
      refine R_op rfl rfl rfl (op_sub (Has.t rfl) Has.c (r := ((p : Nat) : Int)) ((w64 (z := (p : Int) + 1 - 1) (by omega)).trans (by omega))) ?_
      refine R_op rfl rfl rfl (op_assign (Has.t rfl)) ?_
      refine R_nil ?_
      refine T_seq ?_
      refine Y.D_start (m := 22) [] ?_
      refine Y.D_hide (Ei := [(5, _)]) rfl rfl (Y.Srcs.cons (Y.Src.pre rfl rfl) Y.Srcs.nil) rfl rfl (S_plain rfl (op_ldBA Tryz.isAgg49 Tryz.sizeOf49 (Has.t rfl) (i := 1) rfl rfl rfl)) ?_
      refine Y.D_hide (Ei := [(32, _)]) rfl rfl (Y.Srcs.cons (Y.Src.op 0 rfl rfl) Y.Srcs.nil) rfl rfl (S_plain rfl (op_iface mkif_49 (Has.t rfl))) ?_
      refine Y.D_hide (Ei := []) rfl rfl Y.Srcs.nil rfl rfl (S_plain rfl (op_call Tryz.call138 (c_whole (n := 1) (by decide) (by decide)) ⟨(Has.cN 1), trivial⟩)) ?_
      refine Y.D_hide (Ei := [(34, _)]) rfl rfl (Y.Srcs.cons (Y.Src.op 2 rfl rfl) Y.Srcs.nil) rfl rfl (S_plain rfl (op_iface mkif_49 (Has.t rfl))) ?_
      refine Y.D_hide (Ei := [(3, _)]) rfl rfl (Y.Srcs.cons (Y.Src.pre rfl rfl) Y.Srcs.nil) rfl rfl (S_plain rfl (op_fldB fa_33_1 (Has.t rfl) rfl)) ?_
      refine Y.D_hide (Ei := [(36, _)]) rfl rfl (Y.Srcs.cons (Y.Src.op 4 rfl rfl) Y.Srcs.nil) rfl rfl (S_plain rfl (op_ldB Tryz.isAgg31 Tryz.sizeOf31 (Has.t rfl) (i := 0) rfl rfl)) ?_
      refine Y.D_hide (Ei := [(8, _)]) rfl rfl (Y.Srcs.cons (Y.Src.pre rfl rfl) Y.Srcs.nil) rfl rfl (S_plain rfl (op_move (Has.t rfl))) ?_
      refine Y.D_hide (Ei := [(37, _), (38, _)]) rfl rfl (Y.Srcs.cons (Y.Src.op 5 rfl rfl) (Y.Srcs.cons (Y.Src.op 6 rfl rfl) Y.Srcs.nil)) rfl rfl (S_plain rfl (op_idx Tryz.runUnderlying31 Tryz.sizeOf30 (Has.t rfl) (Has.t rfl) rfl (map_get (getD_some (d := []) (by omega))))) ?_
      refine Y.D_hide (Ei := [(39, _)]) rfl rfl (Y.Srcs.cons (Y.Src.op 7 rfl rfl) Y.Srcs.nil) rfl rfl (S_plain rfl (op_ld Tryz.isAgg30 Tryz.sizeOf30 (Has.t rfl))) ?_
      refine Y.D_hide (Ei := [(8, _)]) rfl rfl (Y.Srcs.cons (Y.Src.pre rfl rfl) Y.Srcs.nil) rfl rfl (S_plain rfl (op_move (Has.t rfl))) ?_
      refine Y.D_hide (Ei := [(40, _), (41, _)]) rfl rfl (Y.Srcs.cons (Y.Src.op 8 rfl rfl) (Y.Srcs.cons (Y.Src.op 9 rfl rfl) Y.Srcs.nil)) rfl rfl (S_plain rfl (op_idx Tryz.runUnderlying30 Tryz.sizeOf49 (Has.t rfl) (Has.t rfl) rfl (map_get (getD_some (d := Qi.zero) (by omega))))) ?_
      refine Y.D_hide (Ei := [(42, _)]) rfl rfl (Y.Srcs.cons (Y.Src.op 10 rfl rfl) Y.Srcs.nil) rfl rfl (S_plain rfl (op_ld Tryz.isAgg49 Tryz.sizeOf49 (Has.t rfl))) ?_
      refine Y.D_hide (Ei := [(43, _)]) rfl rfl (Y.Srcs.cons (Y.Src.op 11 rfl rfl) Y.Srcs.nil) rfl rfl (S_plain rfl (op_iface mkif_49 (Has.t rfl))) ?_
      refine Y.D_hide (Ei := [(5, _)]) rfl rfl (Y.Srcs.cons (Y.Src.pre rfl rfl) Y.Srcs.nil) rfl rfl (S_plain rfl (op_ldBA Tryz.isAgg49 Tryz.sizeOf49 (Has.t rfl) (i := 1) rfl rfl rfl)) ?_
      refine Y.D_hide (Ei := [(44, _), (45, _)]) rfl rfl (Y.Srcs.cons (Y.Src.op 12 rfl rfl) (Y.Srcs.cons (Y.Src.op 13 rfl rfl) Y.Srcs.nil)) rfl rfl (S_plain rfl (op_invoke meth_49_Mul Tryz.call56 (c_Mul (x := gm s p p) (y := g) (L := L) (M := L) (by omega)) (Has.t rfl) ⟨(Has.t rfl), trivial⟩)) ?_
      refine Y.D_hide (Ei := [(35, _), (46, _)]) rfl rfl (Y.Srcs.cons (Y.Src.op 3 rfl rfl) (Y.Srcs.cons (Y.Src.op 14 rfl rfl) Y.Srcs.nil)) rfl rfl (S_plain rfl (op_invoke meth_49_Sub Tryz.call58 (c_Sub (x := Qi.ofInt 1) (y := gm s p p * g) (L := 1) (M := L + L + 1) (hx := f0) (by omega)) (Has.t rfl) ⟨(Has.t rfl), trivial⟩)) ?_
      refine Y.D_hide (Ei := [(33, _), (47, _)]) rfl rfl (Y.Srcs.cons (Y.Src.op 1 rfl rfl) (Y.Srcs.cons (Y.Src.op 15 rfl rfl) Y.Srcs.nil)) rfl rfl (S_plain rfl (op_invoke meth_49_Div Tryz.call174 (c_Div (x := g) (y := Qi.ofInt 1 - gm s p p * g) (L := L) (M := 1 + (L + L + 1) + 1) (hy := @fitSub _ _ _ _ f0 inferInstance) (by omega)) (Has.t rfl) ⟨(Has.t rfl), trivial⟩)) ?_
      refine Y.D_hide (Ei := [(48, _)]) rfl rfl (Y.Srcs.cons (Y.Src.op 16 rfl rfl) Y.Srcs.nil) rfl rfl (S_plain rfl (op_move (Has.t rfl))) ?_
      refine Y.D_hide (Ei := [(31, _)]) rfl rfl (Y.Srcs.cons (Y.Src.op 17 rfl rfl) Y.Srcs.nil) rfl rfl (S_plain rfl (op_extract (Has.t rfl) rfl)) ?_
      refine Y.D_hide (Ei := [(31, _)]) rfl rfl (Y.Srcs.cons (Y.Src.op 17 rfl rfl) Y.Srcs.nil) rfl rfl (S_plain rfl (op_extract (Has.t rfl) rfl)) ?_
      refine Y.D_newp (Ei := []) (fun bb => box bb 49 [BoolT (decide ((trmF s p g).a < 0)), NatT (trmF s p g).a.natAbs, BoolT (decide ((trmF s p g).b < 0)), NatT (trmF s p g).b.natAbs, NatT (du (trmF s p g))]) 21 rfl rfl rfl Y.Srcs.nil rfl rfl (by kernel_rfl) (new_alloc (Ts := [Is (.bool false), Is (.slice none 0 0), Is (.bool false), Is (.slice none 0 0), Is (.slice none 0 0)]) Tryz.zeroValue49 rfl (fun V => Cells.cons' ⟨rfl, trivial⟩ (Cells.cons' ⟨rfl, trivial⟩ (Cells.cons' ⟨rfl, trivial⟩ (Cells.cons' ⟨rfl, trivial⟩ (Cells.cons' ⟨rfl, trivial⟩ (Cells.nil))))))) ?_
      refine Y.D_putN (Ei := [(49, _)]) 20 rfl rfl rfl rfl rfl rfl (Y.Srcs.cons (Y.Src.op 18 rfl rfl) Y.Srcs.nil) (fun bb => P_stA Tryz.sizeOf49 (Has.t rfl) (Has.t rfl) rfl (i := 0) rfl (Nat.le_of_ble_eq_true rfl) rfl rfl) ?_
      refine Y.D_done mixed rfl (by kernel_rfl) rfl (by simp [Y.okP]) rfl rfl (Y.F_val (Y.F_val (Y.F_val (Y.F_val (Y.F_val (Y.F_val (Y.F_val (Y.F_val (Y.F_val (Y.F_val (Y.F_val (Y.F_val (Y.F_val (Y.F_val (Y.F_val (Y.F_val (Y.F_val (Y.F_val (Y.F_val (Y.F_val (Y.F_newp (fun B9 => Y.F_putN (Y.F_nil ?_)))))))))))))))))))))))
      refine R_op rfl rfl rfl (op_assign (Has.t rfl)) ?_
      refine R_nil ?_
      refine T_seq ?_
      refine T_seq ?_
      refine T_region ?_
      refine R_op rfl rfl rfl (op_move (Has.t rfl)) ?_
      refine R_op rfl rfl rfl (op_neq (Has.t rfl) Has.c) ?_
      refine R_nil ?_
      refine T_cond (Has.t rfl) (fun he => ?_) (fun he => ?_)
      · have hz : Qi.ofInt 1 - gm s p p * g = Qi.zero := by simp at he; exact he
        have he : trmE z s ((p : Int) + 1) g = 6 := by rw [htd, if_pos hz]
        refine T_seq ?_
        refine T_region ?_
        refine R_op rfl rfl rfl (OpTy.imp (bld_33_ ) net_nil) ?_
        refine R_stA Tryz.sizeOf33 (Has.t rfl) (Has.t rfl) rfl (i := 2) rfl (Nat.le_of_ble_eq_true rfl) rfl rfl ?_
        refine R_op rfl rfl rfl (op_assign (Has.cN 6)) ?_
        refine R_nil ?_
        refine T_ret2 rfl (rv_to (rv_cell Tryz.isAgg33 Tryz.sizeOf33 rfl (i := 2) rfl rfl) ?_) (rv_to (rv_tmp rfl) ?_)
        · exact (trm_bad he (by decide))
        · exact (int_of he.symm)
      · have hz : Qi.ofInt 1 - gm s p p * g ≠ Qi.zero := by simp at he; exact he
        have he : trmE z s ((p : Int) + 1) g = 0 := by rw [htd, if_neg hz]
        haveI ff : FitC (trmF s p g) (7 * L + 11) := trmF_fit hf hg hL hz
        have hll : (lftL p m).length = m := tab_len _ _
        refine T_skip ?_
        refine T_seq ?_
        refine T_region ?_
        refine R_op rfl rfl rfl (op_ldBA Tryz.isAgg33 Tryz.sizeOf33 (Has.t rfl) (i := 0) rfl rfl rfl) ?_
        refine R_op rfl rfl rfl (op_move (Has.t rfl)) ?_
        refine R_op rfl rfl rfl (op_bslice (xs := [.tmp 55]) Tryz.runUnderlying207 Tryz.sizeOf3 Tryz.zeroValue3 (Elems.cons (Has.t rfl) Elems.nil) rfl rfl rfl) ?_
        refine R_op rfl rfl rfl (op_call Tryz.call139 (Fun.imp (c_left (z := z) (s := s) (p := p) hp hl) (slT_of (by rw [← hm]))) ⟨(Has.t rfl), (Has.t rfl), trivial⟩) ?_
        refine R_op rfl rfl rfl (op_assign (Has.t rfl)) ?_
        refine R_nil ?_
        refine T_seq ?_
        refine T_region ?_
        refine R_op rfl rfl rfl (op_ldBA Tryz.isAgg33 Tryz.sizeOf33 (Has.t rfl) (i := 0) rfl rfl rfl) ?_
        refine R_op rfl rfl rfl (op_move (Has.t rfl)) ?_
        refine R_call0 Tryz.call140 (c_partO (p := p) (m := m) hs hp hm hl) ⟨(Has.t rfl), (Has.t rfl), trivial⟩ rfl (fun B60 _ => ?_)
        refine R_new rfl rfl rfl (new_alloc (Ts := [Is (.slice none 0 0), Is (.slice none 0 0)]) Tryz.zeroValue33 rfl (fun V => Cells.cons' ⟨rfl, trivial⟩ (Cells.cons' ⟨rfl, trivial⟩ (Cells.nil)))) (fun B12 => ?_)
        refine R_stA Tryz.sizeOf33 (Has.t rfl) (Has.t rfl) rfl (i := 5) rfl (Nat.le_of_ble_eq_true rfl) rfl rfl ?_
        refine R_nil ?_
        refine T_seq ?_
        refine T_seq ?_
        refine T_region ?_
        refine R_op rfl rfl rfl (op_move (Has.t rfl)) ?_
        refine R_op rfl rfl rfl (op_len Tryz.runUnderlying207 (Has.t rfl) (by rw [List.length_map, hll])) ?_
        refine R_op rfl rfl rfl (op_move (Has.cN 0)) ?_
        refine R_nil ?_
        refine T_block ?_
        refine T_keep [0, 2, 3, 4, 5] rfl (by decide) ?_
        refine T_loop (fun (i : Nat) => i ≤ m) (fun (i : Nat) => m - i) (fun (i : Nat) => [(3, PtrB B3 0), (6, PtrB B6 0), (8, NT .i64 p), (9, PtrB B9 0), (11, IntsT (lftL p m)), (12, PtrB B12 0), (61, IntsT (lftL p m)), (62, NT .i64 m), (63, NT .i64 i)]) (fun (i : Nat) => [box B3 33 [NumsT z, NumM s], box B6 33 [Is (.slice none 0 0), Is (.slice none 0 0)], box B9 49 [BoolT (decide ((trmF s p g).a < 0)), NatT (trmF s p g).a.natAbs, BoolT (decide ((trmF s p g).b < 0)), NatT (trmF s p g).b.natAbs, NatT (du (trmF s p g))], matO B60 30 49 5 (FRow NumT (mixG (fun i => tab m fun j => trmX s p (trmF s p g) i j) (fun i => tab m fun j => gm s (skp p i) (skp p j)) m i)), box B12 33 [NumsT (prtZ z p m), Is (.slice (some ⟨B60, 0, none⟩) m m)]]) 0 (Nat.zero_le _)
          (Sub.cons rfl (Sub.cons rfl (Sub.cons rfl (Sub.cons rfl (Sub.cons rfl (Sub.cons rfl (Sub.cons rfl (Sub.cons rfl (Sub.cons rfl Sub.nil))))))))) (HSub.cons (fun _ _ _ h => h) (HSub.cons (fun _ _ _ h => h) (HSub.cons (box_of rfl) (HSub.cons (matO_of (by rw [← mixG_zero]; rfl)) (HSub.cons (box_of rfl) HSub.nil))))) (fun i hi => ?_)
        refine T_seq ?_
        refine T_region ?_
        refine R_op rfl rfl rfl (op_lssN (Has.t rfl) (Has.t rfl)) ?_
        refine R_nil ?_
        refine T_seq ?_
        refine T_cond (Has.t rfl) (fun hd => ?_) (fun hd => ?_)
        · simp only [decide_eq_true_eq] at hd
          have hki : skp p i < z.length := skp_lt (by omega) hp
          have hsr := hs.row hki
          refine T_focus 3 (i) rfl (frow_mixG hd) (fun v => ?_)
          refine T_skip ?_
          refine T_seq ?_
          refine T_block ?_
          refine T_seq ?_
          refine T_region ?_
          refine R_op rfl rfl rfl (op_move (Has.t rfl)) ?_
          refine R_op rfl rfl rfl (op_idx Tryz.runUnderlying207 Tryz.sizeOf3 (Has.t rfl) (Has.t rfl) rfl (map_get (lft_get hd))) ?_
          refine R_op rfl rfl rfl (op_ld Tryz.isAgg3 Tryz.sizeOf3 (Has.t rfl)) ?_
          refine R_op rfl rfl rfl (op_assign (Has.t rfl)) ?_
          refine R_op rfl rfl rfl (op_assign (Has.t rfl)) ?_
          refine R_nil ?_
          refine T_seq ?_
          refine T_region ?_
          refine R_op rfl rfl rfl (op_move (Has.t rfl)) ?_
          refine R_op rfl rfl rfl (op_len Tryz.runUnderlying207 (Has.t rfl) (by rw [List.length_map, hll])) ?_
          refine R_op rfl rfl rfl (op_move (Has.cN 0)) ?_
          refine R_nil ?_
          refine T_block ?_
          refine T_loop (fun (j : Nat) => j ≤ m) (fun (j : Nat) => m - j) (fun (j : Nat) => [(3, PtrB B3 0), (6, PtrB B6 0), (8, NT .i64 p), (9, PtrB B9 0), (11, IntsT (lftL p m)), (12, PtrB B12 0), (13, NT .i64 i), (14, NT .i64 (skp p i + 1)), (61, IntsT (lftL p m)), (62, NT .i64 m), (63, NT .i64 i), (68, IntsT (lftL p m)), (69, NT .i64 m), (70, NT .i64 j)]) (fun (j : Nat) => [box B3 33 [NumsT z, NumM s], box B6 33 [Is (.slice none 0 0), Is (.slice none 0 0)], box B9 49 [BoolT (decide ((trmF s p g).a < 0)), NatT (trmF s p g).a.natAbs, BoolT (decide ((trmF s p g).b < 0)), NatT (trmF s p g).b.natAbs, NatT (du (trmF s p g))], matH B60 30 49 5 (FRow NumT (mixG (fun i => tab m fun j => trmX s p (trmF s p g) i j) (fun i => tab m fun j => gm s (skp p i) (skp p j)) m i)) i v, box B12 33 [NumsT (prtZ z p m), Is (.slice (some ⟨B60, 0, none⟩) m m)], rowO 49 5 v ((mixG (fun j => trmX s p (trmF s p g) i j) (fun j => gm s (skp p i) (skp p j)) m j).map NumT)]) 0 (Nat.zero_le _)
            (Sub.cons rfl (Sub.cons rfl (Sub.cons rfl (Sub.cons rfl (Sub.cons rfl (Sub.cons rfl (Sub.cons rfl (Sub.cons rfl (Sub.cons rfl (Sub.cons rfl (Sub.cons rfl (Sub.cons rfl (Sub.cons rfl (Sub.cons rfl Sub.nil)))))))))))))) (HSub.cons (fun _ _ _ h => h) (HSub.cons (fun _ _ _ h => h) (HSub.cons (fun _ _ _ h => h) (HSub.cons (fun _ _ _ h => h) (HSub.cons (fun _ _ _ h => h) (HSub.cons (rowO_of (by rw [← mixG_zero])) HSub.nil)))))) (fun j hj => ?_)
          refine T_seq ?_
          refine T_region ?_
          refine R_op rfl rfl rfl (op_lssN (Has.t rfl) (Has.t rfl)) ?_
          refine R_nil ?_
          refine T_seq ?_
          refine T_cond (Has.t rfl) (fun hf2 => ?_) (fun hf2 => ?_)
          · simp only [decide_eq_true_eq] at hf2
            have hkj : skp p j < z.length := skp_lt (by omega) hp
            have hrl := mixG_len (fun j => trmX s p (trmF s p g) i j) (fun j => gm s (skp p i) (skp p j)) m j
            haveI g1 : FitC (gm s (skp p i) (skp p j)) L := hf.get hL _ _
            haveI g2 : FitC (gm s (skp p i) p) L := hf.get hL _ _
            haveI g3 : FitC (gm s p (skp p j)) L := hf.get hL _ _
            refine T_skip ?_
            refine T_seq ?_
            refine T_block ?_
            refine T_seq ?_
            refine T_region ?_
            refine R_op rfl rfl rfl (op_move (Has.t rfl)) ?_
            refine R_op rfl rfl rfl (op_idx Tryz.runUnderlying207 Tryz.sizeOf3 (Has.t rfl) (Has.t rfl) rfl (map_get (lft_get hf2))) ?_
            refine R_op rfl rfl rfl (op_ld Tryz.isAgg3 Tryz.sizeOf3 (Has.t rfl)) ?_
            refine R_op rfl rfl rfl (op_assign (Has.t rfl)) ?_
            refine R_op rfl rfl rfl (op_assign (Has.t rfl)) ?_
            refine R_nil ?_
            refine D_start (m := 39) ?_
            refine D_step (Ei := [(12, _)]) rfl rfl (Srcs.cons (Src.pre rfl rfl) Srcs.nil) (S_plain rfl (op_fldB fa_33_1 (Has.t rfl) rfl)) ?_
            refine D_step (Ei := [(75, _)]) rfl rfl (Srcs.cons (Src.op 0 rfl rfl) Srcs.nil) (S_plain rfl (op_ldB Tryz.isAgg31 Tryz.sizeOf31 (Has.t rfl) (i := 4) rfl rfl)) ?_
            refine D_step (Ei := [(13, _)]) rfl rfl (Srcs.cons (Src.pre rfl rfl) Srcs.nil) (S_plain rfl (op_move (Has.t rfl))) ?_
            refine D_step (Ei := [(76, _), (77, _)]) rfl rfl (Srcs.cons (Src.op 1 rfl rfl) (Srcs.cons (Src.op 2 rfl rfl) Srcs.nil)) (S_plain rfl (op_idxB Tryz.runUnderlying31 Tryz.sizeOf30 (Has.t rfl) (Has.t rfl) rfl (by omega) (by rw [Nat.mul_one, Nat.zero_add]))) ?_
            refine D_step (Ei := [(78, _)]) rfl rfl (Srcs.cons (Src.op 3 rfl rfl) Srcs.nil) (S_plain rfl (op_ldH Tryz.isAgg30 Tryz.sizeOf30 (Has.t rfl) (j := 3) rfl)) ?_
            refine D_step (Ei := [(15, _)]) rfl rfl (Srcs.cons (Src.pre rfl rfl) Srcs.nil) (S_plain rfl (op_move (Has.t rfl))) ?_
            refine D_step (Ei := [(12, _)]) rfl rfl (Srcs.cons (Src.pre rfl rfl) Srcs.nil) (S_plain rfl (op_fldB fa_33_1 (Has.t rfl) rfl)) ?_
            refine D_step (Ei := [(81, _)]) rfl rfl (Srcs.cons (Src.op 6 rfl rfl) Srcs.nil) (S_plain rfl (op_ldB Tryz.isAgg31 Tryz.sizeOf31 (Has.t rfl) (i := 4) rfl rfl)) ?_
            refine D_step (Ei := [(13, _)]) rfl rfl (Srcs.cons (Src.pre rfl rfl) Srcs.nil) (S_plain rfl (op_move (Has.t rfl))) ?_
            refine D_step (Ei := [(82, _), (83, _)]) rfl rfl (Srcs.cons (Src.op 7 rfl rfl) (Srcs.cons (Src.op 8 rfl rfl) Srcs.nil)) (S_plain rfl (op_idxB Tryz.runUnderlying31 Tryz.sizeOf30 (Has.t rfl) (Has.t rfl) rfl (by omega) (by rw [Nat.mul_one, Nat.zero_add]))) ?_
            refine D_step (Ei := [(84, _)]) rfl rfl (Srcs.cons (Src.op 9 rfl rfl) Srcs.nil) (S_plain rfl (op_ldH Tryz.isAgg30 Tryz.sizeOf30 (Has.t rfl) (j := 3) rfl)) ?_
            refine D_step (Ei := [(15, _)]) rfl rfl (Srcs.cons (Src.pre rfl rfl) Srcs.nil) (S_plain rfl (op_move (Has.t rfl))) ?_
            refine D_step (Ei := [(85, _), (86, _)]) rfl rfl (Srcs.cons (Src.op 10 rfl rfl) (Srcs.cons (Src.op 11 rfl rfl) Srcs.nil)) (S_plain rfl (op_idxO Tryz.runUnderlying30 Tryz.sizeOf49 (Has.t rfl) (Has.t rfl) rfl (i := 5) rfl (by simp only [List.length_map, hrl]; omega) rfl)) ?_
            refine D_step (Ei := [(87, _)]) rfl rfl (Srcs.cons (Src.op 12 rfl rfl) Srcs.nil) (S_plain rfl (op_ldO Tryz.isAgg49 Tryz.sizeOf49 (Has.t rfl) (i := 5) rfl rfl (map_get (mixG_get hf2)))) ?_
            refine D_step (Ei := [(88, _)]) rfl rfl (Srcs.cons (Src.op 13 rfl rfl) Srcs.nil) (S_plain rfl (op_iface mkif_49 (Has.t rfl))) ?_
            refine D_step (Ei := [(3, _)]) rfl rfl (Srcs.cons (Src.pre rfl rfl) Srcs.nil) (S_plain rfl (op_fldB fa_33_1 (Has.t rfl) rfl)) ?_
            refine D_step (Ei := [(90, _)]) rfl rfl (Srcs.cons (Src.op 15 rfl rfl) Srcs.nil) (S_plain rfl (op_ldB Tryz.isAgg31 Tryz.sizeOf31 (Has.t rfl) (i := 0) rfl rfl)) ?_
            refine D_step (Ei := [(14, _)]) rfl rfl (Srcs.cons (Src.pre rfl rfl) Srcs.nil) (S_plain rfl (op_move (Has.t rfl))) ?_
            refine D_step (Ei := [(92, _)]) rfl rfl (Srcs.cons (Src.op 17 rfl rfl) Srcs.nil) (S_plain rfl (OpTy.nat (op_subN (Has.t rfl) (Has.cN 1) (by omega) (by show _ < 9223372036854775808; first | omega | (simp only [lim]; omega))) (show skp p i + 1 - 1 = skp p i by omega))) ?_
            refine D_step (Ei := [(91, _), (93, _)]) rfl rfl (Srcs.cons (Src.op 16 rfl rfl) (Srcs.cons (Src.op 18 rfl rfl) Srcs.nil)) (S_plain rfl (op_idx Tryz.runUnderlying31 Tryz.sizeOf30 (Has.t rfl) (Has.t rfl) rfl (map_get (getD_some (d := []) (by omega))))) ?_
            refine D_step (Ei := [(94, _)]) rfl rfl (Srcs.cons (Src.op 19 rfl rfl) Srcs.nil) (S_plain rfl (op_ld Tryz.isAgg30 Tryz.sizeOf30 (Has.t rfl))) ?_
            refine D_step (Ei := [(8, _)]) rfl rfl (Srcs.cons (Src.pre rfl rfl) Srcs.nil) (S_plain rfl (op_move (Has.t rfl))) ?_
            refine D_step (Ei := [(95, _), (96, _)]) rfl rfl (Srcs.cons (Src.op 20 rfl rfl) (Srcs.cons (Src.op 21 rfl rfl) Srcs.nil)) (S_plain rfl (op_idx Tryz.runUnderlying30 Tryz.sizeOf49 (Has.t rfl) (Has.t rfl) rfl (map_get (getD_some (d := Qi.zero) (by omega))))) ?_
            refine D_step (Ei := [(97, _)]) rfl rfl (Srcs.cons (Src.op 22 rfl rfl) Srcs.nil) (S_plain rfl (op_ld Tryz.isAgg49 Tryz.sizeOf49 (Has.t rfl))) ?_
            refine D_step (Ei := [(98, _)]) rfl rfl (Srcs.cons (Src.op 23 rfl rfl) Srcs.nil) (S_plain rfl (op_iface mkif_49 (Has.t rfl))) ?_
            refine D_step (Ei := [(9, _)]) rfl rfl (Srcs.cons (Src.pre rfl rfl) Srcs.nil) (S_plain rfl (op_ldBA Tryz.isAgg49 Tryz.sizeOf49 (Has.t rfl) (i := 2) rfl rfl rfl)) ?_
            refine D_step (Ei := [(100, _)]) rfl rfl (Srcs.cons (Src.op 25 rfl rfl) Srcs.nil) (S_plain rfl (op_iface mkif_49 (Has.t rfl))) ?_
            refine D_step (Ei := [(3, _)]) rfl rfl (Srcs.cons (Src.pre rfl rfl) Srcs.nil) (S_plain rfl (op_fldB fa_33_1 (Has.t rfl) rfl)) ?_
            refine D_step (Ei := [(102, _)]) rfl rfl (Srcs.cons (Src.op 27 rfl rfl) Srcs.nil) (S_plain rfl (op_ldB Tryz.isAgg31 Tryz.sizeOf31 (Has.t rfl) (i := 0) rfl rfl)) ?_
            refine D_step (Ei := [(8, _)]) rfl rfl (Srcs.cons (Src.pre rfl rfl) Srcs.nil) (S_plain rfl (op_move (Has.t rfl))) ?_
            refine D_step (Ei := [(103, _), (104, _)]) rfl rfl (Srcs.cons (Src.op 28 rfl rfl) (Srcs.cons (Src.op 29 rfl rfl) Srcs.nil)) (S_plain rfl (op_idx Tryz.runUnderlying31 Tryz.sizeOf30 (Has.t rfl) (Has.t rfl) rfl (map_get (getD_some (d := []) (by omega))))) ?_
            refine D_step (Ei := [(105, _)]) rfl rfl (Srcs.cons (Src.op 30 rfl rfl) Srcs.nil) (S_plain rfl (op_ld Tryz.isAgg30 Tryz.sizeOf30 (Has.t rfl))) ?_
            refine D_step (Ei := [(16, _)]) rfl rfl (Srcs.cons (Src.pre rfl rfl) Srcs.nil) (S_plain rfl (op_move (Has.t rfl))) ?_
            refine D_step (Ei := [(107, _)]) rfl rfl (Srcs.cons (Src.op 32 rfl rfl) Srcs.nil) (S_plain rfl (OpTy.nat (op_subN (Has.t rfl) (Has.cN 1) (by omega) (by show _ < 9223372036854775808; first | omega | (simp only [lim]; omega))) (show skp p j + 1 - 1 = skp p j by omega))) ?_
            refine D_step (Ei := [(106, _), (108, _)]) rfl rfl (Srcs.cons (Src.op 31 rfl rfl) (Srcs.cons (Src.op 33 rfl rfl) Srcs.nil)) (S_plain rfl (op_idx Tryz.runUnderlying30 Tryz.sizeOf49 (Has.t rfl) (Has.t rfl) rfl (map_get (getD_some (d := Qi.zero) (by omega))))) ?_
            refine D_step (Ei := [(109, _)]) rfl rfl (Srcs.cons (Src.op 34 rfl rfl) Srcs.nil) (S_plain rfl (op_ld Tryz.isAgg49 Tryz.sizeOf49 (Has.t rfl))) ?_
            refine D_step (Ei := [(101, _), (110, _)]) rfl rfl (Srcs.cons (Src.op 26 rfl rfl) (Srcs.cons (Src.op 35 rfl rfl) Srcs.nil)) (S_plain rfl (op_invoke meth_49_Mul Tryz.call56 (c_Mul (x := trmF s p g) (y := gm s p (skp p j)) (L := 7 * L + 11) (M := L) (by omega)) (Has.t rfl) ⟨(Has.t rfl), trivial⟩)) ?_
            refine D_step (Ei := [(99, _), (111, _)]) rfl rfl (Srcs.cons (Src.op 24 rfl rfl) (Srcs.cons (Src.op 36 rfl rfl) Srcs.nil)) (S_plain rfl (op_invoke meth_49_Mul Tryz.call56 (c_Mul (x := gm s (skp p i) p) (y := trmF s p g * gm s p (skp p j)) (L := L) (M := 7 * L + 11 + L + 1) (by omega)) (Has.t rfl) ⟨(Has.t rfl), trivial⟩)) ?_
            refine D_step (Ei := [(89, _), (112, _)]) rfl rfl (Srcs.cons (Src.op 14 rfl rfl) (Srcs.cons (Src.op 37 rfl rfl) Srcs.nil)) (S_plain rfl (op_invoke meth_49_Add Tryz.call59 (c_Add (x := gm s (skp p i) (skp p j)) (y := gm s (skp p i) p * (trmF s p g * gm s p (skp p j))) (L := L) (M := L + (7 * L + 11 + L + 1) + 1) (by omega)) (Has.t rfl) ⟨(Has.t rfl), trivial⟩)) ?_
            refine D_done mixed rfl (by kernel_rfl) (F_val (F_val (F_val (F_val (F_val (F_val (F_val (F_val (F_val (F_val (F_val (F_val (F_val (F_val (F_val (F_val (F_val (F_val (F_val (F_val (F_val (F_val (F_val (F_val (F_val (F_val (F_val (F_val (F_val (F_val (F_val (F_val (F_val (F_val (F_val (F_val (F_val (F_val (F_val (F_nil ?_))))))))))))))))))))))))))))))))))))))))
            refine R_op rfl rfl rfl (op_idxO Tryz.runUnderlying30 Tryz.sizeOf49 (Has.t rfl) (Has.t rfl) rfl (i := 5) rfl (by simp only [List.length_map, hrl]; omega) rfl) ?_
            refine R_stO Tryz.sizeOf49 (Has.t rfl) (Has.t rfl) (El.ag rfl) (i := 5) rfl rfl (by simp only [List.length_map, hrl]; omega) rfl ?_
            refine R_nil ?_
            refine T_blk ?_
            refine T_region ?_
            refine R_op rfl rfl rfl (op_addN (Has.t rfl) (Has.cN 1) (by show _ < 9223372036854775808; first | omega | (simp only [lim]; omega))) ?_
            refine R_op rfl rfl rfl (op_move (Has.t rfl)) ?_
            refine R_nil ?_
            refine T_again (j + 1) hf2 (by omega) (Sub.cons rfl (Sub.cons rfl (Sub.cons rfl (Sub.cons rfl (Sub.cons rfl (Sub.cons rfl (Sub.cons rfl (Sub.cons rfl (Sub.cons rfl (Sub.cons rfl (Sub.cons rfl (Sub.cons rfl (Sub.cons rfl (Sub.cons rfl Sub.nil)))))))))))))) (HSub.cons (fun _ _ _ h => h) (HSub.cons (fun _ _ _ h => h) (HSub.cons (fun _ _ _ h => h) (HSub.cons (fun _ _ _ h => h) (HSub.cons (fun _ _ _ h => h) (HSub.cons (rowO_of (by rw [set_mapF, ← mixG_set (f := fun j => trmX s p (trmF s p g) i j)]; rfl)) HSub.nil))))))
          · simp only [decide_eq_false_iff_not] at hf2
            obtain rfl : m = j := Nat.le_antisymm (by omega) hj
            refine T_exit rfl ?_
            refine T_blk ?_
            refine T_unfocus 3 5 rfl rfl (by decide) (by simp only [FRow, List.length_map, mixG_len]; omega) ?_
            refine T_region ?_
            refine R_op rfl rfl rfl (op_addN (Has.t rfl) (Has.cN 1) (by show _ < 9223372036854775808; first | omega | (simp only [lim]; omega))) ?_
            refine R_op rfl rfl rfl (op_move (Has.t rfl)) ?_
            refine R_nil ?_
            refine T_keep [0, 1, 2, 3, 4] rfl (by decide) ?_
            refine T_again (i + 1) hd (by omega) (Sub.cons rfl (Sub.cons rfl (Sub.cons rfl (Sub.cons rfl (Sub.cons rfl (Sub.cons rfl (Sub.cons rfl (Sub.cons rfl (Sub.cons rfl Sub.nil))))))))) (HSub.cons (fun _ _ _ h => h) (HSub.cons (fun _ _ _ h => h) (HSub.cons (fun _ _ _ h => h) (HSub.cons (matO_of (by rw [set_FRow, mixG_fin, ← mixG_set (f := (fun i => tab m fun j => trmX s p (trmF s p g) i j))])) (HSub.cons (fun _ _ _ h => h) HSub.nil)))))
        · simp only [decide_eq_false_iff_not] at hd
          obtain rfl : m = i := Nat.le_antisymm (by omega) hi
          rw [mixG_fin]
          refine T_exit rfl ?_
          refine T_seq ?_
          refine T_frzcellG 4 3 1 rfl rfl rfl (by decide) (frzM (q := fun _ => True) (M := trmS s p m (trmF s p g)) (tab_len _ _).symm) ?_
          subst hm
          refine T_region ?_
          refine R_op rfl rfl rfl (op_ldBA Tryz.isAgg33 Tryz.sizeOf33 (Has.t rfl) (i := 4) rfl rfl rfl) ?_
          refine R_stA Tryz.sizeOf33 (Has.t rfl) (Has.t rfl) rfl (i := 1) rfl (Nat.le_of_ble_eq_true rfl) rfl rfl ?_
          refine R_op rfl rfl rfl (op_assign (Has.cN 0)) ?_
          refine R_nil ?_
          refine T_ret2 rfl (rv_to (rv_cell Tryz.isAgg33 Tryz.sizeOf33 rfl (i := 1) rfl rfl) ?_) (rv_to (rv_tmp rfl) ?_)
          · exact (trm_good he)
          · exact (int_of he.symm)
end Go.Proofs.YtppibhcfaahgpaaGreat
namespace Go.Proofs.YtppibhcfaahgpaaGreat
open Go Go.RowKit
def fwZ : List Qi := [r50, r50].map Rt.q
def fwS : List (List Qi) := rq [[rHalf, rHalf], [rHalf, rHalf]]
def fwTZ : List Qi := trmRZ fwZ fwS 2 (Qi.ofInt 1)
def fwTS : List (List Qi) := trmRS fwZ fwS 2 (Qi.ofInt 1)
theorem fw_err : netErr fwZ fwS = 0 := by decide +kernel
theorem fw_shp : Shp fwS fwZ.length fwZ.length := (netErr_ok fw_err).2.2.1
theorem fw_trm : trmE fwZ fwS 2 (Qi.ofInt 1) = 0 := by decide +kernel
theorem fw_tz : fwTZ.length = 1 := by decide +kernel
theorem fw_ts : fwTS = [[Qi.ofInt 1]] := by decide +kernel
theorem fw_inv : invE (pmM true (idM fwZ.length) fwS fwZ.length) fwZ.length ≠ 0 := by decide +kernel
theorem fw_fz : FitL fwZ 2 := FitL.rt
theorem fw_fs : FitM fwS 2 := FitM.rt
theorem fw_f1 : FitC (Qi.ofInt 1) 2 := fit_one.le (by decide)
theorem fw_net : ∀ v V, (TupT [NetT (okL (netErr fwZ fwS) fwZ) (okL (netErr fwZ fwS) fwS), IntT .i64 (netErr fwZ fwS)]).p v V → (TupT [NetT fwZ fwS, IntT .i64 0]).p v V := by rw [fw_err]; exact fun _ _ h => h
theorem fw_ter : ∀ v V, (TupT [NetT (trmRZ fwZ fwS ((2 : Nat) : Int) (Qi.ofInt 1)) (trmRS fwZ fwS ((2 : Nat) : Int) (Qi.ofInt 1)), IntT .i64 (trmE fwZ fwS ((2 : Nat) : Int) (Qi.ofInt 1))]).p v V → (TupT [NetT fwTZ fwTS, IntT .i64 0]).p v V := by
  rw [show trmE fwZ fwS ((2 : Nat) : Int) (Qi.ofInt 1) = 0 from fw_trm]; exact fun _ _ h => h
theorem fw_tsh : Shp fwTS fwTZ.length fwTZ.length := by rw [fw_tz, fw_ts]; exact ⟨rfl, by simp⟩
theorem fw_at : ∀ v V, (TupT [NumT (pkm fwTZ.length fwTS ((1 : Nat) : Int) ((1 : Nat) : Int)), IntT .i64 (if (1 ≤ ((1 : Nat) : Int) ∧ ((1 : Nat) : Int) ≤ fwTZ.length) ∧ 1 ≤ ((1 : Nat) : Int) ∧ ((1 : Nat) : Int) ≤ fwTZ.length then 0 else 1)]).p v V → (TupT [NumT (Qi.ofInt 1), IntT .i64 0]).p v V := by
  rw [fw_tz, fw_ts, if_pos (by decide)]
  rw [show pkm 1 [[Qi.ofInt 1]] ((1 : Nat) : Int) ((1 : Nat) : Int) = Qi.ofInt 1 from rfl]
  exact fun _ _ h => h
theorem fw_t : txt (Qi.ofInt 1) = [49] := by decide +kernel
end Go.Proofs.YtppibhcfaahgpaaGreat
namespace Go.Proofs.YtppibhcfaahgpaaGreat
open Go Go.RowKit
set_option maxHeartbeats 1000000 in
set_option maxRecDepth 20000 in
theorem c_awake4  : Fun Tryz.prog 65 [] (BoolT true) := by
  refine Fun.intro Tryz.func65 rfl Tryz.ntmps65 rfl (fun cx => ?_)
  refine T_seq ?_
  refine T_region ?_
  refine R_op rfl rfl rfl (op_assign Has.c) ?_
  refine R_nil ?_
  refine T_seq ?_
  refine T_region ?_
  refine R_op rfl rfl rfl (bld_27_0_2 Has.c Has.c) ?_
  refine R_new rfl rfl rfl (new_alloc (Ts := [Is (.int .i64 0), Is (.int .i64 0), Is (.int .i64 0)]) Tryz.zeroValue27 rfl (fun V => Cells.cons' ⟨rfl, trivial⟩ (Cells.cons' ⟨rfl, trivial⟩ (Cells.cons' ⟨rfl, trivial⟩ (Cells.nil))))) (fun B1 => ?_)
  refine R_stA Tryz.sizeOf27 (Has.t rfl) (Has.t rfl) rfl (i := 0) rfl (Nat.le_of_ble_eq_true rfl) rfl rfl ?_
  refine R_nil ?_
  refine T_seq ?_
  refine Y.D_start (m := 18) [] ?_
  refine Y.D_hide (Ei := []) rfl rfl Y.Srcs.nil rfl rfl (S_plain rfl (bld_27_0 Has.c)) ?_
  refine Y.D_hide (Ei := []) rfl rfl Y.Srcs.nil rfl rfl (S_plain rfl (bld_27_0 Has.c)) ?_
  refine Y.D_hide (Ei := [(12, _), (13, _)]) rfl rfl (Y.Srcs.cons (Y.Src.op 0 rfl rfl) (Y.Srcs.cons (Y.Src.op 1 rfl rfl) Y.Srcs.nil)) rfl rfl (S_plain rfl (op_bslice (xs := [.tmp 12, .tmp 13]) Tryz.runUnderlying22 Tryz.sizeOf27 Tryz.zeroValue27 (Elems.cons (Has.t rfl) (Elems.cons (Has.t rfl) Elems.nil)) rfl rfl rfl)) ?_
  refine Y.D_hide (Ei := [(14, _)]) rfl rfl (Y.Srcs.cons (Y.Src.op 2 rfl rfl) Y.Srcs.nil) rfl rfl (S_plain rfl (op_call Tryz.call30 (c_lawList (l := [r50, r50]) (by decide)) ⟨(Has.t rfl), trivial⟩)) ?_
  refine Y.D_hide (Ei := [(1, _)]) rfl rfl (Y.Srcs.cons (Y.Src.pre rfl rfl) Y.Srcs.nil) rfl rfl (S_plain rfl (op_ldBA Tryz.isAgg27 Tryz.sizeOf27 (Has.t rfl) (i := 0) rfl rfl rfl)) ?_
  refine Y.D_hide (Ei := [(1, _)]) rfl rfl (Y.Srcs.cons (Y.Src.pre rfl rfl) Y.Srcs.nil) rfl rfl (S_plain rfl (op_ldBA Tryz.isAgg27 Tryz.sizeOf27 (Has.t rfl) (i := 0) rfl rfl rfl)) ?_
  refine Y.D_hide (Ei := [(16, _), (17, _)]) rfl rfl (Y.Srcs.cons (Y.Src.op 4 rfl rfl) (Y.Srcs.cons (Y.Src.op 5 rfl rfl) Y.Srcs.nil)) rfl rfl (S_plain rfl (op_bslice (xs := [.tmp 16, .tmp 17]) Tryz.runUnderlying22 Tryz.sizeOf27 Tryz.zeroValue27 (Elems.cons (Has.t rfl) (Elems.cons (Has.t rfl) Elems.nil)) rfl rfl rfl)) ?_
  refine Y.D_hide (Ei := [(1, _)]) rfl rfl (Y.Srcs.cons (Y.Src.pre rfl rfl) Y.Srcs.nil) rfl rfl (S_plain rfl (op_ldBA Tryz.isAgg27 Tryz.sizeOf27 (Has.t rfl) (i := 0) rfl rfl rfl)) ?_
  refine Y.D_hide (Ei := [(1, _)]) rfl rfl (Y.Srcs.cons (Y.Src.pre rfl rfl) Y.Srcs.nil) rfl rfl (S_plain rfl (op_ldBA Tryz.isAgg27 Tryz.sizeOf27 (Has.t rfl) (i := 0) rfl rfl rfl)) ?_
  refine Y.D_hide (Ei := [(19, _), (20, _)]) rfl rfl (Y.Srcs.cons (Y.Src.op 7 rfl rfl) (Y.Srcs.cons (Y.Src.op 8 rfl rfl) Y.Srcs.nil)) rfl rfl (S_plain rfl (op_bslice (xs := [.tmp 19, .tmp 20]) Tryz.runUnderlying22 Tryz.sizeOf27 Tryz.zeroValue27 (Elems.cons (Has.t rfl) (Elems.cons (Has.t rfl) Elems.nil)) rfl rfl rfl)) ?_
  refine Y.D_hide (Ei := [(18, _), (21, _)]) rfl rfl (Y.Srcs.cons (Y.Src.op 6 rfl rfl) (Y.Srcs.cons (Y.Src.op 9 rfl rfl) Y.Srcs.nil)) rfl rfl (S_plain rfl (op_bslice (xs := [.tmp 18, .tmp 21]) Tryz.runUnderlying23 Tryz.sizeOf22 Tryz.zeroValue22 (Elems.cons (Has.t rfl) (Elems.cons (Has.t rfl) Elems.nil)) rfl rfl rfl)) ?_
  refine Y.D_hide (Ei := [(22, _)]) rfl rfl (Y.Srcs.cons (Y.Src.op 10 rfl rfl) Y.Srcs.nil) rfl rfl (S_plain rfl (op_call Tryz.call31 (c_lawRows (m := [[rHalf, rHalf], [rHalf, rHalf]]) (by decide) (by intro r hr; simp at hr; subst hr; decide)) ⟨(Has.t rfl), trivial⟩)) ?_
  refine Y.D_hide (Ei := [(15, _), (23, _)]) rfl rfl (Y.Srcs.cons (Y.Src.op 3 rfl rfl) (Y.Srcs.cons (Y.Src.op 11 rfl rfl) Y.Srcs.nil)) rfl rfl (S_plain rfl (op_call Tryz.call29 (Fun.imp (c_netNew (z := fwZ) (s := fwS) (L := 2) fw_fz (by decide) (by decide) (by decide)) fw_net) ⟨(Has.t rfl), (Has.t rfl), trivial⟩)) ?_
  refine Y.D_hide (Ei := [(24, _)]) rfl rfl (Y.Srcs.cons (Y.Src.op 12 rfl rfl) Y.Srcs.nil) rfl rfl (S_plain rfl (op_move (Has.t rfl))) ?_
  refine Y.D_hide (Ei := [(11, _)]) rfl rfl (Y.Srcs.cons (Y.Src.op 13 rfl rfl) Y.Srcs.nil) rfl rfl (S_plain rfl (op_extract (Has.t rfl) rfl)) ?_
  refine Y.D_hide (Ei := [(11, _)]) rfl rfl (Y.Srcs.cons (Y.Src.op 13 rfl rfl) Y.Srcs.nil) rfl rfl (S_plain rfl (op_extract (Has.t rfl) rfl)) ?_
  refine Y.D_newp (Ei := []) (fun bb => box bb 33 [NumsT fwZ, NumM fwS]) 17 rfl rfl rfl Y.Srcs.nil rfl rfl (by kernel_rfl) (new_alloc (Ts := [Is (.slice none 0 0), Is (.slice none 0 0)]) Tryz.zeroValue33 rfl (fun V => Cells.cons' ⟨rfl, trivial⟩ (Cells.cons' ⟨rfl, trivial⟩ (Cells.nil)))) ?_
  refine Y.D_putN (Ei := [(25, _)]) 16 rfl rfl rfl rfl rfl rfl (Y.Srcs.cons (Y.Src.op 14 rfl rfl) Y.Srcs.nil) (fun bb => P_stA Tryz.sizeOf33 (Has.t rfl) (Has.t rfl) rfl (i := 0) rfl (Nat.le_of_ble_eq_true rfl) rfl rfl) ?_
  refine Y.D_done mixed rfl (by kernel_rfl) rfl (by simp [Y.okP]) rfl rfl (Y.F_val (Y.F_val (Y.F_val (Y.F_val (Y.F_val (Y.F_val (Y.F_val (Y.F_val (Y.F_val (Y.F_val (Y.F_val (Y.F_val (Y.F_val (Y.F_val (Y.F_val (Y.F_val (Y.F_newp (fun B2 => Y.F_putN (Y.F_nil ?_)))))))))))))))))))
  refine R_op rfl rfl rfl (op_assign (Has.t rfl)) ?_
  refine R_nil ?_
  refine T_seq ?_
  refine Y.D_start (m := 8) [] ?_
  refine Y.D_hide (Ei := [(2, _)]) rfl rfl (Y.Srcs.cons (Y.Src.pre rfl rfl) Y.Srcs.nil) rfl rfl (S_plain rfl (op_ldBA Tryz.isAgg33 Tryz.sizeOf33 (Has.t rfl) (i := 1) rfl rfl rfl)) ?_
  refine Y.D_hide (Ei := []) rfl rfl Y.Srcs.nil rfl rfl (S_plain rfl (op_call Tryz.call28 (c_Int (n := 1) (by decide) (by decide)) ⟨(Has.cN 1), trivial⟩)) ?_
  refine Y.D_hide (Ei := [(28, _), (29, _)]) rfl rfl (Y.Srcs.cons (Y.Src.op 0 rfl rfl) (Y.Srcs.cons (Y.Src.op 1 rfl rfl) Y.Srcs.nil)) rfl rfl (S_plain rfl (op_call Tryz.call62 (Fun.imp (c_Term (z := fwZ) (s := fwS) (port := ((2 : Nat) : Int)) (g := Qi.ofInt 1) (L := 2) fw_shp fw_fs fw_f1 (by decide) (by decide) (by decide)) fw_ter) ⟨(Has.t rfl), (Has.cN 2), (Has.t rfl), trivial⟩)) ?_
  refine Y.D_hide (Ei := [(30, _)]) rfl rfl (Y.Srcs.cons (Y.Src.op 2 rfl rfl) Y.Srcs.nil) rfl rfl (S_plain rfl (op_move (Has.t rfl))) ?_
  refine Y.D_hide (Ei := [(27, _)]) rfl rfl (Y.Srcs.cons (Y.Src.op 3 rfl rfl) Y.Srcs.nil) rfl rfl (S_plain rfl (op_extract (Has.t rfl) rfl)) ?_
  refine Y.D_hide (Ei := [(27, _)]) rfl rfl (Y.Srcs.cons (Y.Src.op 3 rfl rfl) Y.Srcs.nil) rfl rfl (S_plain rfl (op_extract (Has.t rfl) rfl)) ?_
  refine Y.D_newp (Ei := []) (fun bb => box bb 33 [NumsT fwTZ, NumM fwTS]) 7 rfl rfl rfl Y.Srcs.nil rfl rfl (by kernel_rfl) (new_alloc (Ts := [Is (.slice none 0 0), Is (.slice none 0 0)]) Tryz.zeroValue33 rfl (fun V => Cells.cons' ⟨rfl, trivial⟩ (Cells.cons' ⟨rfl, trivial⟩ (Cells.nil)))) ?_
  refine Y.D_putN (Ei := [(31, _)]) 6 rfl rfl rfl rfl rfl rfl (Y.Srcs.cons (Y.Src.op 4 rfl rfl) Y.Srcs.nil) (fun bb => P_stA Tryz.sizeOf33 (Has.t rfl) (Has.t rfl) rfl (i := 0) rfl (Nat.le_of_ble_eq_true rfl) rfl rfl) ?_
  refine Y.D_done mixed rfl (by kernel_rfl) rfl (by simp [Y.okP]) rfl rfl (Y.F_val (Y.F_val (Y.F_val (Y.F_val (Y.F_val (Y.F_val (Y.F_newp (fun B4 => Y.F_putN (Y.F_nil ?_)))))))))
  refine R_op rfl rfl rfl (op_assign (Has.t rfl)) ?_
  refine R_nil ?_
  refine T_seq ?_
  refine T_region ?_
  refine R_op rfl rfl rfl (op_ldBA Tryz.isAgg33 Tryz.sizeOf33 (Has.t rfl) (i := 2) rfl rfl rfl) ?_
  refine R_op rfl rfl rfl (op_call Tryz.call72 (Fun.imp (c_At (z := fwTZ) (s := fwTS) (i := ((1 : Nat) : Int)) (j := ((1 : Nat) : Int)) fw_tsh (by rw [fw_tz]; decide)) fw_at) ⟨(Has.t rfl), (Has.cN 1), (Has.cN 1), trivial⟩) ?_
  refine R_op rfl rfl rfl (op_move (Has.t rfl)) ?_
  refine R_op rfl rfl rfl (op_extract (Has.t rfl) rfl) ?_
  refine R_op rfl rfl rfl (op_extract (Has.t rfl) rfl) ?_
  refine R_new rfl rfl rfl (new_alloc (Ts := [Is (.bool false), Is (.slice none 0 0), Is (.bool false), Is (.slice none 0 0), Is (.slice none 0 0)]) Tryz.zeroValue49 rfl (fun V => Cells.cons' ⟨rfl, trivial⟩ (Cells.cons' ⟨rfl, trivial⟩ (Cells.cons' ⟨rfl, trivial⟩ (Cells.cons' ⟨rfl, trivial⟩ (Cells.cons' ⟨rfl, trivial⟩ (Cells.nil))))))) (fun B6 => ?_)
  refine R_stA Tryz.sizeOf49 (Has.t rfl) (Has.t rfl) rfl (i := 3) rfl (Nat.le_of_ble_eq_true rfl) rfl rfl ?_
  refine R_op rfl rfl rfl (op_assign (Has.t rfl)) ?_
  refine R_nil ?_
  refine T_seq ?_
  refine T_region ?_
  refine R_op rfl rfl rfl (op_ldBA Tryz.isAgg33 Tryz.sizeOf33 (Has.t rfl) (i := 1) rfl rfl rfl) ?_
  refine R_op rfl rfl rfl (op_call Tryz.call143 (c_ImpE (z := fwZ) (s := fwS) (L := 2) fw_shp fw_fs (by decide) (by decide) (by decide) (by decide +kernel) (by decide +kernel) fw_inv) ⟨(Has.t rfl), trivial⟩) ?_
  refine R_op rfl rfl rfl (op_move (Has.t rfl)) ?_
  refine R_op rfl rfl rfl (op_extract (Has.t rfl) rfl) ?_
  refine R_op rfl rfl rfl (op_extract (Has.t rfl) rfl) ?_
  refine R_op rfl rfl rfl (op_assign (Has.t rfl)) ?_
  refine R_op rfl rfl rfl (op_assign (Has.t rfl)) ?_
  refine R_nil ?_
  refine T_seq ?_
  refine T_region ?_
  refine R_op rfl rfl rfl (op_move (Has.t rfl)) ?_
  refine R_op rfl rfl rfl (op_eql (Has.t rfl) Has.c) ?_
  refine R_op rfl rfl rfl (op_move (Has.t rfl)) ?_
  refine R_step rfl rfl (S_when rfl rfl (Has.t rfl) (fun h => op_move (Has.t rfl))) ?_
  refine R_step rfl rfl (S_when rfl rfl (Has.t rfl) (fun h => op_eql (Has.w rfl h) Has.c)) ?_
  refine R_op rfl rfl rfl (op_and (Has.t rfl) (fun h => (Has.w rfl h))) ?_
  refine R_op rfl rfl rfl (op_move (Has.t rfl)) ?_
  refine R_step rfl rfl (S_when rfl rfl (Has.t rfl) (fun h => op_move (Has.t rfl))) ?_
  refine R_step rfl rfl (S_when rfl rfl (Has.t rfl) (fun h => op_eql (Has.w rfl h) Has.c)) ?_
  refine R_op rfl rfl rfl (op_and (Has.t rfl) (fun h => (Has.w rfl h))) ?_
  refine R_op rfl rfl rfl (op_move (Has.t rfl)) ?_
  refine R_step rfl rfl (S_when rfl rfl (Has.t rfl) (fun h => op_move (Has.t rfl))) ?_
  refine R_step rfl rfl (S_when rfl rfl (Has.t rfl) (fun h => op_eql (Has.w rfl h) Has.c)) ?_
  refine R_op rfl rfl rfl (op_and (Has.t rfl) (fun h => (Has.w rfl h))) ?_
  refine R_op rfl rfl rfl (op_move (Has.t rfl)) ?_
  refine R_step rfl rfl (S_when rfl rfl (Has.t rfl) (fun h => op_ldBA Tryz.isAgg33 Tryz.sizeOf33 (Has.t rfl) (i := 1) rfl rfl rfl)) ?_
  refine R_step rfl rfl (S_when rfl rfl (Has.t rfl) (fun h => op_call Tryz.call74 c_Ports ⟨(Has.w rfl h), trivial⟩)) ?_
  refine R_step rfl rfl (S_when rfl rfl (Has.t rfl) (fun h => op_eqlN (Has.w rfl h) (Has.cN 2))) ?_
  refine R_op rfl rfl rfl (op_and (Has.t rfl) (fun h => (Has.w rfl h))) ?_
  refine R_op rfl rfl rfl (op_move (Has.t rfl)) ?_
  refine R_step rfl rfl (S_when rfl rfl (Has.t rfl) (fun h => op_ldBA Tryz.isAgg49 Tryz.sizeOf49 (Has.t rfl) (i := 3) rfl rfl rfl)) ?_
  refine R_step rfl rfl (S_when rfl rfl (Has.t rfl) (fun h => op_call Tryz.call75 (c_Text (x := Qi.ofInt 1) (L := 2) (hx := fw_f1) (by decide)) ⟨(Has.w rfl h), trivial⟩)) ?_
  refine R_step rfl rfl (S_when rfl rfl (Has.t rfl) (fun h => op_eqS (Has.w rfl h) (Has.cS (l := [49]) rfl))) ?_
  refine R_op rfl rfl rfl (op_and (Has.t rfl) (fun h => (Has.w rfl h))) ?_
  refine R_op rfl rfl rfl (op_assign (Has.t rfl)) ?_
  refine R_nil ?_
  refine T_ret1 rfl (rv_to (rv_tmp rfl) ?_)
  exact (bool_of (by rw [fw_t]; rfl))
end Go.Proofs.YtppibhcfaahgpaaGreat
namespace Go.Proofs.YtppibhcfaahgpaaGreat
open Go Go.RowKit
set_option maxRecDepth 20000 in
theorem c_refList4 {l : List Rt} (hl : l.length ≤ 1000000) : Fun Tryz.prog 68 [RatsT l] (QsT (l.map Rt.q)) := by
  refine Fun.intro Tryz.func68 rfl Tryz.ntmps68 rfl (fun cx => ?_)
  refine T_seq ?_
  refine T_region ?_
  refine R_op rfl rfl rfl (op_assign Has.c) ?_
  refine R_nil ?_
  refine T_seq ?_
  refine T_region ?_
  refine R_op rfl rfl rfl (op_move (Has.t rfl)) ?_
  refine R_op rfl rfl rfl (op_len Tryz.runUnderlying22 (Has.t rfl) len_map) ?_
  refine R_new rfl rfl rfl (new_makeO (T := ZQ) (i := Tryz.t57) und_36 info_57 rfl rfl (Has.t rfl) rfl zq_p (El.ag rfl) (by show 88 * _ ≤ _; omega) (by omega)) (fun B8 => ?_)
  refine R_op rfl rfl rfl (op_assign (Has.t rfl)) ?_
  refine R_nil ?_
  refine T_seq ?_
  refine T_seq ?_
  refine T_region ?_
  refine R_op rfl rfl rfl (op_move (Has.t rfl)) ?_
  refine R_op rfl rfl rfl (op_len Tryz.runUnderlying22 (Has.t rfl) len_map) ?_
  refine R_op rfl rfl rfl (op_move (Has.cN 0)) ?_
  refine R_nil ?_
  refine T_block ?_
  refine T_loop (fun (k : Nat) => k ≤ l.length) (fun (k : Nat) => l.length - k) (fun (k : Nat) => [(3, Is B8), (9, RatsT l), (10, NT .i64 l.length), (11, NT .i64 k)]) (fun (k : Nat) => [rowO 57 5 B8 (mixT (fun i => QT (l.getD i default).q) ZQ l.length k)]) 0 (Nat.zero_le _)
    (Sub.cons rfl (Sub.cons rfl (Sub.cons rfl (Sub.cons rfl Sub.nil)))) (HSub.cons (rowO_of (by rw [← mix_zero]; exact rep_tab _ _)) HSub.nil) (fun k hk => ?_)
  refine T_seq ?_
  refine T_region ?_
  refine R_op rfl rfl rfl (op_lssN (Has.t rfl) (Has.t rfl)) ?_
  refine R_nil ?_
  refine T_seq ?_
  refine T_cond (Has.t rfl) (fun hd => ?_) (fun hd => ?_)
  · simp only [decide_eq_true_eq] at hd
    refine T_skip ?_
    refine T_seq ?_
    refine T_block ?_
    refine T_seq ?_
    refine T_region ?_
    refine R_op rfl rfl rfl (op_move (Has.t rfl)) ?_
    refine R_op rfl rfl rfl (op_idx Tryz.runUnderlying22 Tryz.sizeOf27 (Has.t rfl) (Has.t rfl) rfl (map_get (getD_some (d := default) hd))) ?_
    refine R_op rfl rfl rfl (op_ld Tryz.isAgg27 Tryz.sizeOf27 (Has.t rfl)) ?_
    refine R_new rfl rfl rfl (new_alloc (Ts := [Is (.int .i64 0), Is (.int .i64 0), Is (.int .i64 0)]) Tryz.zeroValue27 rfl (fun V => Cells.cons' ⟨rfl, trivial⟩ (Cells.cons' ⟨rfl, trivial⟩ (Cells.cons' ⟨rfl, trivial⟩ (Cells.nil))))) (fun B5 => ?_)
    refine R_op rfl rfl rfl (op_assign (Has.t rfl)) ?_
    refine R_stA Tryz.sizeOf27 (Has.t rfl) (Has.t rfl) rfl (i := 1) rfl (Nat.le_of_ble_eq_true rfl) rfl rfl ?_
    refine R_nil ?_
    refine T_region ?_
    refine R_op rfl rfl rfl (op_move (Has.t rfl)) ?_
    refine R_op rfl rfl rfl (op_move (Has.t rfl)) ?_
    refine R_op rfl rfl rfl (op_ldBA Tryz.isAgg27 Tryz.sizeOf27 (Has.t rfl) (i := 1) rfl rfl rfl) ?_
    refine R_op rfl rfl rfl (op_call Tryz.call20 c_rOf ⟨(Has.t rfl), trivial⟩) ?_
    refine R_op rfl rfl rfl (op_idxO Tryz.runUnderlying36 Tryz.sizeOf57 (Has.t rfl) (Has.t rfl) rfl (i := 0) rfl (by rw [mix_len]; omega) rfl) ?_
    refine R_stO Tryz.sizeOf57 (Has.t rfl) (Has.t rfl) (El.ag rfl) (i := 0) rfl rfl (by rw [mix_len]; omega) rfl ?_
    refine R_nil ?_
    refine T_blk ?_
    refine T_region ?_
    refine R_op rfl rfl rfl (op_addN (Has.t rfl) (Has.cN 1) (by show _ < 9223372036854775808; first | omega | (simp only [lim]; omega))) ?_
    refine R_op rfl rfl rfl (op_move (Has.t rfl)) ?_
    refine R_nil ?_
    refine T_keep [0] rfl (by decide) ?_
    refine T_again (k + 1) hd (by omega) (Sub.cons rfl (Sub.cons rfl (Sub.cons rfl (Sub.cons rfl Sub.nil)))) (HSub.cons (rowO_of (mix_set (f := fun i => QT (l.getD i default).q))) HSub.nil)
  · simp only [decide_eq_false_iff_not] at hd
    obtain rfl : k = l.length := Nat.le_antisymm hk (by omega)
    rw [mix_fin]
    refine T_exit rfl ?_
    refine T_freeze (i := 0) (tt := 3) rfl rfl frz_row ?_
    refine T_seq ?_
    refine T_region ?_
    refine R_op rfl rfl rfl (op_move (Has.t rfl)) ?_
    refine R_op rfl rfl rfl (op_assign (Has.t rfl)) ?_
    refine R_nil ?_
    refine T_ret1 rfl (rv_to (rv_tmp rfl) ?_)
    exact (slT_of (by rw [← tab_list l Rt.q, tab_map]))
set_option maxRecDepth 20000 in
theorem c_refRows4 {m : List (List Rt)} (hm : m.length ≤ 1000) (hr : ∀ r, r ∈ m → r.length ≤ 1000) : Fun Tryz.prog 70 [RatM m] (QM (rq m)) := by
  refine Fun.intro Tryz.func70 rfl Tryz.ntmps70 rfl (fun cx => ?_)
  refine T_seq ?_
  refine T_region ?_
  refine R_op rfl rfl rfl (op_assign Has.c) ?_
  refine R_nil ?_
  refine T_seq ?_
  refine T_region ?_
  refine R_op rfl rfl rfl (op_move (Has.t rfl)) ?_
  refine R_op rfl rfl rfl (op_len Tryz.runUnderlying23 (Has.t rfl) len_map) ?_
  refine R_new rfl rfl rfl (new_makeO (T := QsT []) (i := Tryz.t36) und_37 info_36 rfl rfl (Has.t rfl) rfl (fun V => nil_slT _ _ rfl) El.one (by show 24 * _ ≤ _; omega) (by omega)) (fun B8 => ?_)
  refine R_op rfl rfl rfl (op_assign (Has.t rfl)) ?_
  refine R_nil ?_
  refine T_seq ?_
  refine T_seq ?_
  refine T_region ?_
  refine R_op rfl rfl rfl (op_move (Has.t rfl)) ?_
  refine R_op rfl rfl rfl (op_len Tryz.runUnderlying23 (Has.t rfl) len_map) ?_
  refine R_op rfl rfl rfl (op_move (Has.cN 0)) ?_
  refine R_nil ?_
  refine T_block ?_
  refine T_loop2 (fun (k : Nat) (out : List (List Qi)) => FillS (fun i => (m.getD i default).map Rt.q) m.length out k) (fun (k : Nat) (out : List (List Qi)) => m.length - k) (fun (k : Nat) (out : List (List Qi)) => [(3, Is B8), (9, RatM m), (10, NT .i64 m.length), (11, NT .i64 k)]) (fun (k : Nat) (out : List (List Qi)) => [rowO 36 1 B8 (out.map QsT)]) 0 (List.replicate m.length []) (FillS.start _ _ _)
    (Sub.cons rfl (Sub.cons rfl (Sub.cons rfl (Sub.cons rfl Sub.nil)))) (HSub.cons (rowO_of (rep_mapF QsT _ _)) HSub.nil) (fun k out hS => ?_)
  refine T_seq ?_
  refine T_region ?_
  refine R_op rfl rfl rfl (op_lssN (Has.t rfl) (Has.t rfl)) ?_
  refine R_nil ?_
  refine T_seq ?_
  refine T_cond (Has.t rfl) (fun hk => ?_) (fun hk => ?_)
  · simp only [decide_eq_true_eq] at hk
    have hlen := hS.len
    have hrk : (m.getD k default).length ≤ 1000 := by
      have e : m.getD k default = m[k] := by simp [List.getD, hk]
      rw [e]; exact hr _ (List.getElem_mem hk)
    refine T_skip ?_
    refine T_seq ?_
    refine T_block ?_
    refine T_seq ?_
    refine T_region ?_
    refine R_op rfl rfl rfl (op_move (Has.t rfl)) ?_
    refine R_op rfl rfl rfl (op_idx Tryz.runUnderlying23 Tryz.sizeOf22 (Has.t rfl) (Has.t rfl) rfl (map_get (getD_some (d := default) hk))) ?_
    refine R_op rfl rfl rfl (op_ld Tryz.isAgg22 Tryz.sizeOf22 (Has.t rfl)) ?_
    refine R_op rfl rfl rfl (op_assign (Has.t rfl)) ?_
    refine R_op rfl rfl rfl (op_assign (Has.t rfl)) ?_
    refine R_nil ?_
    refine T_region ?_
    refine R_op rfl rfl rfl (op_move (Has.t rfl)) ?_
    refine R_op rfl rfl rfl (op_move (Has.t rfl)) ?_
    refine R_op rfl rfl rfl (op_move (Has.t rfl)) ?_
    refine R_op rfl rfl rfl (op_call Tryz.call68 (c_refList4 (by omega)) ⟨(Has.t rfl), trivial⟩) ?_
    refine R_op rfl rfl rfl (op_idxO Tryz.runUnderlying37 Tryz.sizeOf36 (Has.t rfl) (Has.t rfl) rfl (i := 0) rfl (by first | omega | (simp; omega)) rfl) ?_
    refine R_stO Tryz.sizeOf36 (Has.t rfl) (Has.t rfl) El.one (i := 0) rfl rfl (by first | omega | (simp; omega)) rfl ?_
    refine R_nil ?_
    refine T_blk ?_
    refine T_region ?_
    refine R_op rfl rfl rfl (op_addN (Has.t rfl) (Has.cN 1) (by show _ < 9223372036854775808; first | omega | (simp only [lim]; omega))) ?_
    refine R_op rfl rfl rfl (op_move (Has.t rfl)) ?_
    refine R_nil ?_
    refine T_again (k + 1, _) (hS.next hk rfl) (by dsimp only; omega) (Sub.cons rfl (Sub.cons rfl (Sub.cons rfl (Sub.cons rfl Sub.nil)))) (HSub.cons (rowO_of (set_mapF QsT _ _ _)) HSub.nil)
  · simp only [decide_eq_false_iff_not] at hk
    obtain rfl : k = m.length := Nat.le_antisymm hS.kle (by omega)
    have hfin := hS.fin
    rw [tab_list m (fun r => r.map Rt.q)] at hfin
    refine T_exit rfl ?_
    refine T_freeze (i := 0) (tt := 3) rfl rfl frz_row ?_
    refine T_seq ?_
    refine T_region ?_
    refine R_op rfl rfl rfl (op_move (Has.t rfl)) ?_
    refine R_op rfl rfl rfl (op_assign (Has.t rfl)) ?_
    refine R_nil ?_
    refine T_ret1 rfl (rv_to (rv_tmp rfl) ?_)
    exact (slT_of (by rw [hfin]))
set_option maxRecDepth 20000 in
theorem c_is4 {z : List Qi} {s : List (List Qi)} {L : Nat} (hz : FitL z L) (hs : FitM s L) (hL1 : 1 ≤ L) (hL : L ≤ 8796093022208) (hsh : Shp s z.length z.length) (hl : z.length ≤ 1000) : Fun Tryz.prog 136 [NetT z s, RNetT z s] (BoolT true) := by
  have hs1 := hsh.1
  refine Fun.intro Tryz.func136 rfl Tryz.ntmps136 rfl (fun cx => ?_)
  refine T_seq ?_
  refine T_region ?_
  refine R_new rfl rfl rfl (new_box (Has.t rfl)) (fun B2 => ?_)
  refine R_new rfl rfl rfl (new_box (Has.t rfl)) (fun B3 => ?_)
  refine R_op rfl rfl rfl (op_assign Has.c) ?_
  refine R_nil ?_
  refine T_seq ?_
  refine T_seq ?_
  refine D_start (m := 5) ?_
  refine D_step (Ei := [(2, _)]) rfl rfl (Srcs.cons (Src.pre rfl rfl) Srcs.nil) (S_plain rfl (op_ldBA Tryz.isAgg33 Tryz.sizeOf33 (Has.t rfl) (i := 0) rfl rfl rfl)) ?_
  refine D_step (Ei := [(13, _)]) rfl rfl (Srcs.cons (Src.op 0 rfl rfl) Srcs.nil) (S_plain rfl (op_call Tryz.call74 c_Ports ⟨(Has.t rfl), trivial⟩)) ?_
  refine D_step (Ei := [(3, _)]) rfl rfl (Srcs.cons (Src.pre rfl rfl) Srcs.nil) (S_plain rfl (op_fldB fa_39_0 (Has.t rfl) rfl)) ?_
  refine D_step (Ei := [(15, _)]) rfl rfl (Srcs.cons (Src.op 2 rfl rfl) Srcs.nil) (S_plain rfl (op_ldB Tryz.isAgg36 Tryz.sizeOf36 (Has.t rfl) (i := 1) rfl rfl)) ?_
  refine D_step (Ei := [(16, _)]) rfl rfl (Srcs.cons (Src.op 3 rfl rfl) Srcs.nil) (S_plain rfl (op_len Tryz.runUnderlying36 (Has.t rfl) len_map)) ?_
  refine D_done mixed rfl (by kernel_rfl) (F_val (F_val (F_val (F_val (F_val (F_nil ?_))))))
  refine R_op rfl rfl rfl (op_neqN (Has.t rfl) (Has.t rfl)) ?_
  refine R_nil ?_
  refine T_condF (Has.t rfl) (by simp) ?_
  refine T_skip ?_
  refine T_seq ?_
  refine T_seq ?_
  refine T_region ?_
  refine R_op rfl rfl rfl (op_fldB fa_39_0 (Has.t rfl) rfl) ?_
  refine R_op rfl rfl rfl (op_ldB Tryz.isAgg36 Tryz.sizeOf36 (Has.t rfl) (i := 1) rfl rfl) ?_
  refine R_op rfl rfl rfl (op_len Tryz.runUnderlying36 (Has.t rfl) len_map) ?_
  refine R_op rfl rfl rfl (op_move (Has.cN 0)) ?_
  refine R_nil ?_
  refine T_block ?_
  refine T_loop (fun (i : Nat) => i ≤ z.length) (fun (i : Nat) => z.length - i) (fun (i : Nat) => [(2, PtrB B2 0), (3, PtrB B3 0), (20, QsT z), (21, NT .i64 z.length), (22, NT .i64 i)]) (fun (i : Nat) => [box B2 33 [NumsT z, NumM s], box B3 39 [QsT z, QM s]]) 0 (Nat.zero_le _)
    (Sub.cons rfl (Sub.cons rfl (Sub.cons rfl (Sub.cons rfl (Sub.cons rfl Sub.nil))))) (HSub.refl _) (fun i hi => ?_)
  refine T_seq ?_
  refine T_region ?_
  refine R_op rfl rfl rfl (op_lssN (Has.t rfl) (Has.t rfl)) ?_
  refine R_nil ?_
  refine T_seq ?_
  refine T_cond (Has.t rfl) (fun hd => ?_) (fun hd => ?_)
  · simp only [decide_eq_true_eq] at hd
    haveI f1 : FitC (gv z i) L := hz.get hL1 i
    have hsr := hsh.row hd
    refine T_skip ?_
    refine T_seq ?_
    refine T_block ?_
    refine T_seq ?_
    refine T_region ?_
    refine R_op rfl rfl rfl (op_move (Has.t rfl)) ?_
    refine R_op rfl rfl rfl (op_idx Tryz.runUnderlying36 Tryz.sizeOf57 (Has.t rfl) (Has.t rfl) rfl (map_get (getD_some (d := Qi.zero) hd))) ?_
    refine R_op rfl rfl rfl (op_ld Tryz.isAgg57 Tryz.sizeOf57 (Has.t rfl)) ?_
    refine R_new rfl rfl rfl (new_alloc (Ts := [Is (.bool false), Is (.slice none 0 0), Is (.bool false), Is (.slice none 0 0), Is (.slice none 0 0)]) Tryz.zeroValue57 rfl (fun V => Cells.cons' ⟨rfl, trivial⟩ (Cells.cons' ⟨rfl, trivial⟩ (Cells.cons' ⟨rfl, trivial⟩ (Cells.cons' ⟨rfl, trivial⟩ (Cells.cons' ⟨rfl, trivial⟩ (Cells.nil))))))) (fun B6 => ?_)
    refine R_op rfl rfl rfl (op_assign (Has.t rfl)) ?_
    refine R_stA Tryz.sizeOf57 (Has.t rfl) (Has.t rfl) rfl (i := 2) rfl (Nat.le_of_ble_eq_true rfl) rfl rfl ?_
    refine R_nil ?_
    refine T_seq ?_
    refine T_region ?_
    refine R_op rfl rfl rfl (op_ldBA Tryz.isAgg33 Tryz.sizeOf33 (Has.t rfl) (i := 0) rfl rfl rfl) ?_
    refine R_op rfl rfl rfl (op_move (Has.t rfl)) ?_
    refine R_op rfl rfl rfl (op_addN (Has.t rfl) (Has.cN 1) (by show _ < 9223372036854775808; first | omega | (simp only [lim]; omega))) ?_
    refine R_op rfl rfl rfl (op_call Tryz.call71 (Fun.imp (c_Ref (z := z) (s := s) (i := ((i + 1 : Nat) : Int)) (by omega)) (is_ref hd)) ⟨(Has.t rfl), (Has.t rfl), trivial⟩) ?_
    refine R_op rfl rfl rfl (op_move (Has.t rfl)) ?_
    refine R_op rfl rfl rfl (op_extract (Has.t rfl) rfl) ?_
    refine R_op rfl rfl rfl (op_extract (Has.t rfl) rfl) ?_
    refine R_new rfl rfl rfl (new_alloc (Ts := [Is (.bool false), Is (.slice none 0 0), Is (.bool false), Is (.slice none 0 0), Is (.slice none 0 0)]) Tryz.zeroValue49 rfl (fun V => Cells.cons' ⟨rfl, trivial⟩ (Cells.cons' ⟨rfl, trivial⟩ (Cells.cons' ⟨rfl, trivial⟩ (Cells.cons' ⟨rfl, trivial⟩ (Cells.cons' ⟨rfl, trivial⟩ (Cells.nil))))))) (fun B7 => ?_)
    refine R_stA Tryz.sizeOf49 (Has.t rfl) (Has.t rfl) rfl (i := 3) rfl (Nat.le_of_ble_eq_true rfl) rfl rfl ?_
    refine R_op rfl rfl rfl (op_assign (Has.t rfl)) ?_
    refine R_nil ?_
    refine T_seq ?_
    refine T_seq ?_
    refine T_region ?_
    refine R_op rfl rfl rfl (op_move (Has.t rfl)) ?_
    refine R_op rfl rfl rfl (op_neq (Has.t rfl) Has.c) ?_
    refine R_op rfl rfl rfl (op_move (Has.t rfl)) ?_
    refine R_step rfl rfl (S_when rfl rfl (Has.t rfl) (fun h => op_ldBA Tryz.isAgg49 Tryz.sizeOf49 (Has.t rfl) (i := 3) rfl rfl rfl)) ?_
    refine R_step rfl rfl (S_when rfl rfl (Has.t rfl) (fun h => op_ldBA Tryz.isAgg57 Tryz.sizeOf57 (Has.t rfl) (i := 2) rfl rfl rfl)) ?_
    refine R_step rfl rfl (S_when rfl rfl (Has.t rfl) (fun h => op_call Tryz.call21 (c_lawIs (x := gv z i) (y := gv z i) (L := L) (M := L) hL hL) ⟨(Has.w rfl h), (Has.w rfl h), trivial⟩)) ?_
    refine R_step rfl rfl (S_when rfl rfl (Has.t rfl) (fun h => op_not (Has.w rfl h))) ?_
    refine R_op rfl rfl rfl (op_or (Has.t rfl) (fun h => (Has.w rfl h))) ?_
    refine R_nil ?_
    refine T_condF (Has.t rfl) (by simp) ?_
    refine T_skip ?_
    refine T_seq ?_
    refine T_region ?_
    refine R_op rfl rfl rfl (op_fldB fa_39_1 (Has.t rfl) rfl) ?_
    refine R_op rfl rfl rfl (op_ldB Tryz.isAgg37 Tryz.sizeOf37 (Has.t rfl) (i := 1) rfl rfl) ?_
    refine R_op rfl rfl rfl (op_move (Has.t rfl)) ?_
    refine R_op rfl rfl rfl (op_idx Tryz.runUnderlying37 Tryz.sizeOf36 (Has.t rfl) (Has.t rfl) rfl (map_get (getD_some (d := []) (by omega)))) ?_
    refine R_op rfl rfl rfl (op_ld Tryz.isAgg36 Tryz.sizeOf36 (Has.t rfl)) ?_
    refine R_op rfl rfl rfl (op_len Tryz.runUnderlying36 (Has.t rfl) len_map) ?_
    refine R_op rfl rfl rfl (op_move (Has.cN 0)) ?_
    refine R_nil ?_
    refine T_block ?_
    refine T_keep [0, 1] rfl (by decide) ?_
    refine T_loop (fun (j : Nat) => j ≤ z.length) (fun (j : Nat) => z.length - j) (fun (j : Nat) => [(2, PtrB B2 0), (3, PtrB B3 0), (5, NT .i64 i), (20, QsT z), (21, NT .i64 z.length), (22, NT .i64 i), (46, QsT (s.getD i [])), (47, NT .i64 z.length), (48, NT .i64 j)]) (fun (j : Nat) => [box B2 33 [NumsT z, NumM s], box B3 39 [QsT z, QM s]]) 0 (Nat.zero_le _)
      (Sub.cons rfl (Sub.cons rfl (Sub.cons rfl (Sub.cons rfl (Sub.cons rfl (Sub.cons rfl (Sub.cons rfl (Sub.to rfl (nt_of hsr) (Sub.cons rfl Sub.nil))))))))) (HSub.refl _) (fun j hj => ?_)
    refine T_seq ?_
    refine T_region ?_
    refine R_op rfl rfl rfl (op_lssN (Has.t rfl) (Has.t rfl)) ?_
    refine R_nil ?_
    refine T_seq ?_
    refine T_cond (Has.t rfl) (fun hf => ?_) (fun hf => ?_)
    · simp only [decide_eq_true_eq] at hf
      haveI f2 : FitC (gm s i j) L := hs.get hL1 i j
      refine T_skip ?_
      refine T_seq ?_
      refine T_block ?_
      refine T_seq ?_
      refine T_region ?_
      refine R_op rfl rfl rfl (op_move (Has.t rfl)) ?_
      refine R_op rfl rfl rfl (op_idx Tryz.runUnderlying36 Tryz.sizeOf57 (Has.t rfl) (Has.t rfl) rfl (map_get (getD_some (d := Qi.zero) (by omega)))) ?_
      refine R_op rfl rfl rfl (op_ld Tryz.isAgg57 Tryz.sizeOf57 (Has.t rfl)) ?_
      refine R_new rfl rfl rfl (new_alloc (Ts := [Is (.bool false), Is (.slice none 0 0), Is (.bool false), Is (.slice none 0 0), Is (.slice none 0 0)]) Tryz.zeroValue57 rfl (fun V => Cells.cons' ⟨rfl, trivial⟩ (Cells.cons' ⟨rfl, trivial⟩ (Cells.cons' ⟨rfl, trivial⟩ (Cells.cons' ⟨rfl, trivial⟩ (Cells.cons' ⟨rfl, trivial⟩ (Cells.nil))))))) (fun B10 => ?_)
      refine R_op rfl rfl rfl (op_assign (Has.t rfl)) ?_
      refine R_stA Tryz.sizeOf57 (Has.t rfl) (Has.t rfl) rfl (i := 2) rfl (Nat.le_of_ble_eq_true rfl) rfl rfl ?_
      refine R_nil ?_
      refine T_seq ?_
      refine T_region ?_
      refine R_op rfl rfl rfl (op_ldBA Tryz.isAgg33 Tryz.sizeOf33 (Has.t rfl) (i := 0) rfl rfl rfl) ?_
      refine R_op rfl rfl rfl (op_move (Has.t rfl)) ?_
      refine R_op rfl rfl rfl (op_addN (Has.t rfl) (Has.cN 1) (by show _ < 9223372036854775808; first | omega | (simp only [lim]; omega))) ?_
      refine R_op rfl rfl rfl (op_move (Has.t rfl)) ?_
      refine R_op rfl rfl rfl (op_addN (Has.t rfl) (Has.cN 1) (by show _ < 9223372036854775808; first | omega | (simp only [lim]; omega))) ?_
      refine R_op rfl rfl rfl (op_call Tryz.call72 (Fun.imp (c_At (z := z) (s := s) (i := ((i + 1 : Nat) : Int)) (j := ((j + 1 : Nat) : Int)) hsh (by omega)) (is_at hd hf)) ⟨(Has.t rfl), (Has.t rfl), (Has.t rfl), trivial⟩) ?_
      refine R_op rfl rfl rfl (op_move (Has.t rfl)) ?_
      refine R_op rfl rfl rfl (op_extract (Has.t rfl) rfl) ?_
      refine R_op rfl rfl rfl (op_extract (Has.t rfl) rfl) ?_
      refine R_new rfl rfl rfl (new_alloc (Ts := [Is (.bool false), Is (.slice none 0 0), Is (.bool false), Is (.slice none 0 0), Is (.slice none 0 0)]) Tryz.zeroValue49 rfl (fun V => Cells.cons' ⟨rfl, trivial⟩ (Cells.cons' ⟨rfl, trivial⟩ (Cells.cons' ⟨rfl, trivial⟩ (Cells.cons' ⟨rfl, trivial⟩ (Cells.cons' ⟨rfl, trivial⟩ (Cells.nil))))))) (fun B11 => ?_)
      refine R_stA Tryz.sizeOf49 (Has.t rfl) (Has.t rfl) rfl (i := 3) rfl (Nat.le_of_ble_eq_true rfl) rfl rfl ?_
      refine R_op rfl rfl rfl (op_assign (Has.t rfl)) ?_
      refine R_nil ?_
      refine T_seq ?_
      refine T_region ?_
      refine R_op rfl rfl rfl (op_move (Has.t rfl)) ?_
      refine R_op rfl rfl rfl (op_neq (Has.t rfl) Has.c) ?_
      refine R_op rfl rfl rfl (op_move (Has.t rfl)) ?_
      refine R_step rfl rfl (S_when rfl rfl (Has.t rfl) (fun h => op_ldBA Tryz.isAgg49 Tryz.sizeOf49 (Has.t rfl) (i := 3) rfl rfl rfl)) ?_
      refine R_step rfl rfl (S_when rfl rfl (Has.t rfl) (fun h => op_ldBA Tryz.isAgg57 Tryz.sizeOf57 (Has.t rfl) (i := 2) rfl rfl rfl)) ?_
      refine R_step rfl rfl (S_when rfl rfl (Has.t rfl) (fun h => op_call Tryz.call21 (c_lawIs (x := gm s i j) (y := gm s i j) (L := L) (M := L) hL hL) ⟨(Has.w rfl h), (Has.w rfl h), trivial⟩)) ?_
      refine R_step rfl rfl (S_when rfl rfl (Has.t rfl) (fun h => op_not (Has.w rfl h))) ?_
      refine R_op rfl rfl rfl (op_or (Has.t rfl) (fun h => (Has.w rfl h))) ?_
      refine R_nil ?_
      refine T_condF (Has.t rfl) (by simp) ?_
      refine T_skip ?_
      refine T_blk ?_
      refine T_region ?_
      refine R_op rfl rfl rfl (op_addN (Has.t rfl) (Has.cN 1) (by show _ < 9223372036854775808; first | omega | (simp only [lim]; omega))) ?_
      refine R_op rfl rfl rfl (op_move (Has.t rfl)) ?_
      refine R_nil ?_
      refine T_keep [0, 1] rfl (by decide) ?_
      refine T_again (j + 1) hf (by omega) (Sub.cons rfl (Sub.cons rfl (Sub.cons rfl (Sub.cons rfl (Sub.cons rfl (Sub.cons rfl (Sub.cons rfl (Sub.cons rfl (Sub.cons rfl Sub.nil))))))))) (HSub.refl _)
    · refine T_exit rfl ?_
      refine T_blk ?_
      refine T_region ?_
      refine R_op rfl rfl rfl (op_addN (Has.t rfl) (Has.cN 1) (by show _ < 9223372036854775808; first | omega | (simp only [lim]; omega))) ?_
      refine R_op rfl rfl rfl (op_move (Has.t rfl)) ?_
      refine R_nil ?_
      refine T_keep [0, 1] rfl (by decide) ?_
      refine T_again (i + 1) hd (by omega) (Sub.cons rfl (Sub.cons rfl (Sub.cons rfl (Sub.cons rfl (Sub.cons rfl Sub.nil))))) (HSub.refl _)
  · refine T_exit rfl ?_
    refine T_seq ?_
    refine T_region ?_
    refine R_op rfl rfl rfl (op_assign Has.c) ?_
    refine R_nil ?_
    exact T_ret1 rfl (rv_tmp rfl)
end Go.Proofs.YtppibhcfaahgpaaGreat
namespace Go.Proofs.YtppibhcfaahgpaaGreat
open Go Go.RowKit
section
variable {P : Program} {R : Post} {cx : Cx} {n : Nat} {k : List It} {E : Env} {H : Hp}
variable {d : Option Tmp} {t : TypeId} {pos : String} {af : Array Edge} {g : Option (Nat × Bool)}
theorem op_sliceLo {x loO : Operand} {s q : Nat} {Ts : List Ty} {kd : IntKind} {j : Int} {e : TypeId} (hU : ∀ w, (underlying t).run P w = .ok (.slice e) w) (hS : ∀ w, (sizeOf e).run P w = .ok s w) (hx : Has E x (SlT s Ts)) (hh : Has E loO (IntT kd j))
    (hj : j = (q : Int)) (h1 : q ≤ Ts.length) {t' : TypeId} : OpTy P n E H ⟨d, .slice t x (some loO) none none, t', pos, af, g⟩ (SlT s (Ts.drop q)) :=
  op_pure fun a V w hs => by
    obtain ⟨ad, cap, e1, e2, e3⟩ := hx n V a hs
    have eh : a.eval loO = .int kd j := hh n V a hs
    subst hj
    have helem : ∀ (i : Nat) (T : Ty), (Ts.drop q)[i]? = some T → ∃ b o x, (if cap = q then ad else ad.map fun x : Addr => x.add (q * s)) = some ⟨b, o, none⟩ ∧ Lies V b (o + i * s) x ∧ x.cells.size = s ∧ T.p x V := fun i T hT => by
      rw [List.getElem?_drop] at hT
      have hlt := (List.getElem?_eq_some_iff.1 hT).1
      obtain ⟨b, o, x, r1, r2, r3, r4⟩ := e3 (q + i) T hT
      subst r1
      refine ⟨b, o + q * s, x, by rw [if_neg (by omega)]; simp [add_plain], ?_, r3, r4⟩
      rw [show o + q * s + i * s = o + (q + i) * s by rw [Nat.add_mul]; omega]
      exact r2
    have hl : (Ts.drop q).length = Ts.length - q := List.length_drop
    refine ⟨.slice (if cap = q then ad else ad.map fun x : Addr => x.add (q * s)) (Ts.length - q) (cap - q), ?_, (if cap = q then ad else ad.map fun x : Addr => x.add (q * s)), cap - q, by rw [hl], by omega, helem⟩
    have c1 : q ≤ Ts.length := h1
    have c2 : q ≤ cap := by omega
    have c3 : Ts.length ≤ cap := e2
    simp [execOp, e1, eh, Instr.sliceAt, Instr.slice, Instr.sliceBounds, Instr.sliceBound, asIntOf, Sem.run_bind, hU, hS, Result.andThen, c1, c2, c3]
end
end Go.Proofs.YtppibhcfaahgpaaGreat
namespace Go.Proofs.YtppibhcfaahgpaaGreat
open Go Go.RowKit
theorem tm_bound (x : Int) {b : Int} (h : 0 < b) : -b < x.tmod b ∧ x.tmod b < b := by
  by_cases hx : 0 ≤ x
  · rw [Int.tmod_eq_emod_of_nonneg hx]
    have h1 := Int.emod_nonneg x (by omega : b ≠ 0)
    have h2 := Int.emod_lt_of_pos x h
    omega
  · have e : x.tmod b = -((-x).tmod b) := by rw [Int.neg_tmod, Int.neg_neg]
    rw [e, Int.tmod_eq_emod_of_nonneg (by omega : 0 ≤ -x)]
    have h1 := Int.emod_nonneg (-x) (by omega : b ≠ 0)
    have h2 := Int.emod_lt_of_pos (-x) h
    omega
def absI (x : Int) : Int := if x < 0 then -x else x
theorem absI_b {x : Int} {b : Int} (h : -b < x ∧ x < b) : 0 ≤ absI x ∧ absI x < b := by unfold absI; split <;> omega
def smR (r : Rt) : Rt where
  re := r.re.tmod 9
  im := r.im.tmod 9
  den := absI (r.den.tmod 4) + 1
  h1 := by have := tm_bound r.re (b := 9) (by decide); omega
  h2 := by have := tm_bound r.re (b := 9) (by decide); omega
  h3 := by have := tm_bound r.im (b := 9) (by decide); omega
  h4 := by have := tm_bound r.im (b := 9) (by decide); omega
  h5 := by have := absI_b (tm_bound r.den (b := 4) (by decide)); omega
  h6 := by have := absI_b (tm_bound r.den (b := 4) (by decide)); omega
def imR (r : Rt) : Rt where
  re := absI (smR r).re + 1
  im := 0
  den := (smR r).den
  h1 := by have := absI_b (tm_bound r.re (b := 9) (by decide)); show _ ≤ absI (r.re.tmod 9) + 1; omega
  h2 := by have := absI_b (tm_bound r.re (b := 9) (by decide)); show absI (r.re.tmod 9) + 1 ≤ _; omega
  h3 := by decide
  h4 := by decide
  h5 := (smR r).h5
  h6 := (smR r).h6
def pkR (l : List Rt) (i : Nat) : Rt := if l.length = 0 then default else l.getD (i % l.length) default
def plN (a : Nat) : Nat := a % 4 + 1
def plZ (a : Nat) (zl : List Rt) : List Rt := tab (plN a) fun i => imR (pkR zl i)
def plS (a : Nat) (sl : List Rt) : List (List Rt) := tab (plN a) fun i => tab (plN a) fun j => smR (pkR sl (plN a * i + j))
theorem imR_pos (r : Rt) : posQ (imR r).q = true := by
  have h1 := absI_b (tm_bound r.re (b := 9) (by decide))
  have h2 := absI_b (tm_bound r.den (b := 4) (by decide))
  have hd : (imR r).d = absI (r.den.tmod 4) + 1 := by
    show (if absI (r.den.tmod 4) + 1 = 0 then 1 else absI (r.den.tmod 4) + 1) = _
    rw [if_neg (by omega)]
  have hq : (imR r).q = Qi.frac (absI (r.re.tmod 9) + 1) 0 (absI (r.den.tmod 4) + 1) := by rw [Rt.q, hd]; rfl
  have hb : (imR r).q.b = 0 := Qi.b_zero.2 (by rw [hq]; show ((0 : Int) : Rat) / _ = 0; rw [Rat.div_def]; exact Rat.zero_mul _)
  have ha : 0 < (imR r).q.a := by
    rw [Qi.a_pos, hq]
    show (0 : Rat) < ((absI (r.re.tmod 9) + 1 : Int) : Rat) / ((absI (r.den.tmod 4) + 1 : Int) : Rat)
    rw [Rat.div_def]
    refine Rat.mul_pos (Rat.intCast_pos.2 (by omega)) (Rat.inv_pos.2 (Rat.intCast_pos.2 (by omega)))
  simp only [posQ, hb, ha, and_self, decide_true]
theorem pl_err (a : Nat) (zl sl : List Rt) : netErr ((plZ a zl).map Rt.q) (rq (plS a sl)) = 0 := by
  have hz : ((plZ a zl).map Rt.q).length = plN a := by rw [List.length_map, plZ, tab_len]
  have hs : (rq (plS a sl)).length = plN a := by rw [List.length_map, plS, tab_len]
  have hn : plN a ≤ 4 := by unfold plN; omega
  have hn1 : 1 ≤ plN a := by unfold plN; omega
  rw [netErr, if_neg, if_pos]
  · rw [List.all_eq_true]
    intro x hx
    obtain ⟨r, hr, rfl⟩ := List.mem_map.1 hx
    obtain ⟨i, _, rfl⟩ := tab_mem.1 hr
    exact imR_pos _
  · rw [hz, hs]
    rintro (h | h | h | h)
    · omega
    · omega
    · exact h rfl
    · obtain ⟨r, hr, h2⟩ := List.any_eq_true.1 h
      obtain ⟨y, hy, rfl⟩ := List.mem_map.1 hr
      obtain ⟨i, _, rfl⟩ := tab_mem.1 hy
      simp [tab_len] at h2
def dotF (x : Qi) (l m : List Qi) : Nat → Qi
  | 0 => x
  | k + 1 => dotF x l m k + gv l k * gv m k
def apF (l a : List Qi) : Nat → Qi
  | 0 => Qi.ofInt 0
  | k + 1 => apF l a k + gv l k * gv a k
theorem gv_drop (l : List Qi) (k : Nat) : gv (l.drop 1) k = gv l (k + 1) := by simp [gv, List.getD, List.getElem?_drop, Nat.add_comm]
theorem dot_ap (l a : List Qi) : ∀ k, dotF (gv l 0 * gv a 0) (l.drop 1) (a.drop 1) k = apF l a (k + 1)
  | 0 => (Qi.zero_add' _).symm
  | k + 1 => by rw [dotF, dot_ap l a k, gv_drop, gv_drop]; rfl
theorem apF_fit {l a : List Qi} {L : Nat} (hl : FitL l L) (ha : FitL a L) (hL : 1 ≤ L) : ∀ k, FitC (apF l a k) (1 + k * (2 * L + 2))
  | 0 => FitC.zero (by omega)
  | k + 1 => by
    haveI f1 := apF_fit hl ha hL k
    haveI f2 := hl.get hL k
    haveI f3 := ha.get hL k
    have : FitC (apF l a (k + 1)) (1 + k * (2 * L + 2) + (L + L + 1) + 1) := by unfold apF; infer_instance
    exact this.le (by rw [Nat.add_mul]; omega)
theorem dotF_fit {x : Qi} {l m : List Qi} {L M : Nat} (hx : FitC x M) (hl : FitL l L) (hm : FitL m L) (hL : 1 ≤ L) : ∀ k, FitC (dotF x l m k) (M + k * (2 * L + 2))
  | 0 => hx.le (by omega)
  | k + 1 => by
    haveI f1 := dotF_fit hx hl hm hL k
    haveI f2 := hl.get hL k
    haveI f3 := hm.get hL k
    have : FitC (dotF x l m (k + 1)) (M + k * (2 * L + 2) + (L + L + 1) + 1) := by unfold dotF; infer_instance
    exact this.le (by rw [Nat.add_mul]; omega)
def drvX (s : List (List Qi)) (a : List Qi) (n : Nat) : List Qi := tab n fun i => apF (s.getD i []) a n
def drvE (n m : Nat) : Int := if m = n then 0 else 4
theorem drop_fit {l : List Qi} {L : Nat} (h : FitL l L) : FitL (l.drop 1) L := fun x hx => h x (List.mem_of_mem_drop hx)
theorem drvX_fit {s : List (List Qi)} {a : List Qi} {n L : Nat} (hs : FitM s L) (ha : FitL a L) (hL : 1 ≤ L) : FitL (drvX s a n) (1 + n * (2 * L + 2)) := FitL.tab fun i _ => apF_fit (hs.row i) ha hL n
end Go.Proofs.YtppibhcfaahgpaaGreat
namespace Go.Proofs.YtppibhcfaahgpaaGreat
open Go Go.RowKit
theorem bld_27_0_1_2 {n : Nat} {E : Env} {H : Hp} {d : Option Tmp} {t : TypeId} {pos : String} {af : Array Edge} {g : Option (Nat × Bool)} {x0 x1 x2 : Operand} {T0 T1 T2 : Ty} [s0 : Shape T0 1 false] (h0 : Has E x0 T0) [s1 : Shape T1 1 false] (h1 : Has E x1 T1) [s2 : Shape T2 1 false] (h2 : Has E x2 T2) :
    OpTy Tryz.prog n E H ⟨d, .build 27 #[(0, x0), (1, x1), (2, x2)], t, pos, af, g⟩ (AggT [T0, T1, T2]) :=
  op_build (parts := [(0, x0), (1, x1), (2, x2)]) fun a V w hs => by
    have p0 := h0 n V a hs
    generalize e0 : a.eval x0 = v0 at p0
    have q0 := (s0.ok v0 V p0).2.2 rfl
    have p1 := h1 n V a hs
    generalize e1 : a.eval x1 = v1 at p1
    have q1 := (s1.ok v1 V p1).2.2 rfl
    have p2 := h2 n V a hs
    generalize e2 : a.eval x2 = v2 at p2
    have q2 := (s2.ok v2 V p2).2.2 rfl
    refine ⟨.agg #[v0, v1, v2], ?_, [v0, v1, v2], rfl, Cells.cons' (⟨p0, q0⟩) (Cells.cons' (⟨p1, q1⟩) (Cells.cons' (⟨p2, q2⟩) (Cells.nil)))⟩
    simp [e0, e1, e2, Instr.build, Instr.fill, Sem.run_bind, Result.andThen, cells_agg, q0.cells, q1.cells, q2.cells, Tryz.zeroValue27, Tryz.runUnderlying27, Tryz.sizeOf2]
end Go.Proofs.YtppibhcfaahgpaaGreat
