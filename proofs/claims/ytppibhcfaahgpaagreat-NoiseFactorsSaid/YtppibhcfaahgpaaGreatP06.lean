/- The law about noise factors answers true for all plain data. Conditions: none beyond those of the given statement. -/
import Derived.Test.YtppibhcfaahgpaaGreatP05
set_option linter.unusedVariables false
set_option linter.unusedSimpArgs false
namespace Go.Proofs.YtppibhcfaahgpaaGreat
open Go Go.RowKit
set_option maxRecDepth 20000 in
theorem c_Mul64 {n : Nat} (h : n < 4294967296) : Fun Tryz.prog 234 [NT .u64 1, NT .u64 n] (TupT [NT .u64 0, NT .u64 n]) := by
  refine Fun.intro Tryz.func234 rfl Tryz.ntmps234 rfl (fun cx => ?_)
  refine T_seq ?_
  refine T_region ?_
  refine R_op rfl rfl rfl (op_assign (Has.cN 0)) ?_
  refine R_op rfl rfl rfl (op_assign (Has.cN 0)) ?_
  refine R_nil ?_
  refine T_seq ?_
  refine T_region ?_
  refine R_op rfl rfl rfl (op_move (Has.t rfl)) ?_
  refine R_op rfl rfl rfl (OpTy.nat (op_andN rfl (Has.t rfl) (Has.cN 4294967295) (by show _ < 18446744073709551616; first | omega | (simp only [lim]; omega)) (by show _ < 18446744073709551616; first | omega | (simp only [lim]; omega))) (show (1 : Nat) &&& 4294967295 = 1 by decide)) ?_
  refine R_op rfl rfl rfl (op_assign (Has.t rfl)) ?_
  refine R_nil ?_
  refine T_seq ?_
  refine T_region ?_
  refine R_op rfl rfl rfl (op_move (Has.t rfl)) ?_
  refine R_op rfl rfl rfl (OpTy.nat (op_shrN (Has.t rfl) (Has.cN 32) (by decide)) (show (1 : Nat) / 2 ^ 32 = 0 by decide)) ?_
  refine R_op rfl rfl rfl (op_assign (Has.t rfl)) ?_
  refine R_nil ?_
  refine T_seq ?_
  refine T_region ?_
  refine R_op rfl rfl rfl (op_move (Has.t rfl)) ?_
  refine R_op rfl rfl rfl (OpTy.nat (op_andN rfl (Has.t rfl) (Has.cN 4294967295) (by show _ < 18446744073709551616; first | omega | (simp only [lim]; omega)) (by show _ < 18446744073709551616; first | omega | (simp only [lim]; omega))) (show n &&& 4294967295 = n from (Nat.and_two_pow_sub_one_eq_mod n 32).trans (Nat.mod_eq_of_lt h))) ?_
  refine R_op rfl rfl rfl (op_assign (Has.t rfl)) ?_
  refine R_nil ?_
  refine T_seq ?_
  refine T_region ?_
  refine R_op rfl rfl rfl (op_move (Has.t rfl)) ?_
  refine R_op rfl rfl rfl (OpTy.nat (op_shrN (Has.t rfl) (Has.cN 32) (by decide)) (show n / 2 ^ 32 = 0 from Nat.div_eq_of_lt h)) ?_
  refine R_op rfl rfl rfl (op_assign (Has.t rfl)) ?_
  refine R_nil ?_
  refine T_seq ?_
  refine T_region ?_
  refine R_op rfl rfl rfl (op_move (Has.t rfl)) ?_
  refine R_op rfl rfl rfl (op_move (Has.t rfl)) ?_
  refine R_op rfl rfl rfl (OpTy.nat (op_mulN (Has.t rfl) (Has.t rfl) (by show _ < 18446744073709551616; first | omega | (simp only [lim]; omega))) (Nat.one_mul n)) ?_
  refine R_op rfl rfl rfl (op_assign (Has.t rfl)) ?_
  refine R_nil ?_
  refine T_seq ?_
  refine T_region ?_
  refine R_op rfl rfl rfl (op_move (Has.t rfl)) ?_
  refine R_op rfl rfl rfl (op_move (Has.t rfl)) ?_
  refine R_op rfl rfl rfl (OpTy.nat (op_mulN (Has.t rfl) (Has.t rfl) (by show _ < 18446744073709551616; first | omega | (simp only [lim]; omega))) (Nat.zero_mul n)) ?_
  refine R_op rfl rfl rfl (op_move (Has.t rfl)) ?_
  refine R_op rfl rfl rfl (OpTy.nat (op_shrN (Has.t rfl) (Has.cN 32) (by decide)) (show n / 2 ^ 32 = 0 from Nat.div_eq_of_lt h)) ?_
  refine R_op rfl rfl rfl (op_addN (Has.t rfl) (Has.t rfl) (by show _ < 18446744073709551616; first | omega | (simp only [lim]; omega))) ?_
  refine R_op rfl rfl rfl (op_assign (Has.t rfl)) ?_
  refine R_nil ?_
  refine T_seq ?_
  refine T_region ?_
  refine R_op rfl rfl rfl (op_move (Has.t rfl)) ?_
  refine R_op rfl rfl rfl (OpTy.nat (op_andN rfl (Has.t rfl) (Has.cN 4294967295) (by show _ < 18446744073709551616; first | omega | (simp only [lim]; omega)) (by show _ < 18446744073709551616; first | omega | (simp only [lim]; omega))) (show (0 + 0 : Nat) &&& 4294967295 = 0 by decide)) ?_
  refine R_op rfl rfl rfl (op_assign (Has.t rfl)) ?_
  refine R_nil ?_
  refine T_seq ?_
  refine T_region ?_
  refine R_op rfl rfl rfl (op_move (Has.t rfl)) ?_
  refine R_op rfl rfl rfl (OpTy.nat (op_shrN (Has.t rfl) (Has.cN 32) (by decide)) (show (0 + 0 : Nat) / 2 ^ 32 = 0 by decide)) ?_
  refine R_op rfl rfl rfl (op_assign (Has.t rfl)) ?_
  refine R_nil ?_
  refine T_seq ?_
  refine T_region ?_
  refine R_op rfl rfl rfl (op_move (Has.t rfl)) ?_
  refine R_op rfl rfl rfl (op_move (Has.t rfl)) ?_
  refine R_op rfl rfl rfl (op_move (Has.t rfl)) ?_
  refine R_op rfl rfl rfl (OpTy.nat (op_mulN (Has.t rfl) (Has.t rfl) (by show _ < 18446744073709551616; first | omega | (simp only [lim]; omega))) (show (1 * 0 : Nat) = 0 by decide)) ?_
  refine R_op rfl rfl rfl (op_addN (Has.t rfl) (Has.t rfl) (by show _ < 18446744073709551616; first | omega | (simp only [lim]; omega))) ?_
  refine R_op rfl rfl rfl (op_assign (Has.t rfl)) ?_
  refine R_nil ?_
  refine T_seq ?_
  refine T_region ?_
  refine R_op rfl rfl rfl (op_move (Has.t rfl)) ?_
  refine R_op rfl rfl rfl (op_move (Has.t rfl)) ?_
  refine R_op rfl rfl rfl (OpTy.nat (op_mulN (Has.t rfl) (Has.t rfl) (by show _ < 18446744073709551616; first | omega | (simp only [lim]; omega))) (show (0 * 0 : Nat) = 0 by decide)) ?_
  refine R_op rfl rfl rfl (op_move (Has.t rfl)) ?_
  refine R_op rfl rfl rfl (op_addN (Has.t rfl) (Has.t rfl) (by show _ < 18446744073709551616; first | omega | (simp only [lim]; omega))) ?_
  refine R_op rfl rfl rfl (op_move (Has.t rfl)) ?_
  refine R_op rfl rfl rfl (OpTy.nat (op_shrN (Has.t rfl) (Has.cN 32) (by decide)) (show (0 + 0 : Nat) / 2 ^ 32 = 0 by decide)) ?_
  refine R_op rfl rfl rfl (op_addN (Has.t rfl) (Has.t rfl) (by show _ < 18446744073709551616; first | omega | (simp only [lim]; omega))) ?_
  refine R_op rfl rfl rfl (op_assign (Has.t rfl)) ?_
  refine R_nil ?_
  refine T_seq ?_
  refine T_region ?_
  refine R_op rfl rfl rfl (op_move (Has.t rfl)) ?_
  refine R_op rfl rfl rfl (op_move (Has.t rfl)) ?_
  refine R_op rfl rfl rfl (OpTy.nat (op_mulN (Has.t rfl) (Has.t rfl) (by show _ < 18446744073709551616; first | omega | (simp only [lim]; omega))) (Nat.one_mul n)) ?_
  refine R_op rfl rfl rfl (op_assign (Has.t rfl)) ?_
  refine R_nil ?_
  refine T_ret2 rfl (rv_to (rv_tmp rfl) ?_) (rv_tmp rfl)
  exact (nt_of (by decide))
set_option maxRecDepth 20000 in
theorem c_bMul {n : Nat} (h : n < 4294967296) : Fun Tryz.prog 209 [NT .u64 1, NT .u64 n] (TupT [NT .u64 0, NT .u64 n]) := by
  refine Fun.intro Tryz.func209 rfl Tryz.ntmps209 rfl (fun cx => ?_)
  refine T_seq ?_
  refine T_region ?_
  refine R_op rfl rfl rfl (op_assign (Has.cN 0)) ?_
  refine R_op rfl rfl rfl (op_assign (Has.cN 0)) ?_
  refine R_nil ?_
  refine T_seq ?_
  refine T_cond Has.c (fun hf => ?_) (fun hf => ?_)
  · exact absurd hf (by decide)
  · refine T_skip ?_
    refine T_seq ?_
    refine T_region ?_
    refine R_op rfl rfl rfl (op_move (Has.t rfl)) ?_
    refine R_op rfl rfl rfl (op_move (Has.t rfl)) ?_
    refine R_op rfl rfl rfl (op_call Tryz.call234 (c_Mul64 h) ⟨(Has.t rfl), (Has.t rfl), trivial⟩) ?_
    refine R_op rfl rfl rfl (op_move (Has.t rfl)) ?_
    refine R_op rfl rfl rfl (op_extract (Has.t rfl) rfl) ?_
    refine R_op rfl rfl rfl (op_extract (Has.t rfl) rfl) ?_
    refine R_op rfl rfl rfl (op_assign (Has.t rfl)) ?_
    refine R_op rfl rfl rfl (op_assign (Has.t rfl)) ?_
    refine R_nil ?_
    refine T_seq ?_
    refine T_region ?_
    refine R_op rfl rfl rfl (op_move (Has.t rfl)) ?_
    refine R_op rfl rfl rfl (op_move (Has.t rfl)) ?_
    refine R_op rfl rfl rfl (op_assign (Has.t rfl)) ?_
    refine R_op rfl rfl rfl (op_assign (Has.t rfl)) ?_
    refine R_nil ?_
    exact T_ret2 rfl (rv_tmp rfl) (rv_tmp rfl)
set_option maxRecDepth 20000 in
theorem c_RepO {m : Nat} (h1 : 1 ≤ m) (hm : m ≤ 1000) : FunO Tryz.prog 168 [NumsT [Qi.zero], NT .i64 m] [] ({v : Value // exactH v}) (fun v => Is v.1) (fun v => [rowO 49 5 v.1 ((tab m fun _ => Qi.zero).map NumT)]) (fun _ => True) := by
  refine FunO.intro Tryz.func168 rfl Tryz.ntmps168 rfl (fun cx Z => ?_)
  refine T_seq ?_
  refine T_region ?_
  refine R_op rfl rfl rfl (op_assign Has.c) ?_
  refine R_nil ?_
  refine T_seq ?_
  refine T_seq ?_
  refine T_region ?_
  refine R_op rfl rfl rfl (op_move (Has.t rfl)) ?_
  refine R_op rfl rfl rfl (op_lssN (Has.t rfl) (Has.cN 0)) ?_
  refine R_nil ?_
  refine T_cond (Has.t rfl) (fun h0 => ?_) (fun h0 => ?_)
  · simp only [decide_eq_true_eq] at h0
    omega
  · refine T_skip ?_
    refine T_seq ?_
    refine T_region ?_
    refine R_op rfl rfl rfl (op_move (Has.t rfl)) ?_
    refine R_op rfl rfl rfl (op_len Tryz.runUnderlying30 (Has.t rfl) (show (([Qi.zero].map NumT).length : Int) = ((1 : Nat) : Int) from rfl)) ?_
    refine R_op rfl rfl rfl (op_convN Tryz.runUnderlying3 Tryz.runUnderlying241 (Has.t rfl) (by show _ < 18446744073709551616; first | omega | (simp only [lim]; omega))) ?_
    refine R_op rfl rfl rfl (op_move (Has.t rfl)) ?_
    refine R_op rfl rfl rfl (op_convN Tryz.runUnderlying3 Tryz.runUnderlying241 (Has.t rfl) (by show _ < 18446744073709551616; first | omega | (simp only [lim]; omega))) ?_
    refine R_op rfl rfl rfl (op_call Tryz.call209 (c_bMul (by omega)) ⟨(Has.t rfl), (Has.t rfl), trivial⟩) ?_
    refine R_op rfl rfl rfl (op_move (Has.t rfl)) ?_
    refine R_op rfl rfl rfl (op_extract (Has.t rfl) rfl) ?_
    refine R_op rfl rfl rfl (op_extract (Has.t rfl) rfl) ?_
    refine R_op rfl rfl rfl (op_assign (Has.t rfl)) ?_
    refine R_op rfl rfl rfl (op_assign (Has.t rfl)) ?_
    refine R_nil ?_
    refine T_seq ?_
    refine T_seq ?_
    refine T_region ?_
    refine R_op rfl rfl rfl (op_move (Has.t rfl)) ?_
    refine R_op rfl rfl rfl (op_gtrN (Has.t rfl) (Has.cN 0)) ?_
    refine R_op rfl rfl rfl (op_move (Has.t rfl)) ?_
    refine R_step rfl rfl (S_when rfl rfl (Has.t rfl) (fun h => op_move (Has.t rfl))) ?_
    refine R_step rfl rfl (S_when rfl rfl (Has.t rfl) (fun h => op_gtrN (Has.w rfl h) (Has.cN 9223372036854775807))) ?_
    refine R_op rfl rfl rfl (op_or (Has.t rfl) (fun h => (Has.w rfl h))) ?_
    refine R_nil ?_
    refine T_cond (Has.t rfl) (fun h2 => ?_) (fun h2 => ?_)
    · simp only [Bool.or_eq_true, decide_eq_true_eq] at h2
      omega
    · refine T_skip ?_
      refine T_seq ?_
      refine T_region ?_
      refine R_op rfl rfl rfl (op_move (Has.t rfl)) ?_
      refine R_op rfl rfl rfl (op_convN Tryz.runUnderlying241 Tryz.runUnderlying3 (Has.t rfl) (by show _ < 9223372036854775808; first | omega | (simp only [lim]; omega))) ?_
      refine R_makeE (T := NumT Qi.zero) (i := Tryz.t49) und_30 info_49 rfl rfl (Has.t rfl) rfl num_zero_p (El.ag rfl) (by show 88 * _ ≤ _; omega) (by omega) rfl (fun B30 hB30 => ?_)
      refine R_op rfl rfl rfl (op_assign (Has.t rfl)) ?_
      refine R_nil ?_
      refine T_seq ?_
      refine T_region ?_
      refine R_op rfl rfl rfl (op_move (Has.t rfl)) ?_
      refine R_op rfl rfl rfl (op_move (Has.t rfl)) ?_
      refine R_op rfl rfl rfl (op_copyV (q := 1) (T := NumT Qi.zero) Tryz.runUnderlying30 Tryz.sizeOf49 (i := 1) rfl (Has.t rfl) (Has.t rfl) (by decide) (El.ag rfl) (by omega)) ?_
      refine R_op rfl rfl rfl (op_assign (Has.t rfl)) ?_
      refine R_nil ?_
      refine T_seq ?_
      refine T_block ?_
      refine T_loop (fun (k : Nat) => 1 ≤ k ∧ k ≤ m) (fun (k : Nat) => m - k) (fun (k : Nat) => [(7, Is B30), (8, NT .i64 k)]) (fun (k : Nat) => [Z, rowO 49 5 B30 (List.replicate m (NumT Qi.zero))]) (Nat.min 1 m) ⟨by show 1 ≤ min 1 m; omega, by show min 1 m ≤ m; omega⟩
        (Sub.cons rfl (Sub.cons rfl Sub.nil)) (HSub.refl _) (fun k ⟨hk1, hk⟩ => ?_)
      refine T_seq ?_
      refine T_seq ?_
      refine T_region ?_
      refine R_op rfl rfl rfl (op_move (Has.t rfl)) ?_
      refine R_op rfl rfl rfl (op_move (Has.t rfl)) ?_
      refine R_op rfl rfl rfl (op_lenO Tryz.runUnderlying30 (Has.t rfl) (i := 1) rfl (show ((List.replicate m (NumT Qi.zero)).length : Int) = ((m : Nat) : Int) by simp)) ?_
      refine R_op rfl rfl rfl (op_lssN (Has.t rfl) (Has.t rfl)) ?_
      refine R_nil ?_
      refine T_cond (Has.t rfl) (fun hd => ?_) (fun hd => ?_)
      · simp only [decide_eq_true_eq] at hd
        have hlen : (List.replicate m (NumT Qi.zero)).length = m := by simp
        have h5 : Nat.min k ((List.replicate m (NumT Qi.zero)).length - k) = min k (m - k) := by rw [hlen]
        refine T_skip ?_
        refine T_block ?_
        refine D_start (m := 8) ?_
        refine D_step (Ei := [(8, _)]) rfl rfl (Srcs.cons (Src.pre rfl rfl) Srcs.nil) (S_plain rfl (op_move (Has.t rfl))) ?_
        refine D_step (Ei := [(7, _)]) rfl rfl (Srcs.cons (Src.pre rfl rfl) Srcs.nil) (S_plain rfl (op_move (Has.t rfl))) ?_
        refine D_step (Ei := [(8, _)]) rfl rfl (Srcs.cons (Src.pre rfl rfl) Srcs.nil) (S_plain rfl (op_move (Has.t rfl))) ?_
        refine D_step (Ei := [(39, _), (40, _)]) rfl rfl (Srcs.cons (Src.op 1 rfl rfl) (Srcs.cons (Src.op 2 rfl rfl) Srcs.nil)) (S_plain rfl (op_secLo Tryz.runUnderlying30 Tryz.sizeOf49 (Has.t rfl) (Has.t rfl) rfl (i := 1) rfl (by rw [hlen]; exact hd))) ?_
        refine D_step (Ei := [(7, _)]) rfl rfl (Srcs.cons (Src.pre rfl rfl) Srcs.nil) (S_plain rfl (op_move (Has.t rfl))) ?_
        refine D_step (Ei := [(8, _)]) rfl rfl (Srcs.cons (Src.pre rfl rfl) Srcs.nil) (S_plain rfl (op_move (Has.t rfl))) ?_
        refine D_step (Ei := [(42, _), (43, _)]) rfl rfl (Srcs.cons (Src.op 4 rfl rfl) (Srcs.cons (Src.op 5 rfl rfl) Srcs.nil)) (S_plain rfl (op_secHi Tryz.runUnderlying30 Tryz.sizeOf49 (Has.t rfl) (Has.t rfl) rfl (i := 1) rfl (by rw [hlen]; omega) (by rw [hlen]; omega))) ?_
        refine D_step (Ei := [(41, _), (44, _)]) rfl rfl (Srcs.cons (Src.op 3 rfl rfl) (Srcs.cons (Src.op 6 rfl rfl) Srcs.nil)) (S_plain rfl (op_copySec (T := NumT Qi.zero) Tryz.runUnderlying30 Tryz.sizeOf49 (i := 1) rfl (Has.t rfl) (Has.t rfl))) ?_
        refine D_done mixed rfl (by kernel_rfl) (F_val (F_val (F_val (F_val (F_val (F_val (F_val (F_val (F_nil ?_)))))))))
        refine R_op rfl rfl rfl (op_addN (Has.t rfl) (Has.t rfl) (by show _ < 9223372036854775808; omega)) ?_
        refine R_op rfl rfl rfl (op_assign (Has.t rfl)) ?_
        refine R_nil ?_
        refine T_blk ?_
        refine T_again (k + Nat.min k ((List.replicate m (NumT Qi.zero)).length - k)) ⟨by omega, by omega⟩ (by omega) (Sub.cons rfl (Sub.cons rfl Sub.nil)) (HSub.refl _)
      · refine T_exit rfl ?_
        refine T_seq ?_
        refine T_region ?_
        refine R_op rfl rfl rfl (op_move (Has.t rfl)) ?_
        refine R_op rfl rfl rfl (op_assign (Has.t rfl)) ?_
        refine R_nil ?_
        exact T_retO ⟨B30, hB30⟩ trivial [0, 1] ⟨⟨_, rfl, fun _ _ _ h => h⟩, ⟨_, rfl, (rowO_of (by rw [tab_const, rep_mapF]))⟩, trivial⟩ (by decide) (rvs1 rfl (rv_tmp rfl))
end Go.Proofs.YtppibhcfaahgpaaGreat
namespace Go.Proofs.YtppibhcfaahgpaaGreat
open Go Go.RowKit
theorem bld_35_0_1 {n : Nat} {E : Env} {H : Hp} {d : Option Tmp} {t : TypeId} {pos : String} {af : Array Edge} {g : Option (Nat × Bool)} {x0 x1 : Operand} {T0 T1 T2 : Ty} (h0 : Has E x0 (AggT [T0, T1])) [s1 : Shape T2 1 false] (h1 : Has E x1 T2) :
    OpTy Tryz.prog n E H ⟨d, .build 35 #[(0, x0), (1, x1)], t, pos, af, g⟩ (AggT [T0, T1, T2]) :=
  op_build (parts := [(0, x0), (1, x1)]) fun a V w hs => by
    obtain ⟨v0, e0, c0⟩ := h0 n V a hs
    obtain ⟨c0_0, c0_1, rfl⟩ : ∃ c0_0 c0_1, v0 = [c0_0, c0_1] := list2 (by simpa using c0.length)
    have p1 := h1 n V a hs
    generalize e1 : a.eval x1 = v1 at p1
    have q1 := (s1.ok v1 V p1).2.2 rfl
    refine ⟨.agg #[c0_0, c0_1, v1], ?_, [c0_0, c0_1, v1], rfl, Cells.cons' (c0.at (i := 0) rfl rfl) (Cells.cons' (c0.at (i := 1) rfl rfl) (Cells.cons' (⟨p1, q1⟩) (Cells.nil)))⟩
    simp [e0, e1, Instr.build, Instr.fill, Sem.run_bind, Result.andThen, cells_agg, q1.cells, Tryz.zeroValue35, Tryz.runUnderlying35, Tryz.sizeOf31, Tryz.sizeOf33]
end Go.Proofs.YtppibhcfaahgpaaGreat
namespace Go.Proofs.YtppibhcfaahgpaaGreat
open Go Go.RowKit
set_option maxRecDepth 20000 in
theorem c_zerosO {n : Nat} (hn : n ≤ 1000) : FunO Tryz.prog 99 [NT .i64 n, NT .i64 n] [] (Nat) (fun B => Is (.slice (some ⟨B, 0, none⟩) n n)) (fun B => [matP exactH B 30 49 5 (FRow NumT (zeroM n n))]) (fun _ => True) := by
  refine FunO.intro Tryz.func99 rfl Tryz.ntmps99 rfl (fun cx Z => ?_)
  refine T_seq ?_
  refine T_region ?_
  refine R_op rfl rfl rfl (op_assign Has.c) ?_
  refine R_nil ?_
  refine T_seq ?_
  refine T_region ?_
  refine R_op rfl rfl rfl (op_move (Has.t rfl)) ?_
  refine R_new rfl rfl rfl (new_make (T := Is (.slice none 0 0)) (i := Tryz.t30) Tryz.underlying31 info_30 rfl rfl (Has.t rfl) rfl (fun _ => rfl) trivial (by show 24 * _ ≤ _; omega) (by omega)) (fun B8 => ?_)
  refine R_op rfl rfl rfl (op_assign (Has.t rfl)) ?_
  refine R_nil ?_
  refine T_seq ?_
  refine T_seq ?_
  refine T_region ?_
  refine R_op rfl rfl rfl (op_move (Has.t rfl)) ?_
  refine R_op rfl rfl rfl (op_lenI Tryz.runUnderlying31 (Has.t rfl)) ?_
  refine R_op rfl rfl rfl (op_move (Has.cN 0)) ?_
  refine R_nil ?_
  refine T_block ?_
  refine T_conv 1 rfl (mat_nilE exactH ⟨none, 0, rfl⟩ (e := 49) (s := 5)) ?_
  refine T_loop (fun (k : Nat) => k ≤ n) (fun (k : Nat) => n - k) (fun (k : Nat) => [(1, NT .i64 n), (5, Is (.slice (some ⟨B8, 0, none⟩) n n)), (10, NT .i64 n), (11, NT .i64 k)]) (fun (k : Nat) => [Z, matP exactH B8 30 49 5 (FRow NumT (mixT (fun _ => (tab n fun _ => Qi.zero)) [] n k))]) 0 (Nat.zero_le _)
    (Sub.cons rfl (Sub.cons rfl (Sub.cons rfl (Sub.cons rfl Sub.nil)))) (HSub.cons (fun _ _ _ h => h) (HSub.cons (matO_of (by rw [← mix_zero, tab_const]; exact rep_FRow NumT n)) HSub.nil)) (fun k hk => ?_)
  refine T_seq ?_
  refine T_region ?_
  refine R_op rfl rfl rfl (op_lssN (Has.t rfl) (Has.t rfl)) ?_
  refine R_nil ?_
  refine T_seq ?_
  refine T_cond (Has.t rfl) (fun hd => ?_) (fun hd => ?_)
  · simp only [decide_eq_true_eq] at hd
    refine T_focusE 1 (k) rfl (frow_mix hd) (fun v hv => ?_)
    refine T_skip ?_
    refine T_seq ?_
    refine T_block ?_
    refine T_seq ?_
    refine T_region ?_
    refine R_op rfl rfl rfl (op_move (Has.t rfl)) ?_
    refine R_op rfl rfl rfl (op_assign (Has.t rfl)) ?_
    refine R_nil ?_
    refine T_region ?_
    refine R_op rfl rfl rfl (op_move (Has.t rfl)) ?_
    refine R_op rfl rfl rfl (op_move (Has.t rfl)) ?_
    refine R_op rfl rfl rfl (op_call Tryz.call28 (c_Int (n := 0) (by decide) (by decide)) ⟨(Has.cN 0), trivial⟩) ?_
    refine R_op rfl rfl rfl (op_call Tryz.call81 c_of ⟨(Has.t rfl), trivial⟩) ?_
    refine R_op rfl rfl rfl (op_bslice (xs := [.tmp 17]) Tryz.runUnderlying30 Tryz.sizeOf49 Tryz.zeroValue49 (Elems.cons (Has.t rfl) Elems.nil) rfl rfl rfl) ?_
    refine R_op rfl rfl rfl (op_move (Has.t rfl)) ?_
    refine R_call0 Tryz.call168 (c_RepO (m := n) (by omega) hn) ⟨(Has.t rfl), (Has.t rfl), trivial⟩ rfl (fun B20 _ => ?_)
    have hB20 := B20.2
    refine R_op rfl rfl rfl (op_idxB Tryz.runUnderlying31 Tryz.sizeOf30 (Has.t rfl) (Has.t rfl) rfl (by omega) (by rw [Nat.mul_one, Nat.zero_add])) ?_
    refine R_stH Tryz.sizeOf30 (Has.t rfl) (Has.t rfl) (by simp only [FRow, List.length_map, mix_len]; omega) (j := 1) (l := 3) rfl rfl rfl ?_
    refine R_nil ?_
    refine T_blk ?_
    refine T_unfocus 1 3 rfl rfl (by decide) (by simp only [FRow, List.length_map, mix_len]; omega) ?_
    refine T_region ?_
    refine R_op rfl rfl rfl (op_addN (Has.t rfl) (Has.cN 1) (by show _ < 9223372036854775808; first | omega | (simp only [lim]; omega))) ?_
    refine R_op rfl rfl rfl (op_move (Has.t rfl)) ?_
    refine R_nil ?_
    refine T_keep [0, 1] rfl (by decide) ?_
    refine T_again (k + 1) hd (by omega) (Sub.cons rfl (Sub.cons rfl (Sub.cons rfl (Sub.cons rfl Sub.nil)))) (HSub.cons (fun _ _ _ h => h) (HSub.cons (matO_of (by rw [set_FRow, ← mix_set (f := fun _ => (tab n fun _ => Qi.zero))])) HSub.nil))
  · simp only [decide_eq_false_iff_not] at hd
    obtain rfl : n = k := Nat.le_antisymm (by omega) hk
    refine T_exit rfl ?_
    refine T_seq ?_
    refine T_region ?_
    refine R_op rfl rfl rfl (op_move (Has.t rfl)) ?_
    refine R_op rfl rfl rfl (op_assign (Has.t rfl)) ?_
    refine R_nil ?_
    exact T_retO B8 trivial [0, 1] ⟨⟨_, rfl, fun _ _ _ h => h⟩, ⟨_, rfl, (matO_of (by rw [mix_fin]; rfl))⟩, trivial⟩ (by decide) (rvs1 rfl (rv_tmp rfl))
set_option maxRecDepth 20000 in
theorem c_thermO {z : List Qi} {s : List (List Qi)} {L : Nat} (hz : FitL z L) (hs : FitM s L) (hL1 : 1 ≤ L) (hL : L ≤ 4000) (hsh : Shp s z.length z.length) (hl1 : 1 ≤ z.length) (hl : z.length ≤ 8) : FunO Tryz.prog 96 [NetT z s] [] (Nat) (fun B => Is (.slice (some ⟨B, 0, none⟩) z.length z.length)) (fun B => [matP exactH B 30 49 5 (FRow NumT (ownM z s))]) (fun _ => True) := by
  have hs1 := hs.le (Nat.le_refl L)
  have hsl := hsh.1
  have hD := diag_shp z
  have hDf := diag_fit hz hL1
  have hXf := carM_fit hs hDf hL1 (by rw [hD.1]; exact hl)
  have hX : Shp (carM s (diagM z)) s.length s.length := carM_shp
  refine FunO.intro Tryz.func96 rfl Tryz.ntmps96 rfl (fun cx Z => ?_)
  refine T_seq ?_
  refine T_region ?_
  refine R_new rfl rfl rfl (new_box (Has.t rfl)) (fun B1 => ?_)
  refine R_op rfl rfl rfl (op_assign Has.c) ?_
  refine R_nil ?_
  refine T_seq ?_
  refine D_start (m := 3) ?_
  refine D_step (Ei := [(1, _)]) rfl rfl (Srcs.cons (Src.pre rfl rfl) Srcs.nil) (S_plain rfl (op_ldBA Tryz.isAgg33 Tryz.sizeOf33 (Has.t rfl) (i := 1) rfl rfl rfl)) ?_
  refine D_step (Ei := [(10, _)]) rfl rfl (Srcs.cons (Src.op 0 rfl rfl) Srcs.nil) (S_plain rfl (op_call Tryz.call74 c_Ports ⟨(Has.t rfl), trivial⟩)) ?_
  refine D_step (Ei := [(1, _)]) rfl rfl (Srcs.cons (Src.pre rfl rfl) Srcs.nil) (S_plain rfl (op_ldBA Tryz.isAgg33 Tryz.sizeOf33 (Has.t rfl) (i := 1) rfl rfl rfl)) ?_
  refine D_done mixed rfl (by kernel_rfl) (F_val (F_val (F_val (F_nil ?_))))
  refine R_op rfl rfl rfl (op_call Tryz.call74 c_Ports ⟨(Has.t rfl), trivial⟩) ?_
  refine R_call0 Tryz.call99 (c_zerosO (n := z.length) (by omega)) ⟨(Has.t rfl), (Has.t rfl), trivial⟩ rfl (fun B14 _ => ?_)
  refine R_op rfl rfl rfl (op_assign (Has.t rfl)) ?_
  refine R_nil ?_
  refine T_seq ?_
  refine T_seq ?_
  refine T_region ?_
  refine R_op rfl rfl rfl (op_ldBA Tryz.isAgg33 Tryz.sizeOf33 (Has.t rfl) (i := 1) rfl rfl rfl) ?_
  refine R_op rfl rfl rfl (op_call Tryz.call167 (c_refs (by omega)) ⟨(Has.t rfl), trivial⟩) ?_
  refine R_op rfl rfl rfl (op_len Tryz.runUnderlying30 (Has.t rfl) len_map) ?_
  refine R_op rfl rfl rfl (op_move (Has.cN 0)) ?_
  refine R_nil ?_
  refine T_block ?_
  refine T_loop (fun (i : Nat) => i ≤ z.length) (fun (i : Nat) => z.length - i) (fun (i : Nat) => [(1, PtrB B1 0), (3, Is (.slice (some ⟨B14, 0, none⟩) z.length z.length)), (16, NumsT z), (17, NT .i64 z.length), (18, NT .i64 i)]) (fun (i : Nat) => [Z, box B1 33 [NumsT z, NumM s], matP exactH B14 30 49 5 (FRow NumT (mixT (fun i => (tab z.length fun _ => Qi.zero).set i (gv z i)) (tab z.length fun _ => Qi.zero) z.length i))]) 0 (Nat.zero_le _)
    (Sub.cons rfl (Sub.cons rfl (Sub.cons rfl (Sub.cons rfl (Sub.cons rfl Sub.nil))))) (HSub.cons (fun _ _ _ h => h) (HSub.cons (fun _ _ _ h => h) (HSub.cons (matO_of (by rw [zeroM, mix_zero])) HSub.nil))) (fun i hi => ?_)
  refine T_seq ?_
  refine T_region ?_
  refine R_op rfl rfl rfl (op_lssN (Has.t rfl) (Has.t rfl)) ?_
  refine R_nil ?_
  refine T_seq ?_
  refine T_cond (Has.t rfl) (fun hd => ?_) (fun hd => ?_)
  · simp only [decide_eq_true_eq] at hd
    have hzl := tab_len z.length fun _ => Qi.zero
    refine T_focusE 2 (i) rfl (frow_mix hd) (fun v hv => ?_)
    refine T_skip ?_
    refine T_seq ?_
    refine T_block ?_
    refine T_seq ?_
    refine T_region ?_
    refine R_op rfl rfl rfl (op_move (Has.t rfl)) ?_
    refine R_op rfl rfl rfl (op_idx Tryz.runUnderlying30 Tryz.sizeOf49 (Has.t rfl) (Has.t rfl) rfl (map_get (getD_some (d := Qi.zero) hd))) ?_
    refine R_op rfl rfl rfl (op_ld Tryz.isAgg49 Tryz.sizeOf49 (Has.t rfl)) ?_
    refine R_new rfl rfl rfl (new_alloc (Ts := [Is (.bool false), Is (.slice none 0 0), Is (.bool false), Is (.slice none 0 0), Is (.slice none 0 0)]) Tryz.zeroValue49 rfl (fun V => Cells.cons' ⟨rfl, trivial⟩ (Cells.cons' ⟨rfl, trivial⟩ (Cells.cons' ⟨rfl, trivial⟩ (Cells.cons' ⟨rfl, trivial⟩ (Cells.cons' ⟨rfl, trivial⟩ (Cells.nil))))))) (fun B5 => ?_)
    refine R_op rfl rfl rfl (op_assign (Has.t rfl)) ?_
    refine R_stA Tryz.sizeOf49 (Has.t rfl) (Has.t rfl) rfl (i := 4) rfl (Nat.le_of_ble_eq_true rfl) rfl rfl ?_
    refine R_nil ?_
    refine D_start (m := 7) ?_
    refine D_step (Ei := [(3, _)]) rfl rfl (Srcs.cons (Src.pre rfl rfl) Srcs.nil) (S_plain rfl (op_move (Has.t rfl))) ?_
    refine D_step (Ei := [(4, _)]) rfl rfl (Srcs.cons (Src.pre rfl rfl) Srcs.nil) (S_plain rfl (op_move (Has.t rfl))) ?_
    refine D_step (Ei := [(23, _), (24, _)]) rfl rfl (Srcs.cons (Src.op 0 rfl rfl) (Srcs.cons (Src.op 1 rfl rfl) Srcs.nil)) (S_plain rfl (op_idxB Tryz.runUnderlying31 Tryz.sizeOf30 (Has.t rfl) (Has.t rfl) rfl (by omega) (by rw [Nat.mul_one, Nat.zero_add]))) ?_
    refine D_step (Ei := [(25, _)]) rfl rfl (Srcs.cons (Src.op 2 rfl rfl) Srcs.nil) (S_plain rfl (op_ldH Tryz.isAgg30 Tryz.sizeOf30 (Has.t rfl) (j := 2) rfl)) ?_
    refine D_step (Ei := [(4, _)]) rfl rfl (Srcs.cons (Src.pre rfl rfl) Srcs.nil) (S_plain rfl (op_move (Has.t rfl))) ?_
    refine D_step (Ei := [(5, _)]) rfl rfl (Srcs.cons (Src.pre rfl rfl) Srcs.nil) (S_plain rfl (op_ldBA Tryz.isAgg49 Tryz.sizeOf49 (Has.t rfl) (i := 4) rfl rfl rfl)) ?_
    refine D_step (Ei := [(28, _)]) rfl rfl (Srcs.cons (Src.op 5 rfl rfl) Srcs.nil) (S_plain rfl (op_call Tryz.call81 c_of ⟨(Has.t rfl), trivial⟩)) ?_
    refine D_done mixed rfl (by kernel_rfl) (F_val (F_val (F_val (F_val (F_val (F_val (F_val (F_nil ?_))))))))
    refine R_op rfl rfl rfl (op_idxO Tryz.runUnderlying30 Tryz.sizeOf49 (Has.t rfl) (Has.t rfl) rfl (i := 3) rfl (by simp only [List.length_map, tab_len]; omega) rfl) ?_
    refine R_stO Tryz.sizeOf49 (Has.t rfl) (Has.t rfl) (El.ag rfl) (i := 3) rfl rfl (by simp only [List.length_map, tab_len]; omega) rfl ?_
    refine R_nil ?_
    refine T_blk ?_
    refine T_unfocus 2 3 rfl rfl (by decide) (by simp only [FRow, List.length_map, mix_len]; omega) ?_
    refine T_region ?_
    refine R_op rfl rfl rfl (op_addN (Has.t rfl) (Has.cN 1) (by show _ < 9223372036854775808; first | omega | (simp only [lim]; omega))) ?_
    refine R_op rfl rfl rfl (op_move (Has.t rfl)) ?_
    refine R_nil ?_
    refine T_keep [0, 1, 2] rfl (by decide) ?_
    refine T_again (i + 1) hd (by omega) (Sub.cons rfl (Sub.cons rfl (Sub.cons rfl (Sub.cons rfl (Sub.cons rfl Sub.nil))))) (HSub.cons (fun _ _ _ h => h) (HSub.cons (fun _ _ _ h => h) (HSub.cons (matO_of (by rw [← mix_set (f := (fun i => (tab z.length fun _ => Qi.zero).set i (gv z i))), ← set_FRow, ← set_mapF])) HSub.nil)))
  · simp only [decide_eq_false_iff_not] at hd
    obtain rfl : i = z.length := Nat.le_antisymm hi (by omega)
    rw [mix_fin]
    refine T_exit rfl ?_
    refine T_seq ?_
    refine T_region ?_
    refine R_op rfl rfl rfl (op_ldBA Tryz.isAgg33 Tryz.sizeOf33 (Has.t rfl) (i := 1) rfl rfl rfl) ?_
    refine R_op rfl rfl rfl (op_call Tryz.call80 (c_scat hsh hl) ⟨(Has.t rfl), trivial⟩) ?_
    refine R_op rfl rfl rfl (op_move (Has.t rfl)) ?_
    refine R_lend Tryz.call82 (c_carO (p := s) (c := diagM z) (n := z.length) (m := z.length) (L := L) hsh hD hs hDf hL1 (by omega) hl1 hl1 hl hl) (j := 2) (tt := 34) rfl rfl (frz_matF (s := 5) (M := diagM z) hD.1.symm) noiMat (fun _ => inferInstance) (fun _ B hB => by simp only [List.mem_singleton] at hB; subst hB; exact sinsMatF) ⟨(Has.t rfl), (Has.t rfl), trivial⟩ rfl (fun B35 _ => ?_)
    refine R_op rfl rfl rfl (op_assign (Has.t rfl)) ?_
    refine R_nil ?_
    refine T_seq ?_
    refine T_seq ?_
    refine T_freeze (i := 3) (tt := 6) rfl rfl (frz_matF (s := 5) (M := carM s (diagM z)) (hX.1.trans hsl).symm) ?_
    refine T_region ?_
    refine R_op rfl rfl rfl (op_move (Has.t rfl)) ?_
    refine R_op rfl rfl rfl (op_len Tryz.runUnderlying31 (Has.t rfl) len_map) ?_
    refine R_op rfl rfl rfl (op_move (Has.cN 0)) ?_
    refine R_nil ?_
    refine T_block ?_
    refine T_keep [0, 2] rfl (by decide) ?_
    refine T_loop (fun (i : Nat) => i ≤ z.length) (fun (i : Nat) => z.length - i) (fun (i : Nat) => [(3, Is (.slice (some ⟨B14, 0, none⟩) z.length z.length)), (36, NumM (carM s (diagM z))), (37, NT .i64 z.length), (38, NT .i64 i)]) (fun (i : Nat) => [Z, matP exactH B14 30 49 5 (FRow NumT (mixG (fun i => tab z.length fun j => gm (diagM z) i j - gm (carM s (diagM z)) i j) (fun i => tab z.length fun j => gm (diagM z) i j) z.length i))]) 0 (Nat.zero_le _)
      (Sub.cons rfl (Sub.cons rfl (Sub.to rfl (nt_of (hX.1.trans hsl)) (Sub.cons rfl Sub.nil)))) (HSub.cons (fun _ _ _ h => h) (HSub.cons (matO_of (by rw [← mixG_zero]; exact congrArg _ (mat_tab hD))) HSub.nil)) (fun i hi => ?_)
    refine T_seq ?_
    refine T_region ?_
    refine R_op rfl rfl rfl (op_lssN (Has.t rfl) (Has.t rfl)) ?_
    refine R_nil ?_
    refine T_seq ?_
    refine T_cond (Has.t rfl) (fun he => ?_) (fun he => ?_)
    · simp only [decide_eq_true_eq] at he
      have hxr := hX.row (i := i) (by omega)
      refine T_focusE 1 (i) rfl (frow_mixG he) (fun v hv => ?_)
      refine T_skip ?_
      refine T_seq ?_
      refine T_block ?_
      refine T_seq ?_
      refine T_region ?_
      refine R_op rfl rfl rfl (op_move (Has.t rfl)) ?_
      refine R_op rfl rfl rfl (op_idx Tryz.runUnderlying31 Tryz.sizeOf30 (Has.t rfl) (Has.t rfl) rfl (map_get (getD_some (d := []) (by rw [hX.1]; omega)))) ?_
      refine R_op rfl rfl rfl (op_ld Tryz.isAgg30 Tryz.sizeOf30 (Has.t rfl)) ?_
      refine R_op rfl rfl rfl (op_assign (Has.t rfl)) ?_
      refine R_op rfl rfl rfl (op_assign (Has.t rfl)) ?_
      refine R_nil ?_
      refine T_seq ?_
      refine T_region ?_
      refine R_op rfl rfl rfl (op_move (Has.t rfl)) ?_
      refine R_op rfl rfl rfl (op_len Tryz.runUnderlying30 (Has.t rfl) len_map) ?_
      refine R_op rfl rfl rfl (op_move (Has.cN 0)) ?_
      refine R_nil ?_
      refine T_block ?_
      refine T_loop (fun (j : Nat) => j ≤ z.length) (fun (j : Nat) => z.length - j) (fun (j : Nat) => [(3, Is (.slice (some ⟨B14, 0, none⟩) z.length z.length)), (7, NT .i64 i), (8, NumsT ((carM s (diagM z)).getD i [])), (36, NumM (carM s (diagM z))), (37, NT .i64 z.length), (38, NT .i64 i), (44, NT .i64 z.length), (45, NT .i64 j)]) (fun (j : Nat) => [Z, matQ exactH B14 30 49 5 (FRow NumT (mixG (fun i => tab z.length fun j => gm (diagM z) i j - gm (carM s (diagM z)) i j) (fun i => tab z.length fun j => gm (diagM z) i j) z.length i)) i v, rowO 49 5 v ((mixG (fun j => gm (diagM z) i j - gm (carM s (diagM z)) i j) (fun j => gm (diagM z) i j) z.length j).map NumT)]) 0 (Nat.zero_le _)
        (Sub.cons rfl (Sub.cons rfl (Sub.cons rfl (Sub.cons rfl (Sub.cons rfl (Sub.cons rfl (Sub.to rfl (nt_of (hxr.trans hsl)) (Sub.cons rfl Sub.nil)))))))) (HSub.cons (fun _ _ _ h => h) (HSub.cons (fun _ _ _ h => h) (HSub.cons (rowO_of (by rw [← mixG_zero])) HSub.nil))) (fun j hj => ?_)
      refine T_seq ?_
      refine T_region ?_
      refine R_op rfl rfl rfl (op_lssN (Has.t rfl) (Has.t rfl)) ?_
      refine R_nil ?_
      refine T_seq ?_
      refine T_cond (Has.t rfl) (fun hf => ?_) (fun hf => ?_)
      · simp only [decide_eq_true_eq] at hf
        have hrl := mixG_len (fun j => gm (diagM z) i j - gm (carM s (diagM z)) i j) (fun j => gm (diagM z) i j) z.length j
        haveI f1 : FitC (gm (diagM z) i j) L := hDf.get hL1 i j
        haveI f2 : FitC (gm (carM s (diagM z)) i j) (200 * L + 300) := hXf.get (by omega) i j
        refine T_skip ?_
        refine T_seq ?_
        refine T_block ?_
        refine T_seq ?_
        refine T_region ?_
        refine R_op rfl rfl rfl (op_move (Has.t rfl)) ?_
        refine R_op rfl rfl rfl (op_assign (Has.t rfl)) ?_
        refine R_nil ?_
        refine D_start (m := 18) ?_
        refine D_step (Ei := [(3, _)]) rfl rfl (Srcs.cons (Src.pre rfl rfl) Srcs.nil) (S_plain rfl (op_move (Has.t rfl))) ?_
        refine D_step (Ei := [(7, _)]) rfl rfl (Srcs.cons (Src.pre rfl rfl) Srcs.nil) (S_plain rfl (op_move (Has.t rfl))) ?_
        refine D_step (Ei := [(48, _), (49, _)]) rfl rfl (Srcs.cons (Src.op 0 rfl rfl) (Srcs.cons (Src.op 1 rfl rfl) Srcs.nil)) (S_plain rfl (op_idxB Tryz.runUnderlying31 Tryz.sizeOf30 (Has.t rfl) (Has.t rfl) rfl (by omega) (by rw [Nat.mul_one, Nat.zero_add]))) ?_
        refine D_step (Ei := [(50, _)]) rfl rfl (Srcs.cons (Src.op 2 rfl rfl) Srcs.nil) (S_plain rfl (op_ldH Tryz.isAgg30 Tryz.sizeOf30 (Has.t rfl) (j := 1) rfl)) ?_
        refine D_step (Ei := [(9, _)]) rfl rfl (Srcs.cons (Src.pre rfl rfl) Srcs.nil) (S_plain rfl (op_move (Has.t rfl))) ?_
        refine D_step (Ei := [(3, _)]) rfl rfl (Srcs.cons (Src.pre rfl rfl) Srcs.nil) (S_plain rfl (op_move (Has.t rfl))) ?_
        refine D_step (Ei := [(7, _)]) rfl rfl (Srcs.cons (Src.pre rfl rfl) Srcs.nil) (S_plain rfl (op_move (Has.t rfl))) ?_
        refine D_step (Ei := [(53, _), (54, _)]) rfl rfl (Srcs.cons (Src.op 5 rfl rfl) (Srcs.cons (Src.op 6 rfl rfl) Srcs.nil)) (S_plain rfl (op_idxB Tryz.runUnderlying31 Tryz.sizeOf30 (Has.t rfl) (Has.t rfl) rfl (by omega) (by rw [Nat.mul_one, Nat.zero_add]))) ?_
        refine D_step (Ei := [(55, _)]) rfl rfl (Srcs.cons (Src.op 7 rfl rfl) Srcs.nil) (S_plain rfl (op_ldH Tryz.isAgg30 Tryz.sizeOf30 (Has.t rfl) (j := 1) rfl)) ?_
        refine D_step (Ei := [(9, _)]) rfl rfl (Srcs.cons (Src.pre rfl rfl) Srcs.nil) (S_plain rfl (op_move (Has.t rfl))) ?_
        refine D_step (Ei := [(56, _), (57, _)]) rfl rfl (Srcs.cons (Src.op 8 rfl rfl) (Srcs.cons (Src.op 9 rfl rfl) Srcs.nil)) (S_plain rfl (op_idxO Tryz.runUnderlying30 Tryz.sizeOf49 (Has.t rfl) (Has.t rfl) rfl (i := 2) rfl (by simp only [List.length_map, hrl]; omega) rfl)) ?_
        refine D_step (Ei := [(58, _)]) rfl rfl (Srcs.cons (Src.op 10 rfl rfl) Srcs.nil) (S_plain rfl (op_ldO Tryz.isAgg49 Tryz.sizeOf49 (Has.t rfl) (i := 2) rfl rfl (map_get (mixG_get hf)))) ?_
        refine D_step (Ei := [(59, _)]) rfl rfl (Srcs.cons (Src.op 11 rfl rfl) Srcs.nil) (S_plain rfl (op_iface mkif_49 (Has.t rfl))) ?_
        refine D_step (Ei := [(8, _)]) rfl rfl (Srcs.cons (Src.pre rfl rfl) Srcs.nil) (S_plain rfl (op_move (Has.t rfl))) ?_
        refine D_step (Ei := [(9, _)]) rfl rfl (Srcs.cons (Src.pre rfl rfl) Srcs.nil) (S_plain rfl (op_move (Has.t rfl))) ?_
        refine D_step (Ei := [(61, _), (62, _)]) rfl rfl (Srcs.cons (Src.op 13 rfl rfl) (Srcs.cons (Src.op 14 rfl rfl) Srcs.nil)) (S_plain rfl (op_idx Tryz.runUnderlying30 Tryz.sizeOf49 (Has.t rfl) (Has.t rfl) rfl (map_get (getD_some (d := Qi.zero) (by rw [hxr]; omega))))) ?_
        refine D_step (Ei := [(63, _)]) rfl rfl (Srcs.cons (Src.op 15 rfl rfl) Srcs.nil) (S_plain rfl (op_ld Tryz.isAgg49 Tryz.sizeOf49 (Has.t rfl))) ?_
        refine D_step (Ei := [(60, _), (64, _)]) rfl rfl (Srcs.cons (Src.op 12 rfl rfl) (Srcs.cons (Src.op 16 rfl rfl) Srcs.nil)) (S_plain rfl (op_invoke meth_49_Sub Tryz.call58 (c_Sub (by omega)) (Has.t rfl) ⟨(Has.t rfl), trivial⟩)) ?_
        refine D_done mixed rfl (by kernel_rfl) (F_val (F_val (F_val (F_val (F_val (F_val (F_val (F_val (F_val (F_val (F_val (F_val (F_val (F_val (F_val (F_val (F_val (F_val (F_nil ?_)))))))))))))))))))
        refine R_op rfl rfl rfl (op_idxO Tryz.runUnderlying30 Tryz.sizeOf49 (Has.t rfl) (Has.t rfl) rfl (i := 2) rfl (by simp only [List.length_map, hrl]; omega) rfl) ?_
        refine R_stO Tryz.sizeOf49 (Has.t rfl) (Has.t rfl) (El.ag rfl) (i := 2) rfl rfl (by simp only [List.length_map, hrl]; omega) rfl ?_
        refine R_nil ?_
        refine T_blk ?_
        refine T_region ?_
        refine R_op rfl rfl rfl (op_addN (Has.t rfl) (Has.cN 1) (by show _ < 9223372036854775808; first | omega | (simp only [lim]; omega))) ?_
        refine R_op rfl rfl rfl (op_move (Has.t rfl)) ?_
        refine R_nil ?_
        refine T_again (j + 1) hf (by omega) (Sub.cons rfl (Sub.cons rfl (Sub.cons rfl (Sub.cons rfl (Sub.cons rfl (Sub.cons rfl (Sub.cons rfl (Sub.cons rfl Sub.nil)))))))) (HSub.cons (fun _ _ _ h => h) (HSub.cons (fun _ _ _ h => h) (HSub.cons (rowO_of (by rw [set_mapF, ← mixG_set (f := fun j => gm (diagM z) i j - gm (carM s (diagM z)) i j)])) HSub.nil)))
      · simp only [decide_eq_false_iff_not] at hf
        obtain rfl : j = z.length := Nat.le_antisymm hj (by omega)
        refine T_exit rfl ?_
        refine T_blk ?_
        refine T_unfocus 1 2 rfl rfl (by decide) (by simp only [FRow, List.length_map, mixG_len]; omega) ?_
        refine T_region ?_
        refine R_op rfl rfl rfl (op_addN (Has.t rfl) (Has.cN 1) (by show _ < 9223372036854775808; first | omega | (simp only [lim]; omega))) ?_
        refine R_op rfl rfl rfl (op_move (Has.t rfl)) ?_
        refine R_nil ?_
        refine T_keep [0, 1] rfl (by decide) ?_
        refine T_again (i + 1) he (by omega) (Sub.cons rfl (Sub.cons rfl (Sub.cons rfl (Sub.cons rfl Sub.nil)))) (HSub.cons (fun _ _ _ h => h) (HSub.cons (matO_of (by rw [set_FRow, mixG_fin, ← mixG_set (f := (fun i => tab z.length fun j => gm (diagM z) i j - gm (carM s (diagM z)) i j))])) HSub.nil))
    · simp only [decide_eq_false_iff_not] at he
      obtain rfl : i = z.length := Nat.le_antisymm hi (by omega)
      refine T_exit rfl ?_
      refine T_seq ?_
      refine T_region ?_
      refine R_op rfl rfl rfl (op_move (Has.t rfl)) ?_
      refine R_op rfl rfl rfl (op_assign (Has.t rfl)) ?_
      refine R_nil ?_
      exact T_retO B14 trivial [0, 1] ⟨⟨_, rfl, fun _ _ _ h => h⟩, ⟨_, rfl, (matO_of (by rw [mixG_fin]; rfl))⟩, trivial⟩ (by decide) (rvs1 rfl (rv_tmp rfl))
set_option maxRecDepth 20000 in
theorem c_Own {z : List Qi} {s : List (List Qi)} {t : Qi} {L : Nat} (hz : FitL z L) (hs : FitM s L) (ht : FitC t L) (hL1 : 1 ≤ L) (hL : L ≤ 4000) (hsh : Shp s z.length z.length) (hl1 : 1 ≤ z.length) (hl : z.length ≤ 8) : Fun Tryz.prog 22 [NetT z s, NumT t] (TupT [NoisyT (okL (wrmE t) z) (okL (wrmE t) s) (okL (wrmE t) (scaM t (ownM z s) z.length)), IntT .i64 (wrmE t)]) := by
  haveI := ht
  have hOs := ownM_shp z s
  have hOf := ownM_fit hz hs hL1 hl
  refine Fun.intro Tryz.func22 rfl Tryz.ntmps22 rfl (fun cx => ?_)
  refine T_seq ?_
  refine T_region ?_
  refine R_new rfl rfl rfl (new_box (Has.t rfl)) (fun B2 => ?_)
  refine R_new rfl rfl rfl (new_box (Has.t rfl)) (fun B3 => ?_)
  refine R_new rfl rfl rfl (new_alloc (Ts := [Is (.slice none 0 0), Is (.slice none 0 0), Is (.slice none 0 0)]) Tryz.zeroValue35 rfl (fun V => Cells.cons' ⟨rfl, trivial⟩ (Cells.cons' ⟨rfl, trivial⟩ (Cells.cons' ⟨rfl, trivial⟩ (Cells.nil))))) (fun B4 => ?_)
  refine R_op rfl rfl rfl (op_assign (Has.cN 0)) ?_
  refine R_nil ?_
  refine T_seq ?_
  refine T_seq ?_
  refine T_region ?_
  refine R_op rfl rfl rfl (op_ldBA Tryz.isAgg49 Tryz.sizeOf49 (Has.t rfl) (i := 1) rfl rfl rfl) ?_
  refine R_op rfl rfl rfl (op_call Tryz.call95 (c_warm (by omega)) ⟨(Has.t rfl), trivial⟩) ?_
  refine R_op rfl rfl rfl (op_not (Has.t rfl)) ?_
  refine R_nil ?_
  refine T_cond (Has.t rfl) (fun hb => ?_) (fun hb => ?_)
  · have he : wrmE t ≠ 0 := by simp only [Bool.not_eq_true'] at hb; rw [wrmE, hb]; decide
    have he1 : wrmE t = 1 := by simp only [Bool.not_eq_true'] at hb; rw [wrmE, hb]; rfl
    refine T_seq ?_
    refine T_region ?_
    refine R_op rfl rfl rfl (OpTy.imp (bld_35_ ) noisy_nil) ?_
    refine R_stA Tryz.sizeOf35 (Has.t rfl) (Has.t rfl) rfl (i := 2) rfl (Nat.le_of_ble_eq_true rfl) rfl rfl ?_
    refine R_op rfl rfl rfl (op_assign (Has.cN 1)) ?_
    refine R_nil ?_
    refine T_ret2 rfl (rv_to (rv_cell Tryz.isAgg35 Tryz.sizeOf35 rfl (i := 2) rfl rfl) ?_) (rv_to (rv_tmp rfl) ?_)
    · exact (own_bad he)
    · exact (int_of he1.symm)
  · have he : wrmE t = 0 := by simp only [Bool.not_eq_false'] at hb; rw [wrmE, hb]; rfl
    refine T_skip ?_
    refine T_seq ?_
    refine T_region ?_
    refine R_op rfl rfl rfl (op_ldBA Tryz.isAgg33 Tryz.sizeOf33 (Has.t rfl) (i := 0) rfl rfl rfl) ?_
    refine R_call0 Tryz.call96 (c_thermO hz hs hL1 hL hsh hl1 hl) ⟨(Has.t rfl), trivial⟩ rfl (fun B15 _ => ?_)
    refine R_op rfl rfl rfl (op_assign (Has.t rfl)) ?_
    refine R_nil ?_
    refine T_seq ?_
    refine T_seq ?_
    refine T_region ?_
    refine R_op rfl rfl rfl (op_move (Has.t rfl)) ?_
    refine R_op rfl rfl rfl (op_lenI Tryz.runUnderlying31 (Has.t rfl)) ?_
    refine R_op rfl rfl rfl (op_move (Has.cN 0)) ?_
    refine R_nil ?_
    refine T_block ?_
    refine T_loop (fun (i : Nat) => i ≤ z.length) (fun (i : Nat) => z.length - i) (fun (i : Nat) => [(2, PtrB B2 0), (3, PtrB B3 0), (4, PtrB B4 0), (6, Is (.slice (some ⟨B15, 0, none⟩) z.length z.length)), (16, Is (.slice (some ⟨B15, 0, none⟩) z.length z.length)), (17, NT .i64 z.length), (18, NT .i64 i)]) (fun (i : Nat) => [box B2 33 [NumsT z, NumM s], box B3 49 [BoolT (decide (t.a < 0)), NatT t.a.natAbs, BoolT (decide (t.b < 0)), NatT t.b.natAbs, NatT (du t)], box B4 35 [Is (.slice none 0 0), Is (.slice none 0 0), Is (.slice none 0 0)], matP exactH B15 30 49 5 (FRow NumT (mixG (fun i => tab z.length fun j => t * gm (ownM z s) i j) (fun i => tab z.length fun j => gm (ownM z s) i j) z.length i))]) 0 (Nat.zero_le _)
      (Sub.cons rfl (Sub.cons rfl (Sub.cons rfl (Sub.cons rfl (Sub.cons rfl (Sub.cons rfl (Sub.cons rfl Sub.nil))))))) (HSub.cons (fun _ _ _ h => h) (HSub.cons (fun _ _ _ h => h) (HSub.cons (fun _ _ _ h => h) (HSub.cons (matO_of (by rw [← mixG_zero]; exact congrArg _ (mat_tab hOs))) HSub.nil)))) (fun i hi => ?_)
    refine T_seq ?_
    refine T_region ?_
    refine R_op rfl rfl rfl (op_lssN (Has.t rfl) (Has.t rfl)) ?_
    refine R_nil ?_
    refine T_seq ?_
    refine T_cond (Has.t rfl) (fun he2 => ?_) (fun he2 => ?_)
    · simp only [decide_eq_true_eq] at he2
      refine T_focusE 3 (i) rfl (frow_mixG he2) (fun v hv => ?_)
      refine T_skip ?_
      refine T_seq ?_
      refine T_block ?_
      refine T_seq ?_
      refine T_region ?_
      refine R_op rfl rfl rfl (op_idxB Tryz.runUnderlying31 Tryz.sizeOf30 (Has.t rfl) (Has.t rfl) rfl (by omega) (by rw [Nat.mul_one, Nat.zero_add])) ?_
      refine R_op rfl rfl rfl (op_ldH Tryz.isAgg30 Tryz.sizeOf30 (Has.t rfl) (j := 3) rfl) ?_
      refine R_op rfl rfl rfl (op_assign (Has.t rfl)) ?_
      refine R_nil ?_
      refine T_seq ?_
      refine T_region ?_
      refine R_op rfl rfl rfl (op_move (Has.t rfl)) ?_
      refine R_op rfl rfl rfl (op_lenO Tryz.runUnderlying30 (Has.t rfl) (i := 4) rfl (show (((tab z.length fun j => gm (ownM z s) i j).map NumT).length : Int) = ((z.length : Nat) : Int) by rw [List.length_map, tab_len])) ?_
      refine R_op rfl rfl rfl (op_move (Has.cN 0)) ?_
      refine R_nil ?_
      refine T_block ?_
      refine T_loop (fun (j : Nat) => j ≤ z.length) (fun (j : Nat) => z.length - j) (fun (j : Nat) => [(2, PtrB B2 0), (3, PtrB B3 0), (4, PtrB B4 0), (6, Is (.slice (some ⟨B15, 0, none⟩) z.length z.length)), (8, Is v), (16, Is (.slice (some ⟨B15, 0, none⟩) z.length z.length)), (17, NT .i64 z.length), (18, NT .i64 i), (23, NT .i64 z.length), (24, NT .i64 j)]) (fun (j : Nat) => [box B2 33 [NumsT z, NumM s], box B3 49 [BoolT (decide (t.a < 0)), NatT t.a.natAbs, BoolT (decide (t.b < 0)), NatT t.b.natAbs, NatT (du t)], box B4 35 [Is (.slice none 0 0), Is (.slice none 0 0), Is (.slice none 0 0)], matQ exactH B15 30 49 5 (FRow NumT (mixG (fun i => tab z.length fun j => t * gm (ownM z s) i j) (fun i => tab z.length fun j => gm (ownM z s) i j) z.length i)) i v, rowO 49 5 v ((mixG (fun j => t * gm (ownM z s) i j) (fun j => gm (ownM z s) i j) z.length j).map NumT)]) 0 (Nat.zero_le _)
        (Sub.cons rfl (Sub.cons rfl (Sub.cons rfl (Sub.cons rfl (Sub.cons rfl (Sub.cons rfl (Sub.cons rfl (Sub.cons rfl (Sub.cons rfl (Sub.cons rfl Sub.nil)))))))))) (HSub.cons (fun _ _ _ h => h) (HSub.cons (fun _ _ _ h => h) (HSub.cons (fun _ _ _ h => h) (HSub.cons (fun _ _ _ h => h) (HSub.cons (rowO_of (by rw [← mixG_zero])) HSub.nil))))) (fun j hj => ?_)
      refine T_seq ?_
      refine T_region ?_
      refine R_op rfl rfl rfl (op_lssN (Has.t rfl) (Has.t rfl)) ?_
      refine R_nil ?_
      refine T_seq ?_
      refine T_cond (Has.t rfl) (fun hf => ?_) (fun hf => ?_)
      · simp only [decide_eq_true_eq] at hf
        have hrl := mixG_len (fun j => t * gm (ownM z s) i j) (fun j => gm (ownM z s) i j) z.length j
        haveI f1 : FitC (gm (ownM z s) i j) (201 * L + 301) := hOf.get (by omega) i j
        refine T_skip ?_
        refine T_seq ?_
        refine T_block ?_
        refine T_seq ?_
        refine T_region ?_
        refine R_op rfl rfl rfl (op_move (Has.t rfl)) ?_
        refine R_op rfl rfl rfl (op_assign (Has.t rfl)) ?_
        refine R_nil ?_
        refine D_start (m := 10) ?_
        refine D_step (Ei := [(8, _)]) rfl rfl (Srcs.cons (Src.pre rfl rfl) Srcs.nil) (S_plain rfl (op_move (Has.t rfl))) ?_
        refine D_step (Ei := [(9, _)]) rfl rfl (Srcs.cons (Src.pre rfl rfl) Srcs.nil) (S_plain rfl (op_move (Has.t rfl))) ?_
        refine D_step (Ei := [(3, _)]) rfl rfl (Srcs.cons (Src.pre rfl rfl) Srcs.nil) (S_plain rfl (op_ldBA Tryz.isAgg49 Tryz.sizeOf49 (Has.t rfl) (i := 1) rfl rfl rfl)) ?_
        refine D_step (Ei := [(29, _)]) rfl rfl (Srcs.cons (Src.op 2 rfl rfl) Srcs.nil) (S_plain rfl (op_call Tryz.call81 c_of ⟨(Has.t rfl), trivial⟩)) ?_
        refine D_step (Ei := [(30, _)]) rfl rfl (Srcs.cons (Src.op 3 rfl rfl) Srcs.nil) (S_plain rfl (op_iface mkif_49 (Has.t rfl))) ?_
        refine D_step (Ei := [(8, _)]) rfl rfl (Srcs.cons (Src.pre rfl rfl) Srcs.nil) (S_plain rfl (op_move (Has.t rfl))) ?_
        refine D_step (Ei := [(9, _)]) rfl rfl (Srcs.cons (Src.pre rfl rfl) Srcs.nil) (S_plain rfl (op_move (Has.t rfl))) ?_
        refine D_step (Ei := [(32, _), (33, _)]) rfl rfl (Srcs.cons (Src.op 5 rfl rfl) (Srcs.cons (Src.op 6 rfl rfl) Srcs.nil)) (S_plain rfl (op_idxO Tryz.runUnderlying30 Tryz.sizeOf49 (Has.t rfl) (Has.t rfl) rfl (i := 4) rfl (by simp only [List.length_map, hrl]; omega) rfl)) ?_
        refine D_step (Ei := [(34, _)]) rfl rfl (Srcs.cons (Src.op 7 rfl rfl) Srcs.nil) (S_plain rfl (op_ldO Tryz.isAgg49 Tryz.sizeOf49 (Has.t rfl) (i := 4) rfl rfl (map_get (mixG_get hf)))) ?_
        refine D_step (Ei := [(31, _), (35, _)]) rfl rfl (Srcs.cons (Src.op 4 rfl rfl) (Srcs.cons (Src.op 8 rfl rfl) Srcs.nil)) (S_plain rfl (op_invoke meth_49_Mul Tryz.call56 (c_Mul (by omega)) (Has.t rfl) ⟨(Has.t rfl), trivial⟩)) ?_
        refine D_done mixed rfl (by kernel_rfl) (F_val (F_val (F_val (F_val (F_val (F_val (F_val (F_val (F_val (F_val (F_nil ?_)))))))))))
        refine R_op rfl rfl rfl (op_idxO Tryz.runUnderlying30 Tryz.sizeOf49 (Has.t rfl) (Has.t rfl) rfl (i := 4) rfl (by simp only [List.length_map, hrl]; omega) rfl) ?_
        refine R_stO Tryz.sizeOf49 (Has.t rfl) (Has.t rfl) (El.ag rfl) (i := 4) rfl rfl (by simp only [List.length_map, hrl]; omega) rfl ?_
        refine R_nil ?_
        refine T_blk ?_
        refine T_region ?_
        refine R_op rfl rfl rfl (op_addN (Has.t rfl) (Has.cN 1) (by show _ < 9223372036854775808; first | omega | (simp only [lim]; omega))) ?_
        refine R_op rfl rfl rfl (op_move (Has.t rfl)) ?_
        refine R_nil ?_
        refine T_again (j + 1) hf (by omega) (Sub.cons rfl (Sub.cons rfl (Sub.cons rfl (Sub.cons rfl (Sub.cons rfl (Sub.cons rfl (Sub.cons rfl (Sub.cons rfl (Sub.cons rfl (Sub.cons rfl Sub.nil)))))))))) (HSub.cons (fun _ _ _ h => h) (HSub.cons (fun _ _ _ h => h) (HSub.cons (fun _ _ _ h => h) (HSub.cons (fun _ _ _ h => h) (HSub.cons (rowO_of (by rw [set_mapF, ← mixG_set (f := fun j => t * gm (ownM z s) i j)])) HSub.nil)))))
      · simp only [decide_eq_false_iff_not] at hf
        obtain rfl : j = z.length := Nat.le_antisymm hj (by omega)
        refine T_exit rfl ?_
        refine T_blk ?_
        refine T_unfocus 3 4 rfl rfl (by decide) (by simp only [FRow, List.length_map, mixG_len]; omega) ?_
        refine T_region ?_
        refine R_op rfl rfl rfl (op_addN (Has.t rfl) (Has.cN 1) (by show _ < 9223372036854775808; first | omega | (simp only [lim]; omega))) ?_
        refine R_op rfl rfl rfl (op_move (Has.t rfl)) ?_
        refine R_nil ?_
        refine T_keep [0, 1, 2, 3] rfl (by decide) ?_
        refine T_again (i + 1) he2 (by omega) (Sub.cons rfl (Sub.cons rfl (Sub.cons rfl (Sub.cons rfl (Sub.cons rfl (Sub.cons rfl (Sub.cons rfl Sub.nil))))))) (HSub.cons (fun _ _ _ h => h) (HSub.cons (fun _ _ _ h => h) (HSub.cons (fun _ _ _ h => h) (HSub.cons (matO_of (by rw [set_FRow, mixG_fin, ← mixG_set (f := (fun i => tab z.length fun j => t * gm (ownM z s) i j))])) HSub.nil))))
    · simp only [decide_eq_false_iff_not] at he2
      obtain rfl : i = z.length := Nat.le_antisymm hi (by omega)
      rw [mixG_fin]
      refine T_exit rfl ?_
      refine T_seq ?_
      refine T_freeze (i := 3) (tt := 6) rfl rfl (frz_matF (s := 5) (M := (scaM t (ownM z s) z.length)) scaM_shp.1.symm) ?_
      refine T_region ?_
      refine R_op rfl rfl rfl (op_ldBA Tryz.isAgg33 Tryz.sizeOf33 (Has.t rfl) (i := 0) rfl rfl rfl) ?_
      refine R_op rfl rfl rfl (op_move (Has.t rfl)) ?_
      refine R_op rfl rfl rfl (bld_35_0_1 (Has.t rfl) (Has.t rfl)) ?_
      refine R_stA Tryz.sizeOf35 (Has.t rfl) (Has.t rfl) rfl (i := 2) rfl (Nat.le_of_ble_eq_true rfl) rfl rfl ?_
      refine R_op rfl rfl rfl (op_assign (Has.cN 0)) ?_
      refine R_nil ?_
      refine T_ret2 rfl (rv_to (rv_cell Tryz.isAgg35 Tryz.sizeOf35 rfl (i := 2) rfl rfl) ?_) (rv_to (rv_tmp rfl) ?_)
      · exact (own_good he)
      · exact (int_of he.symm)
end Go.Proofs.YtppibhcfaahgpaaGreat
namespace Go.Proofs.YtppibhcfaahgpaaGreat
open Go Go.RowKit
theorem bld_27_ {n : Nat} {E : Env} {H : Hp} {d : Option Tmp} {t : TypeId} {pos : String} {af : Array Edge} {g : Option (Nat × Bool)}  :
    OpTy Tryz.prog n E H ⟨d, .build 27 #[], t, pos, af, g⟩ (AggT [Is (.int .i64 0), Is (.int .i64 0), Is (.int .i64 0)]) :=
  op_build (parts := []) fun a V w hs => by
    refine ⟨.agg #[(.int .i64 0), (.int .i64 0), (.int .i64 0)], ?_, [(.int .i64 0), (.int .i64 0), (.int .i64 0)], rfl, Cells.cons' (⟨rfl, trivial⟩) (Cells.cons' (⟨rfl, trivial⟩) (Cells.cons' (⟨rfl, trivial⟩) (Cells.nil)))⟩
    simp [Instr.build, Instr.fill, Sem.run_bind, Result.andThen, cells_agg, Tryz.zeroValue27, Tryz.runUnderlying27, Tryz.sizeOf2]
theorem bld_27_0 {n : Nat} {E : Env} {H : Hp} {d : Option Tmp} {t : TypeId} {pos : String} {af : Array Edge} {g : Option (Nat × Bool)} {x0 : Operand} {T0 : Ty} [s0 : Shape T0 1 false] (h0 : Has E x0 T0) :
    OpTy Tryz.prog n E H ⟨d, .build 27 #[(0, x0)], t, pos, af, g⟩ (AggT [T0, Is (.int .i64 0), Is (.int .i64 0)]) :=
  op_build (parts := [(0, x0)]) fun a V w hs => by
    have p0 := h0 n V a hs
    generalize e0 : a.eval x0 = v0 at p0
    have q0 := (s0.ok v0 V p0).2.2 rfl
    refine ⟨.agg #[v0, (.int .i64 0), (.int .i64 0)], ?_, [v0, (.int .i64 0), (.int .i64 0)], rfl, Cells.cons' (⟨p0, q0⟩) (Cells.cons' (⟨rfl, trivial⟩) (Cells.cons' (⟨rfl, trivial⟩) (Cells.nil)))⟩
    simp [e0, Instr.build, Instr.fill, Sem.run_bind, Result.andThen, cells_agg, q0.cells, Tryz.zeroValue27, Tryz.runUnderlying27, Tryz.sizeOf2]
theorem bld_27_0_2 {n : Nat} {E : Env} {H : Hp} {d : Option Tmp} {t : TypeId} {pos : String} {af : Array Edge} {g : Option (Nat × Bool)} {x0 x2 : Operand} {T0 T2 : Ty} [s0 : Shape T0 1 false] (h0 : Has E x0 T0) [s2 : Shape T2 1 false] (h2 : Has E x2 T2) :
    OpTy Tryz.prog n E H ⟨d, .build 27 #[(0, x0), (2, x2)], t, pos, af, g⟩ (AggT [T0, Is (.int .i64 0), T2]) :=
  op_build (parts := [(0, x0), (2, x2)]) fun a V w hs => by
    have p0 := h0 n V a hs
    generalize e0 : a.eval x0 = v0 at p0
    have q0 := (s0.ok v0 V p0).2.2 rfl
    have p2 := h2 n V a hs
    generalize e2 : a.eval x2 = v2 at p2
    have q2 := (s2.ok v2 V p2).2.2 rfl
    refine ⟨.agg #[v0, (.int .i64 0), v2], ?_, [v0, (.int .i64 0), v2], rfl, Cells.cons' (⟨p0, q0⟩) (Cells.cons' (⟨rfl, trivial⟩) (Cells.cons' (⟨p2, q2⟩) (Cells.nil)))⟩
    simp [e0, e2, Instr.build, Instr.fill, Sem.run_bind, Result.andThen, cells_agg, q0.cells, q2.cells, Tryz.zeroValue27, Tryz.runUnderlying27, Tryz.sizeOf2]
end Go.Proofs.YtppibhcfaahgpaaGreat
namespace Go.Proofs.YtppibhcfaahgpaaGreat
open Go Go.RowKit
set_option maxHeartbeats 1000000 in
set_option maxRecDepth 20000 in
theorem c_awake  : Fun Tryz.prog 15 [] (BoolT true) := by
  refine Fun.intro Tryz.func15 rfl Tryz.ntmps15 rfl (fun cx => ?_)
  refine T_seq ?_
  refine T_region ?_
  refine R_op rfl rfl rfl (op_assign Has.c) ?_
  refine R_nil ?_
  refine T_seq ?_
  refine T_region ?_
  refine R_op rfl rfl rfl (bld_27_0_2 Has.c Has.c) ?_
  refine R_new rfl rfl rfl (new_alloc (Ts := [Is (.int .i64 0), Is (.int .i64 0), Is (.int .i64 0)]) Tryz.zeroValue27 rfl (fun V => Cells.cons' ⟨rfl, trivial⟩ (Cells.cons' ⟨rfl, trivial⟩ (Cells.cons' ⟨rfl, trivial⟩ (Cells.nil))))) (fun B1 => ?_)
  refine R_stA Tryz.sizeOf27 (Has.t rfl) (Has.t rfl) rfl (i := 0) rfl (Nat.le_of_ble_eq_true rfl) rfl rfl ?_
  refine R_nil ?_
  refine T_seq ?_
  refine Y.D_start (m := 18) [] ?_
  refine Y.D_hide (Ei := []) rfl rfl Y.Srcs.nil rfl rfl (S_plain rfl (bld_27_0 Has.c)) ?_
  refine Y.D_hide (Ei := []) rfl rfl Y.Srcs.nil rfl rfl (S_plain rfl (bld_27_0 Has.c)) ?_
  refine Y.D_hide (Ei := [(12, _), (13, _)]) rfl rfl (Y.Srcs.cons (Y.Src.op 0 rfl rfl) (Y.Srcs.cons (Y.Src.op 1 rfl rfl) Y.Srcs.nil)) rfl rfl (S_plain rfl (op_bslice (xs := [.tmp 12, .tmp 13]) Tryz.runUnderlying22 Tryz.sizeOf27 Tryz.zeroValue27 (Elems.cons (Has.t rfl) (Elems.cons (Has.t rfl) Elems.nil)) rfl rfl rfl)) ?_
  refine Y.D_hide (Ei := [(14, _)]) rfl rfl (Y.Srcs.cons (Y.Src.op 2 rfl rfl) Y.Srcs.nil) rfl rfl (S_plain rfl (op_call Tryz.call30 (c_lawList (l := [r50, r50]) (by decide)) ⟨(Has.t rfl), trivial⟩)) ?_
  refine Y.D_hide (Ei := []) rfl rfl Y.Srcs.nil rfl rfl (S_plain rfl (bld_27_ )) ?_
  refine Y.D_hide (Ei := [(1, _)]) rfl rfl (Y.Srcs.cons (Y.Src.pre rfl rfl) Y.Srcs.nil) rfl rfl (S_plain rfl (op_ldBA Tryz.isAgg27 Tryz.sizeOf27 (Has.t rfl) (i := 0) rfl rfl rfl)) ?_
  refine Y.D_hide (Ei := [(16, _), (17, _)]) rfl rfl (Y.Srcs.cons (Y.Src.op 4 rfl rfl) (Y.Srcs.cons (Y.Src.op 5 rfl rfl) Y.Srcs.nil)) rfl rfl (S_plain rfl (op_bslice (xs := [.tmp 16, .tmp 17]) Tryz.runUnderlying22 Tryz.sizeOf27 Tryz.zeroValue27 (Elems.cons (Has.t rfl) (Elems.cons (Has.t rfl) Elems.nil)) rfl rfl rfl)) ?_
  refine Y.D_hide (Ei := [(1, _)]) rfl rfl (Y.Srcs.cons (Y.Src.pre rfl rfl) Y.Srcs.nil) rfl rfl (S_plain rfl (op_ldBA Tryz.isAgg27 Tryz.sizeOf27 (Has.t rfl) (i := 0) rfl rfl rfl)) ?_
  refine Y.D_hide (Ei := []) rfl rfl Y.Srcs.nil rfl rfl (S_plain rfl (bld_27_ )) ?_
  refine Y.D_hide (Ei := [(19, _), (20, _)]) rfl rfl (Y.Srcs.cons (Y.Src.op 7 rfl rfl) (Y.Srcs.cons (Y.Src.op 8 rfl rfl) Y.Srcs.nil)) rfl rfl (S_plain rfl (op_bslice (xs := [.tmp 19, .tmp 20]) Tryz.runUnderlying22 Tryz.sizeOf27 Tryz.zeroValue27 (Elems.cons (Has.t rfl) (Elems.cons (Has.t rfl) Elems.nil)) rfl rfl rfl)) ?_
  refine Y.D_hide (Ei := [(18, _), (21, _)]) rfl rfl (Y.Srcs.cons (Y.Src.op 6 rfl rfl) (Y.Srcs.cons (Y.Src.op 9 rfl rfl) Y.Srcs.nil)) rfl rfl (S_plain rfl (op_bslice (xs := [.tmp 18, .tmp 21]) Tryz.runUnderlying23 Tryz.sizeOf22 Tryz.zeroValue22 (Elems.cons (Has.t rfl) (Elems.cons (Has.t rfl) Elems.nil)) rfl rfl rfl)) ?_
  refine Y.D_hide (Ei := [(22, _)]) rfl rfl (Y.Srcs.cons (Y.Src.op 10 rfl rfl) Y.Srcs.nil) rfl rfl (S_plain rfl (op_call Tryz.call31 (c_lawRows (m := [[rNil, rHalf], [rHalf, rNil]]) (by decide) (by intro r hr; simp at hr; rcases hr with rfl | rfl <;> decide)) ⟨(Has.t rfl), trivial⟩)) ?_
  refine Y.D_hide (Ei := [(15, _), (23, _)]) rfl rfl (Y.Srcs.cons (Y.Src.op 3 rfl rfl) (Y.Srcs.cons (Y.Src.op 11 rfl rfl) Y.Srcs.nil)) rfl rfl (S_plain rfl (op_call Tryz.call29 (Fun.imp (c_netNew (z := awZ) (s := awS) (L := 2) aw_fz (by decide) (by decide) (by decide)) aw_net) ⟨(Has.t rfl), (Has.t rfl), trivial⟩)) ?_
  refine Y.D_hide (Ei := [(24, _)]) rfl rfl (Y.Srcs.cons (Y.Src.op 12 rfl rfl) Y.Srcs.nil) rfl rfl (S_plain rfl (op_move (Has.t rfl))) ?_
  refine Y.D_hide (Ei := [(11, _)]) rfl rfl (Y.Srcs.cons (Y.Src.op 13 rfl rfl) Y.Srcs.nil) rfl rfl (S_plain rfl (op_extract (Has.t rfl) rfl)) ?_
  refine Y.D_hide (Ei := [(11, _)]) rfl rfl (Y.Srcs.cons (Y.Src.op 13 rfl rfl) Y.Srcs.nil) rfl rfl (S_plain rfl (op_extract (Has.t rfl) rfl)) ?_
  refine Y.D_newp (Ei := []) (fun bb => box bb 33 [NumsT awZ, NumM awS]) 17 rfl rfl rfl Y.Srcs.nil rfl rfl (by kernel_rfl) (new_alloc (Ts := [Is (.slice none 0 0), Is (.slice none 0 0)]) Tryz.zeroValue33 rfl (fun V => Cells.cons' ⟨rfl, trivial⟩ (Cells.cons' ⟨rfl, trivial⟩ (Cells.nil)))) ?_
  refine Y.D_putN (Ei := [(25, _)]) 16 rfl rfl rfl rfl rfl rfl (Y.Srcs.cons (Y.Src.op 14 rfl rfl) Y.Srcs.nil) (fun bb => P_stA Tryz.sizeOf33 (Has.t rfl) (Has.t rfl) rfl (i := 0) rfl (Nat.le_of_ble_eq_true rfl) rfl rfl) ?_
  refine Y.D_done mixed rfl (by kernel_rfl) rfl (by simp [Y.okP]) rfl rfl (Y.F_val (Y.F_val (Y.F_val (Y.F_val (Y.F_val (Y.F_val (Y.F_val (Y.F_val (Y.F_val (Y.F_val (Y.F_val (Y.F_val (Y.F_val (Y.F_val (Y.F_val (Y.F_val (Y.F_newp (fun B2 => Y.F_putN (Y.F_nil ?_)))))))))))))))))))
  refine R_op rfl rfl rfl (op_assign (Has.t rfl)) ?_
  refine R_nil ?_
  refine T_seq ?_
  refine Y.D_start (m := 8) [] ?_
  refine Y.D_hide (Ei := [(2, _)]) rfl rfl (Y.Srcs.cons (Y.Src.pre rfl rfl) Y.Srcs.nil) rfl rfl (S_plain rfl (op_ldBA Tryz.isAgg33 Tryz.sizeOf33 (Has.t rfl) (i := 1) rfl rfl rfl)) ?_
  refine Y.D_hide (Ei := []) rfl rfl Y.Srcs.nil rfl rfl (S_plain rfl (op_call Tryz.call28 (c_Int (n := 290) (by decide) (by decide)) ⟨(Has.cN 290), trivial⟩)) ?_
  refine Y.D_hide (Ei := [(28, _), (29, _)]) rfl rfl (Y.Srcs.cons (Y.Src.op 0 rfl rfl) (Y.Srcs.cons (Y.Src.op 1 rfl rfl) Y.Srcs.nil)) rfl rfl (S_plain rfl (op_call Tryz.call22 (Fun.imp (c_Own (z := awZ) (s := awS) (t := Qi.ofInt 290) (L := 2) aw_fz aw_fs aw_ft (by decide) (by decide) aw_shp (by decide) (by decide)) aw_own) ⟨(Has.t rfl), (Has.t rfl), trivial⟩)) ?_
  refine Y.D_hide (Ei := [(30, _)]) rfl rfl (Y.Srcs.cons (Y.Src.op 2 rfl rfl) Y.Srcs.nil) rfl rfl (S_plain rfl (op_move (Has.t rfl))) ?_
  refine Y.D_hide (Ei := [(27, _)]) rfl rfl (Y.Srcs.cons (Y.Src.op 3 rfl rfl) Y.Srcs.nil) rfl rfl (S_plain rfl (op_extract (Has.t rfl) rfl)) ?_
  refine Y.D_hide (Ei := [(27, _)]) rfl rfl (Y.Srcs.cons (Y.Src.op 3 rfl rfl) Y.Srcs.nil) rfl rfl (S_plain rfl (op_extract (Has.t rfl) rfl)) ?_
  refine Y.D_newp (Ei := []) (fun bb => box bb 35 [NumsT awZ, NumM awS, NumM awC]) 7 rfl rfl rfl Y.Srcs.nil rfl rfl (by kernel_rfl) (new_alloc (Ts := [Is (.slice none 0 0), Is (.slice none 0 0), Is (.slice none 0 0)]) Tryz.zeroValue35 rfl (fun V => Cells.cons' ⟨rfl, trivial⟩ (Cells.cons' ⟨rfl, trivial⟩ (Cells.cons' ⟨rfl, trivial⟩ (Cells.nil))))) ?_
  refine Y.D_putN (Ei := [(31, _)]) 6 rfl rfl rfl rfl rfl rfl (Y.Srcs.cons (Y.Src.op 4 rfl rfl) Y.Srcs.nil) (fun bb => P_stA Tryz.sizeOf35 (Has.t rfl) (Has.t rfl) rfl (i := 0) rfl (Nat.le_of_ble_eq_true rfl) rfl rfl) ?_
  refine Y.D_done mixed rfl (by kernel_rfl) rfl (by simp [Y.okP]) rfl rfl (Y.F_val (Y.F_val (Y.F_val (Y.F_val (Y.F_val (Y.F_val (Y.F_newp (fun B4 => Y.F_putN (Y.F_nil ?_)))))))))
  refine R_op rfl rfl rfl (op_assign (Has.t rfl)) ?_
  refine R_nil ?_
  refine T_seq ?_
  refine T_region ?_
  refine R_op rfl rfl rfl (op_ldBA Tryz.isAgg35 Tryz.sizeOf35 (Has.t rfl) (i := 2) rfl rfl rfl) ?_
  refine R_op rfl rfl rfl (op_call Tryz.call37 (Fun.imp (c_noiAt (z := awZ) (s := awS) (c := awC) (i := ((2 : Nat) : Int)) (j := ((2 : Nat) : Int)) aw_cs2 (by rw [aw_cs.1]; decide)) aw_at) ⟨(Has.t rfl), (Has.cN 2), (Has.cN 2), trivial⟩) ?_
  refine R_op rfl rfl rfl (op_move (Has.t rfl)) ?_
  refine R_op rfl rfl rfl (op_extract (Has.t rfl) rfl) ?_
  refine R_op rfl rfl rfl (op_extract (Has.t rfl) rfl) ?_
  refine R_new rfl rfl rfl (new_alloc (Ts := [Is (.bool false), Is (.slice none 0 0), Is (.bool false), Is (.slice none 0 0), Is (.slice none 0 0)]) Tryz.zeroValue49 rfl (fun V => Cells.cons' ⟨rfl, trivial⟩ (Cells.cons' ⟨rfl, trivial⟩ (Cells.cons' ⟨rfl, trivial⟩ (Cells.cons' ⟨rfl, trivial⟩ (Cells.cons' ⟨rfl, trivial⟩ (Cells.nil))))))) (fun B6 => ?_)
  refine R_stA Tryz.sizeOf49 (Has.t rfl) (Has.t rfl) rfl (i := 3) rfl (Nat.le_of_ble_eq_true rfl) rfl rfl ?_
  refine R_op rfl rfl rfl (op_assign (Has.t rfl)) ?_
  refine R_nil ?_
  refine T_seq ?_
  refine Y.D_start (m := 9) [] ?_
  refine Y.D_hide (Ei := [(4, _)]) rfl rfl (Y.Srcs.cons (Y.Src.pre rfl rfl) Y.Srcs.nil) rfl rfl (S_plain rfl (op_ldBA Tryz.isAgg35 Tryz.sizeOf35 (Has.t rfl) (i := 2) rfl rfl rfl)) ?_
  refine Y.D_hide (Ei := []) rfl rfl Y.Srcs.nil rfl rfl (S_plain rfl (op_call Tryz.call28 (c_Int (n := 0) (by decide) (by decide)) ⟨(Has.cN 0), trivial⟩)) ?_
  refine Y.D_hide (Ei := []) rfl rfl Y.Srcs.nil rfl rfl (S_plain rfl (op_call Tryz.call28 (c_Int (n := 290) (by decide) (by decide)) ⟨(Has.cN 290), trivial⟩)) ?_
  refine Y.D_hide (Ei := [(39, _), (40, _), (41, _)]) rfl rfl (Y.Srcs.cons (Y.Src.op 0 rfl rfl) (Y.Srcs.cons (Y.Src.op 1 rfl rfl) (Y.Srcs.cons (Y.Src.op 2 rfl rfl) Y.Srcs.nil))) rfl rfl (S_plain rfl (op_call Tryz.call17 (Fun.imp (c_Factor (z := awZ) (s := awS) (c := awC) (g := Qi.ofInt 0) (t0 := Qi.ofInt 290) (L := 1000) (aw_fz.le (by decide)) (aw_fs.le (by decide)) aw_fc (aw_f0.le (by decide)) (aw_ft.le (by decide)) (by decide) (by decide) aw_shp aw_cs (by decide)) aw_fac) ⟨(Has.t rfl), (Has.t rfl), (Has.t rfl), trivial⟩)) ?_
  refine Y.D_hide (Ei := [(42, _)]) rfl rfl (Y.Srcs.cons (Y.Src.op 3 rfl rfl) Y.Srcs.nil) rfl rfl (S_plain rfl (op_move (Has.t rfl))) ?_
  refine Y.D_hide (Ei := [(38, _)]) rfl rfl (Y.Srcs.cons (Y.Src.op 4 rfl rfl) Y.Srcs.nil) rfl rfl (S_plain rfl (op_extract (Has.t rfl) rfl)) ?_
  refine Y.D_hide (Ei := [(38, _)]) rfl rfl (Y.Srcs.cons (Y.Src.op 4 rfl rfl) Y.Srcs.nil) rfl rfl (S_plain rfl (op_extract (Has.t rfl) rfl)) ?_
  refine Y.D_newp (Ei := []) (fun bb => box bb 49 [BoolT (decide ((Qi.ofInt 4).a < 0)), NatT (Qi.ofInt 4).a.natAbs, BoolT (decide ((Qi.ofInt 4).b < 0)), NatT (Qi.ofInt 4).b.natAbs, NatT (du (Qi.ofInt 4))]) 8 rfl rfl rfl Y.Srcs.nil rfl rfl (by kernel_rfl) (new_alloc (Ts := [Is (.bool false), Is (.slice none 0 0), Is (.bool false), Is (.slice none 0 0), Is (.slice none 0 0)]) Tryz.zeroValue49 rfl (fun V => Cells.cons' ⟨rfl, trivial⟩ (Cells.cons' ⟨rfl, trivial⟩ (Cells.cons' ⟨rfl, trivial⟩ (Cells.cons' ⟨rfl, trivial⟩ (Cells.cons' ⟨rfl, trivial⟩ (Cells.nil))))))) ?_
  refine Y.D_putN (Ei := [(43, _)]) 7 rfl rfl rfl rfl rfl rfl (Y.Srcs.cons (Y.Src.op 5 rfl rfl) Y.Srcs.nil) (fun bb => P_stA Tryz.sizeOf49 (Has.t rfl) (Has.t rfl) rfl (i := 0) rfl (Nat.le_of_ble_eq_true rfl) rfl rfl) ?_
  refine Y.D_done mixed rfl (by kernel_rfl) rfl (by simp [Y.okP]) rfl rfl (Y.F_val (Y.F_val (Y.F_val (Y.F_val (Y.F_val (Y.F_val (Y.F_val (Y.F_newp (fun B8 => Y.F_putN (Y.F_nil ?_))))))))))
  refine R_op rfl rfl rfl (op_assign (Has.t rfl)) ?_
  refine R_nil ?_
  refine T_seq ?_
  refine T_region ?_
  refine R_op rfl rfl rfl (op_move (Has.t rfl)) ?_
  refine R_op rfl rfl rfl (op_eql (Has.t rfl) Has.c) ?_
  refine R_op rfl rfl rfl (op_move (Has.t rfl)) ?_
  refine R_step rfl rfl (S_when rfl rfl (Has.t rfl) (fun h => op_move (Has.t rfl))) ?_
  refine R_step rfl rfl (S_when rfl rfl (Has.t rfl) (fun h => op_eql (Has.w rfl h) Has.c)) ?_
  refine R_op rfl rfl rfl (op_and (Has.t rfl) (fun h => (Has.w rfl h))) ?_
  refine R_op rfl rfl rfl (op_move (Has.t rfl)) ?_
  refine R_step rfl rfl (S_when rfl rfl (Has.t rfl) (fun h => op_move (Has.t rfl))) ?_
  refine R_step rfl rfl (S_when rfl rfl (Has.t rfl) (fun h => op_eql (Has.w rfl h) Has.c)) ?_
  refine R_op rfl rfl rfl (op_and (Has.t rfl) (fun h => (Has.w rfl h))) ?_
  refine R_op rfl rfl rfl (op_move (Has.t rfl)) ?_
  refine R_step rfl rfl (S_when rfl rfl (Has.t rfl) (fun h => op_move (Has.t rfl))) ?_
  refine R_step rfl rfl (S_when rfl rfl (Has.t rfl) (fun h => op_eql (Has.w rfl h) Has.c)) ?_
  refine R_op rfl rfl rfl (op_and (Has.t rfl) (fun h => (Has.w rfl h))) ?_
  refine R_op rfl rfl rfl (op_move (Has.t rfl)) ?_
  refine R_step rfl rfl (S_when rfl rfl (Has.t rfl) (fun h => op_ldBA Tryz.isAgg49 Tryz.sizeOf49 (Has.t rfl) (i := 3) rfl rfl rfl)) ?_
  refine R_step rfl rfl (S_when rfl rfl (Has.t rfl) (fun h => op_call Tryz.call75 (c_Text (x := Qi.ofInt 10875) (L := 2) (hx := (@fitInt 10875).le (by decide)) (by decide)) ⟨(Has.w rfl h), trivial⟩)) ?_
  refine R_step rfl rfl (S_when rfl rfl (Has.t rfl) (fun h => op_eqS (Has.w rfl h) (Has.cS (l := [49, 48, 56, 55, 53]) rfl))) ?_
  refine R_op rfl rfl rfl (op_and (Has.t rfl) (fun h => (Has.w rfl h))) ?_
  refine R_op rfl rfl rfl (op_move (Has.t rfl)) ?_
  refine R_step rfl rfl (S_when rfl rfl (Has.t rfl) (fun h => op_ldBA Tryz.isAgg49 Tryz.sizeOf49 (Has.t rfl) (i := 4) rfl rfl rfl)) ?_
  refine R_step rfl rfl (S_when rfl rfl (Has.t rfl) (fun h => op_call Tryz.call75 (c_Text (x := Qi.ofInt 4) (L := 2) (hx := (@fitInt 4).le (by decide)) (by decide)) ⟨(Has.w rfl h), trivial⟩)) ?_
  refine R_step rfl rfl (S_when rfl rfl (Has.t rfl) (fun h => op_eqS (Has.w rfl h) (Has.cS (l := [52]) rfl))) ?_
  refine R_op rfl rfl rfl (op_and (Has.t rfl) (fun h => (Has.w rfl h))) ?_
  refine R_op rfl rfl rfl (op_assign (Has.t rfl)) ?_
  refine R_nil ?_
  refine T_ret1 rfl (rv_to (rv_tmp rfl) ?_)
  exact (bool_of (by rw [aw_t1, aw_t2]; rfl))
end Go.Proofs.YtppibhcfaahgpaaGreat
namespace Go.Proofs.YtppibhcfaahgpaaGreat
open Go Go.RowKit
set_option maxHeartbeats 1000000 in
set_option maxRecDepth 20000 in
theorem c_NoiseFactors {z : List Rt} {s c : List (List Rt)} {g t0 : Rt} : Fun Tryz.prog 3 [LawT z s c, RatT g, RatT t0] (BoolT true) := by
  refine Fun.intro Tryz.func3 rfl Tryz.ntmps3 rfl (fun cx => ?_)
  refine T_seq ?_
  refine T_region ?_
  refine R_new rfl rfl rfl (new_box (Has.t rfl)) (fun B3 => ?_)
  refine R_new rfl rfl rfl (new_box (Has.t rfl)) (fun B4 => ?_)
  refine R_new rfl rfl rfl (new_box (Has.t rfl)) (fun B5 => ?_)
  refine R_op rfl rfl rfl (op_assign Has.c) ?_
  refine R_nil ?_
  refine T_seq ?_
  refine T_seq ?_
  refine T_region ?_
  refine R_op rfl rfl rfl (op_ldBA Tryz.isAgg25 Tryz.sizeOf25 (Has.t rfl) (i := 0) rfl rfl rfl) ?_
  refine R_op rfl rfl rfl (op_call Tryz.call14 c_few ⟨(Has.t rfl), trivial⟩) ?_
  refine R_op rfl rfl rfl (op_not (Has.t rfl)) ?_
  refine R_nil ?_
  refine T_cond (Has.t rfl) (fun hb => ?_) (fun hb => ?_)
  · refine T_seq ?_
    refine T_region ?_
    refine R_op rfl rfl rfl (op_call Tryz.call15 c_awake trivial) ?_
    refine R_op rfl rfl rfl (op_assign (Has.t rfl)) ?_
    refine R_nil ?_
    exact T_ret1 rfl (rv_tmp rfl)
  · have hf : fewB z s c = true := by simpa using hb
    obtain ⟨m1, m2, m3⟩ := md_shape (z := z) (s := s) (c := c)
    obtain ⟨m4, m5, m6⟩ := md_fit (z := z) (s := s) (c := c)
    have hg2 : FitC g.q 2 := inferInstance
    have ht2 : FitC t0.q 2 := inferInstance
    have hfit := facR_fit m4 m5 m6 hg2 ht2 (by decide) (by rw [m2.1]; exact m3)
    refine T_skip ?_
    refine T_seq ?_
    refine T_region ?_
    refine R_op rfl rfl rfl (op_ldBA Tryz.isAgg25 Tryz.sizeOf25 (Has.t rfl) (i := 0) rfl rfl rfl) ?_
    refine R_op rfl rfl rfl (op_call Tryz.call16 (c_made (by assumption)) ⟨(Has.t rfl), trivial⟩) ?_
    refine R_op rfl rfl rfl (op_move (Has.t rfl)) ?_
    refine R_op rfl rfl rfl (op_extract (Has.t rfl) rfl) ?_
    refine R_op rfl rfl rfl (op_extract (Has.t rfl) rfl) ?_
    refine R_op rfl rfl rfl (op_extract (Has.t rfl) rfl) ?_
    refine R_new rfl rfl rfl (new_alloc (Ts := [Is (.slice none 0 0), Is (.slice none 0 0), Is (.slice none 0 0)]) Tryz.zeroValue35 rfl (fun V => Cells.cons' ⟨rfl, trivial⟩ (Cells.cons' ⟨rfl, trivial⟩ (Cells.cons' ⟨rfl, trivial⟩ (Cells.nil))))) (fun B7 => ?_)
    refine R_new rfl rfl rfl (new_alloc (Ts := [Is (.slice none 0 0), Is (.slice none 0 0), Is (.slice none 0 0)]) Tryz.zeroValue41 rfl (fun V => Cells.cons' ⟨rfl, trivial⟩ (Cells.cons' ⟨rfl, trivial⟩ (Cells.cons' ⟨rfl, trivial⟩ (Cells.nil))))) (fun B8 => ?_)
    refine R_stA Tryz.sizeOf35 (Has.t rfl) (Has.t rfl) rfl (i := 3) rfl (Nat.le_of_ble_eq_true rfl) rfl rfl ?_
    refine R_stA Tryz.sizeOf41 (Has.t rfl) (Has.t rfl) rfl (i := 4) rfl (Nat.le_of_ble_eq_true rfl) rfl rfl ?_
    refine R_op rfl rfl rfl (op_assign (Has.t rfl)) ?_
    refine R_nil ?_
    refine T_seq ?_
    refine Y.D_start (m := 11) [] ?_
    refine Y.D_hide (Ei := [(7, _)]) rfl rfl (Y.Srcs.cons (Y.Src.pre rfl rfl) Y.Srcs.nil) rfl rfl (S_plain rfl (op_ldBA Tryz.isAgg35 Tryz.sizeOf35 (Has.t rfl) (i := 3) rfl rfl rfl)) ?_
    refine Y.D_hide (Ei := [(4, _)]) rfl rfl (Y.Srcs.cons (Y.Src.pre rfl rfl) Y.Srcs.nil) rfl rfl (S_plain rfl (op_ldBA Tryz.isAgg27 Tryz.sizeOf27 (Has.t rfl) (i := 1) rfl rfl rfl)) ?_
    refine Y.D_hide (Ei := [(26, _)]) rfl rfl (Y.Srcs.cons (Y.Src.op 1 rfl rfl) Y.Srcs.nil) rfl rfl (S_plain rfl (op_call Tryz.call18 c_lawOf ⟨(Has.t rfl), trivial⟩)) ?_
    refine Y.D_hide (Ei := [(5, _)]) rfl rfl (Y.Srcs.cons (Y.Src.pre rfl rfl) Y.Srcs.nil) rfl rfl (S_plain rfl (op_ldBA Tryz.isAgg27 Tryz.sizeOf27 (Has.t rfl) (i := 2) rfl rfl rfl)) ?_
    refine Y.D_hide (Ei := [(28, _)]) rfl rfl (Y.Srcs.cons (Y.Src.op 3 rfl rfl) Y.Srcs.nil) rfl rfl (S_plain rfl (op_call Tryz.call18 c_lawOf ⟨(Has.t rfl), trivial⟩)) ?_
    refine Y.D_hide (Ei := [(25, _), (27, _), (29, _)]) rfl rfl (Y.Srcs.cons (Y.Src.op 0 rfl rfl) (Y.Srcs.cons (Y.Src.op 2 rfl rfl) (Y.Srcs.cons (Y.Src.op 4 rfl rfl) Y.Srcs.nil))) rfl rfl (S_plain rfl (op_call Tryz.call17 (c_Factor (z := mdZ z s c) (s := mdS z s c) (c := mdC z s c) (g := g.q) (t0 := t0.q) (L := 2) m4 m5 m6 hg2 ht2 (by decide) (by decide) m1 m2 m3) ⟨(Has.t rfl), (Has.t rfl), (Has.t rfl), trivial⟩)) ?_
    refine Y.D_hide (Ei := [(30, _)]) rfl rfl (Y.Srcs.cons (Y.Src.op 5 rfl rfl) Y.Srcs.nil) rfl rfl (S_plain rfl (op_move (Has.t rfl))) ?_
    refine Y.D_hide (Ei := [(24, _)]) rfl rfl (Y.Srcs.cons (Y.Src.op 6 rfl rfl) Y.Srcs.nil) rfl rfl (S_plain rfl (op_extract (Has.t rfl) rfl)) ?_
    refine Y.D_hide (Ei := [(24, _)]) rfl rfl (Y.Srcs.cons (Y.Src.op 6 rfl rfl) Y.Srcs.nil) rfl rfl (S_plain rfl (op_extract (Has.t rfl) rfl)) ?_
    refine Y.D_newp (Ei := []) (fun bb => box bb 49 [BoolT (decide ((facR (mdZ z s c) (mdS z s c) (mdC z s c) g.q t0.q).1.a < 0)), NatT (facR (mdZ z s c) (mdS z s c) (mdC z s c) g.q t0.q).1.a.natAbs, BoolT (decide ((facR (mdZ z s c) (mdS z s c) (mdC z s c) g.q t0.q).1.b < 0)), NatT (facR (mdZ z s c) (mdS z s c) (mdC z s c) g.q t0.q).1.b.natAbs, NatT (du (facR (mdZ z s c) (mdS z s c) (mdC z s c) g.q t0.q).1)]) 10 rfl rfl rfl Y.Srcs.nil rfl rfl (by kernel_rfl) (new_alloc (Ts := [Is (.bool false), Is (.slice none 0 0), Is (.bool false), Is (.slice none 0 0), Is (.slice none 0 0)]) Tryz.zeroValue49 rfl (fun V => Cells.cons' ⟨rfl, trivial⟩ (Cells.cons' ⟨rfl, trivial⟩ (Cells.cons' ⟨rfl, trivial⟩ (Cells.cons' ⟨rfl, trivial⟩ (Cells.cons' ⟨rfl, trivial⟩ (Cells.nil))))))) ?_
    refine Y.D_putN (Ei := [(31, _)]) 9 rfl rfl rfl rfl rfl rfl (Y.Srcs.cons (Y.Src.op 7 rfl rfl) Y.Srcs.nil) (fun bb => P_stA Tryz.sizeOf49 (Has.t rfl) (Has.t rfl) rfl (i := 0) rfl (Nat.le_of_ble_eq_true rfl) rfl rfl) ?_
    refine Y.D_done mixed rfl (by kernel_rfl) rfl (by simp [Y.okP]) rfl rfl (Y.F_val (Y.F_val (Y.F_val (Y.F_val (Y.F_val (Y.F_val (Y.F_val (Y.F_val (Y.F_val (Y.F_newp (fun B10 => Y.F_putN (Y.F_nil ?_))))))))))))
    refine R_op rfl rfl rfl (op_assign (Has.t rfl)) ?_
    refine R_nil ?_
    refine T_seq ?_
    refine Y.D_start (m := 11) [] ?_
    refine Y.D_hide (Ei := [(8, _)]) rfl rfl (Y.Srcs.cons (Y.Src.pre rfl rfl) Y.Srcs.nil) rfl rfl (S_plain rfl (op_ldBA Tryz.isAgg41 Tryz.sizeOf41 (Has.t rfl) (i := 4) rfl rfl rfl)) ?_
    refine Y.D_hide (Ei := [(4, _)]) rfl rfl (Y.Srcs.cons (Y.Src.pre rfl rfl) Y.Srcs.nil) rfl rfl (S_plain rfl (op_ldBA Tryz.isAgg27 Tryz.sizeOf27 (Has.t rfl) (i := 1) rfl rfl rfl)) ?_
    refine Y.D_hide (Ei := [(35, _)]) rfl rfl (Y.Srcs.cons (Y.Src.op 1 rfl rfl) Y.Srcs.nil) rfl rfl (S_plain rfl (op_call Tryz.call20 c_rOf ⟨(Has.t rfl), trivial⟩)) ?_
    refine Y.D_hide (Ei := [(5, _)]) rfl rfl (Y.Srcs.cons (Y.Src.pre rfl rfl) Y.Srcs.nil) rfl rfl (S_plain rfl (op_ldBA Tryz.isAgg27 Tryz.sizeOf27 (Has.t rfl) (i := 2) rfl rfl rfl)) ?_
    refine Y.D_hide (Ei := [(37, _)]) rfl rfl (Y.Srcs.cons (Y.Src.op 3 rfl rfl) Y.Srcs.nil) rfl rfl (S_plain rfl (op_call Tryz.call20 c_rOf ⟨(Has.t rfl), trivial⟩)) ?_
    refine Y.D_hide (Ei := [(34, _), (36, _), (38, _)]) rfl rfl (Y.Srcs.cons (Y.Src.op 0 rfl rfl) (Y.Srcs.cons (Y.Src.op 2 rfl rfl) (Y.Srcs.cons (Y.Src.op 4 rfl rfl) Y.Srcs.nil))) rfl rfl (S_plain rfl (op_call Tryz.call19 (c_rFactor (z := mdZ z s c) (s := mdS z s c) (c := mdC z s c) (g := g.q) (t0 := t0.q) (L := 2) m4 m5 m6 hg2 ht2 (by decide) (by decide) m1 m2 m3) ⟨(Has.t rfl), (Has.t rfl), (Has.t rfl), trivial⟩)) ?_
    refine Y.D_hide (Ei := [(39, _)]) rfl rfl (Y.Srcs.cons (Y.Src.op 5 rfl rfl) Y.Srcs.nil) rfl rfl (S_plain rfl (op_move (Has.t rfl))) ?_
    refine Y.D_hide (Ei := [(33, _)]) rfl rfl (Y.Srcs.cons (Y.Src.op 6 rfl rfl) Y.Srcs.nil) rfl rfl (S_plain rfl (op_extract (Has.t rfl) rfl)) ?_
    refine Y.D_hide (Ei := [(33, _)]) rfl rfl (Y.Srcs.cons (Y.Src.op 6 rfl rfl) Y.Srcs.nil) rfl rfl (S_plain rfl (op_extract (Has.t rfl) rfl)) ?_
    refine Y.D_newp (Ei := []) (fun bb => box bb 57 [BoolT (decide ((facR (mdZ z s c) (mdS z s c) (mdC z s c) g.q t0.q).1.a < 0)), NatT (facR (mdZ z s c) (mdS z s c) (mdC z s c) g.q t0.q).1.a.natAbs, BoolT (decide ((facR (mdZ z s c) (mdS z s c) (mdC z s c) g.q t0.q).1.b < 0)), NatT (facR (mdZ z s c) (mdS z s c) (mdC z s c) g.q t0.q).1.b.natAbs, NatT (facR (mdZ z s c) (mdS z s c) (mdC z s c) g.q t0.q).1.den]) 10 rfl rfl rfl Y.Srcs.nil rfl rfl (by kernel_rfl) (new_alloc (Ts := [Is (.bool false), Is (.slice none 0 0), Is (.bool false), Is (.slice none 0 0), Is (.slice none 0 0)]) Tryz.zeroValue57 rfl (fun V => Cells.cons' ⟨rfl, trivial⟩ (Cells.cons' ⟨rfl, trivial⟩ (Cells.cons' ⟨rfl, trivial⟩ (Cells.cons' ⟨rfl, trivial⟩ (Cells.cons' ⟨rfl, trivial⟩ (Cells.nil))))))) ?_
    refine Y.D_putN (Ei := [(40, _)]) 9 rfl rfl rfl rfl rfl rfl (Y.Srcs.cons (Y.Src.op 7 rfl rfl) Y.Srcs.nil) (fun bb => P_stA Tryz.sizeOf57 (Has.t rfl) (Has.t rfl) rfl (i := 0) rfl (Nat.le_of_ble_eq_true rfl) rfl rfl) ?_
    refine Y.D_done mixed rfl (by kernel_rfl) rfl (by simp [Y.okP]) rfl rfl (Y.F_val (Y.F_val (Y.F_val (Y.F_val (Y.F_val (Y.F_val (Y.F_val (Y.F_val (Y.F_val (Y.F_newp (fun B12 => Y.F_putN (Y.F_nil ?_))))))))))))
    refine R_op rfl rfl rfl (op_assign (Has.t rfl)) ?_
    refine R_nil ?_
    refine T_seq ?_
    refine T_region ?_
    refine R_op rfl rfl rfl (op_move (Has.t rfl)) ?_
    refine R_op rfl rfl rfl (op_move (Has.t rfl)) ?_
    refine R_step rfl rfl (S_when rfl rfl (Has.t rfl) (fun h => op_move (Has.t rfl))) ?_
    refine R_step rfl rfl (S_when rfl rfl (Has.t rfl) (fun h => op_move (Has.t rfl))) ?_
    refine R_step rfl rfl (S_when rfl rfl (Has.t rfl) (fun h => op_eql (Has.w rfl h) (Has.w rfl h))) ?_
    refine R_op rfl rfl rfl (op_and (Has.t rfl) (fun h => (Has.w rfl h))) ?_
    refine R_op rfl rfl rfl (op_move (Has.t rfl)) ?_
    refine R_step rfl rfl (S_when rfl rfl (Has.t rfl) (fun h => op_ldBA Tryz.isAgg49 Tryz.sizeOf49 (Has.t rfl) (i := 5) rfl rfl rfl)) ?_
    refine R_step rfl rfl (S_when rfl rfl (Has.t rfl) (fun h => op_ldBA Tryz.isAgg57 Tryz.sizeOf57 (Has.t rfl) (i := 6) rfl rfl rfl)) ?_
    refine R_step rfl rfl (S_when rfl rfl (Has.t rfl) (fun h => op_call Tryz.call21 (c_lawIs (x := (facR (mdZ z s c) (mdS z s c) (mdC z s c) g.q t0.q).1) (y := (facR (mdZ z s c) (mdS z s c) (mdC z s c) g.q t0.q).1) (hx := hfit) (hy := hfit) (by decide) (by decide)) ⟨(Has.w rfl h), (Has.w rfl h), trivial⟩)) ?_
    refine R_op rfl rfl rfl (op_and (Has.t rfl) (fun h => (Has.w rfl h))) ?_
    refine R_op rfl rfl rfl (op_move (Has.t rfl)) ?_
    refine R_step rfl rfl (S_when rfl rfl (Has.t rfl) (fun h => op_call Tryz.call15 c_awake trivial)) ?_
    refine R_op rfl rfl rfl (op_and (Has.t rfl) (fun h => (Has.w rfl h))) ?_
    refine R_op rfl rfl rfl (op_assign (Has.t rfl)) ?_
    refine R_nil ?_
    refine T_ret1 rfl (rv_to (rv_tmp rfl) ?_)
    exact (bool_of (by simp))
end Go.Proofs.YtppibhcfaahgpaaGreat
namespace Go.Proofs.YtppibhcfaahgpaaGreat
open Go Go.ChangeShapes Go.WideShapes Go.ChangeAt Go.RowKit
set_option maxRecDepth 100000 in
theorem lifted_noiseFactors (os : Os) (started : os.Started) (H : Type) (enc : TypeId × Value → H) :
    ReturnsInHanded {} Tryz.checked os 3 .any (Rows.noiseFactorsSpec.pre6 enc Tryz.prog Tryz.f3 Rows.noiseFactorsRow.domain false) (Rows.noiseFactorsSpec.post enc Tryz.prog Tryz.f3 false true false false) := by
  refine returnsInHanded_of_change (C := Tryz.checked) own started (by kernel_rfl) Tryz.func3
    (ChangeSpec.witness6 (enc := enc) (C := Tryz.checked) false ⟨#[], #[.agg #[.slice none 0 0, .slice none 0 0, .slice none 0 0], .agg #[.int .i64 0, .int .i64 0, .int .i64 0], .agg #[.int .i64 0, .int .i64 0, .int .i64 0]], []⟩ 8 (by kernel_rfl) (by kernel_rfl) (by kernel_rfl) (by kernel_rfl)) ?_
  intro W base args ds gs before hval0 hW hcnd _
  have hval : ∀ (j : Nat) t v, Tryz.f3.params[j]? = some t → args[j]? = some v → Value.okWide Tryz.prog W .any base t v := hval0
  have hW' := hW
  obtain ⟨p, q, hA0, hV, rfl, hfz, hnd⟩ := hW
  have hA : DataW.TrodAll enc Tryz.prog W 0 (fun _ => true) true Tryz.f3.params.toList args.toList ds p := hA0
  rw [Tryz.params3] at hA hval
  obtain ⟨v0, vs0, d0, ds0, p0, q0, hargs, rfl, rfl, h0, r0⟩ := trodAll_cons hA
  obtain ⟨v1, vs1, d1, ds1, p1, q1, rfl, rfl, rfl, h1, r1⟩ := trodAll_cons r0
  obtain ⟨v2, vs2, d2, ds2, p2, q2, rfl, rfl, rfl, h2, r2⟩ := trodAll_cons r1
  obtain ⟨rfl, rfl, rfl⟩ := trodAll_nil r2
  obtain rfl : args = #[v0, v1, v2] := by cases args; simp_all
  obtain ⟨rfl, rfl⟩ := trodVars_none hV
  have lt0 : ∀ x ∈ p0, x.block < W.heap.size := by obtain ⟨m, hm⟩ := h0; exact DataW.trod_lt m _ _ _ hm
  have lt1 : ∀ x ∈ p1, x.block < W.heap.size := by obtain ⟨m, hm⟩ := h1; exact DataW.trod_lt m _ _ _ hm
  have lt2 : ∀ x ∈ p2, x.block < W.heap.size := by obtain ⟨m, hm⟩ := h2; exact DataW.trod_lt m _ _ _ hm
  obtain ⟨z, s, c, k0⟩ := trod_lawT (hval 0 25 v0 rfl rfl) h0
  obtain ⟨g, k1⟩ := trod_ratT (hval 1 27 v1 rfl rfl) h1
  obtain ⟨t0, k2⟩ := trod_ratT (hval 2 27 v2 rfl rfl) h2
  clear hA0 hval0
  refine (c_NoiseFactors (z := z) (s := s) (c := c) (g := g) (t0 := t0) [v0, v1, v2] (hv W) W (fun b o h => h) ⟨k0, k1, k2, trivial⟩).mono fun e W' ⟨v, V', he, _, _, _, bel, hb⟩ => ?_
  obtain rfl := bool_true hb he
  exact ⟨_, rfl, _, _, _, [], _, [], hW', trodAll_mk1 (shut_bool Tryz.underlying4 _), (trodAll_cons_mk (Below.trod laidOut (by kernel_rfl) (of_decide_eq_true (by kernel_rfl)) h0 bel lt0) (trodAll_cons_mk (Below.trod laidOut (by kernel_rfl) (of_decide_eq_true (by kernel_rfl)) h1 bel lt1) (trodAll_cons_mk (Below.trod laidOut (by kernel_rfl) (of_decide_eq_true (by kernel_rfl)) h2 bel lt2) trodAll_mk0))), rfl, bel.frame _, fun h => by cases h⟩
theorem noiseFactors_proved : Rows.NoiseFactorsSaid :=
  OpenClaim.holds_of_wide 3 Tryz.f3 rfl rfl rfl rfl rfl rfl rfl ⟨rfl, rfl, rfl, rfl, rfl⟩ rfl rfl rfl rfl rfl (by kernel_rfl) Tryz.func3 (by kernel_rfl)
    (of_decide_eq_true (by kernel_rfl)) (by unfold Func.isWrapper; first | (rw [if_pos (by decide +kernel)]; kernel_rfl) | (rw [if_neg (by decide +kernel)]; exact ⟨rfl, rfl⟩))
    (fun os started H enc _ => lifted_noiseFactors os started H enc)
end Go.Proofs.YtppibhcfaahgpaaGreat
