/- What functions of the program compute, proved by walks over their code, and the plain mathematics of it; a part of the proof in the last text. -/
import Derived.Test.YtppibhcfaahgpaaGreatP03
set_option linter.unusedVariables false
set_option linter.unusedSimpArgs false
namespace Go.Proofs.YtppibhcfaahgpaaGreat
open Go Go.RowKit
set_option maxRecDepth 20000 in
theorem c_rBits {m : Nat} (hm : (dg m).length ≤ 17592186044416) (h0 : m ≠ 0) : Fun Tryz.prog 230 [NatT m] (NT .i64 (32 * ((dg m).length - 1) + bl ((dg m).getD ((dg m).length - 1) 0))) := by
  have hl : (dg m).length ≠ 0 := fun e => h0 (dg_length_zero.1 e)
  have htl := getD_lt (dig_dg m) ((dg m).length - 1)
  obtain ⟨v, hv⟩ : ∃ v, v = (dg m).getD ((dg m).length - 1) 0 := ⟨_, rfl⟩
  rw [← hv] at htl ⊢
  simp only [BB] at htl
  have hb32 := bl_le_of_lt (k := 32) htl
  refine Fun.intro Tryz.func230 rfl Tryz.ntmps230 rfl (fun cx => ?_)
  refine T_seq ?_
  refine T_region ?_
  refine R_op rfl rfl rfl (op_assign (Has.cN 0)) ?_
  refine R_nil ?_
  refine T_seq ?_
  refine T_seq ?_
  refine T_region ?_
  refine R_op rfl rfl rfl (op_move (Has.t rfl)) ?_
  refine R_op rfl rfl rfl (op_len Tryz.runUnderlying44 (Has.t rfl) len_map) ?_
  refine R_op rfl rfl rfl (op_eqlN (Has.t rfl) (Has.cN 0)) ?_
  refine R_nil ?_
  refine T_condF (Has.t rfl) (by simpa using hl) ?_
  refine T_skip ?_
  refine T_seq ?_
  refine T_region ?_
  refine R_op rfl rfl rfl (op_assign (Has.cN 0)) ?_
  refine R_nil ?_
  refine T_seq ?_
  refine T_seq ?_
  refine T_region ?_
  refine R_op rfl rfl rfl (op_move (Has.t rfl)) ?_
  refine R_op rfl rfl rfl (op_move (Has.t rfl)) ?_
  refine R_op rfl rfl rfl (op_len Tryz.runUnderlying44 (Has.t rfl) len_map) ?_
  refine R_op rfl rfl rfl (op_subN (Has.t rfl) (Has.cN 1) (by omega) (by show _ < 9223372036854775808; first | omega | (simp only [lim]; omega))) ?_
  refine R_op rfl rfl rfl (op_idx Tryz.runUnderlying44 Tryz.sizeOf97 (Has.t rfl) (Has.t rfl) rfl (map_get (get_some (by omega)))) ?_
  refine R_op rfl rfl rfl (op_ld Tryz.isAgg97 Tryz.sizeOf97 (Has.t rfl)) ?_
  refine R_op rfl rfl rfl (op_assign (Has.t rfl)) ?_
  refine R_nil ?_
  refine T_block ?_
  refine T_loop2 (fun (x : Nat) (q : Nat) => bl v = q + bl x ∧ x < 4294967296) (fun (x : Nat) (q : Nat) => x) (fun (x : Nat) (q : Nat) => [(0, NatT m), (3, NT .i64 q), (4, U32T x)]) (fun (x : Nat) (q : Nat) => []) v 0 ⟨(Nat.zero_add _).symm, htl⟩
    (Sub.cons rfl (Sub.cons rfl (Sub.to rfl (nt_of hv.symm) Sub.nil))) HSub.nil (fun x q ⟨hq, hx⟩ => ?_)
  refine T_seq ?_
  refine T_seq ?_
  refine T_region ?_
  refine R_op rfl rfl rfl (op_move (Has.t rfl)) ?_
  refine R_op rfl rfl rfl (op_gtrN (Has.t rfl) (Has.cN 0)) ?_
  refine R_nil ?_
  refine T_cond (Has.t rfl) (fun hb => ?_) (fun hb => ?_)
  · simp at hb
    have hsh := bl_step (v := x) (by omega)
    refine T_skip ?_
    refine T_seq ?_
    refine T_block ?_
    refine T_region ?_
    refine R_op rfl rfl rfl (op_move (Has.t rfl)) ?_
    refine R_op rfl rfl rfl (op_addN (Has.t rfl) (Has.cN 1) (by show _ < 9223372036854775808; first | omega | (simp only [lim]; omega))) ?_
    refine R_op rfl rfl rfl (op_assign (Has.t rfl)) ?_
    refine R_nil ?_
    refine T_blk ?_
    refine T_region ?_
    refine R_op rfl rfl rfl (op_move (Has.t rfl)) ?_
    refine R_op rfl rfl rfl (op_shrN (Has.t rfl) (Has.cN 1) (by decide)) ?_
    refine R_op rfl rfl rfl (op_assign (Has.t rfl)) ?_
    refine R_nil ?_
    refine T_again (x / 2 ^ 1, q + 1) ⟨by dsimp only; omega, by dsimp only; omega⟩ (by dsimp only; omega) (Sub.cons rfl (Sub.cons rfl (Sub.cons rfl Sub.nil))) HSub.nil
  · simp at hb
    subst hb
    rw [bl_zero] at hq
    refine T_exit rfl ?_
    refine T_seq ?_
    refine T_region ?_
    refine R_op rfl rfl rfl (op_move (Has.t rfl)) ?_
    refine R_op rfl rfl rfl (op_len Tryz.runUnderlying44 (Has.t rfl) len_map) ?_
    refine R_op rfl rfl rfl (op_subN (Has.t rfl) (Has.cN 1) (by omega) (by show _ < 9223372036854775808; first | omega | (simp only [lim]; omega))) ?_
    refine R_op rfl rfl rfl (op_mulN (Has.cN 32) (Has.t rfl) (by show _ < 9223372036854775808; first | omega | (simp only [lim]; omega))) ?_
    refine R_op rfl rfl rfl (op_move (Has.t rfl)) ?_
    refine R_op rfl rfl rfl (op_addN (Has.t rfl) (Has.t rfl) (by show _ < 9223372036854775808; first | omega | (simp only [lim]; omega))) ?_
    refine R_op rfl rfl rfl (op_assign (Has.t rfl)) ?_
    refine R_nil ?_
    refine T_ret1 rfl (rv_to (rv_tmp rfl) ?_)
    exact (nt_of (by omega))
set_option maxRecDepth 20000 in
theorem c_rShl {m k : Nat} (hm : (dg m).length ≤ 17592186044416) (hk : k ≤ 562949953421312) : Fun Tryz.prog 231 [NatT m, NT .i64 k] (NatT (m * 2 ^ k)) := by
  refine Fun.intro Tryz.func231 rfl Tryz.ntmps231 rfl (fun cx => ?_)
  refine T_seq ?_
  refine T_region ?_
  refine R_op rfl rfl rfl (op_assign Has.c) ?_
  refine R_nil ?_
  refine T_seq ?_
  refine T_seq ?_
  refine T_region ?_
  refine R_op rfl rfl rfl (op_move (Has.t rfl)) ?_
  refine R_op rfl rfl rfl (op_len Tryz.runUnderlying44 (Has.t rfl) len_map) ?_
  refine R_op rfl rfl rfl (op_eqlN (Has.t rfl) (Has.cN 0)) ?_
  refine R_nil ?_
  refine T_cond (Has.t rfl) (fun hb => ?_) (fun hb => ?_)
  · simp [dg_length_zero] at hb
    have h0 : m * 2 ^ k = 0 := by simp_all [dg_eq_nil]
    refine T_seq ?_
    refine T_region ?_
    refine R_op rfl rfl rfl (op_assign Has.c) ?_
    refine R_nil ?_
    refine T_ret1 rfl (rv_to (rv_tmp rfl) ?_)
    exact (fun v V h => by rw [h0]; exact nil_natT v V h)
  · clear hb
    have hr := Nat.mod_lt k (by decide : 32 > 0)
    refine T_skip ?_
    refine T_seq ?_
    refine T_region ?_
    refine R_op rfl rfl rfl (op_move (Has.t rfl)) ?_
    refine R_op rfl rfl rfl (op_len Tryz.runUnderlying44 (Has.t rfl) len_map) ?_
    refine R_op rfl rfl rfl (op_move (Has.t rfl)) ?_
    refine R_op rfl rfl rfl (op_quoN (Has.t rfl) (Has.cN 32) (by omega) (by show _ < 9223372036854775808; first | omega | (simp only [lim]; omega))) ?_
    refine R_op rfl rfl rfl (op_addN (Has.t rfl) (Has.t rfl) (by show _ < 9223372036854775808; first | omega | (simp only [lim]; omega))) ?_
    refine R_op rfl rfl rfl (op_addN (Has.t rfl) (Has.cN 1) (by show _ < 9223372036854775808; first | omega | (simp only [lim]; omega))) ?_
    refine R_new rfl rfl rfl (new_make (T := U32T 0) (i := Tryz.t97) Tryz.underlying44 info_97 rfl rfl (Has.t rfl) rfl (fun _ => rfl) trivial (by show 4 * _ ≤ _; omega) (by omega)) (fun B17 => ?_)
    refine R_op rfl rfl rfl (op_assign (Has.t rfl)) ?_
    refine R_nil ?_
    refine T_seq ?_
    refine T_seq ?_
    refine T_region ?_
    refine R_op rfl rfl rfl (op_assign (Has.cN 0)) ?_
    refine R_nil ?_
    refine T_block ?_
    refine T_loop2 (fun (i : Nat) (out : List Nat) => ShlS (dg m) (k / 32) (k % 32) out i) (fun (i : Nat) (out : List Nat) => (dg m).length - i) (fun (i : Nat) (out : List Nat) => [(0, NatT m), (1, NT .i64 k), (5, Is (.slice (some ⟨B17, 0, none⟩) ((dg m).length + k / 32 + 1) ((dg m).length + k / 32 + 1))), (6, NT .i64 i)]) (fun (i : Nat) (out : List Nat) => [box B17 97 (out.map U32T)]) 0 (List.replicate ((dg m).length + k / 32 + 1) 0) (ShlS.start _ _ _)
      (Sub.cons rfl (Sub.cons rfl (Sub.cons rfl (Sub.cons rfl Sub.nil)))) (HSub.cons (box_of (rep_map _)) HSub.nil) (fun i out hS => ?_)
    refine T_seq ?_
    refine T_seq ?_
    refine T_region ?_
    refine R_op rfl rfl rfl (op_move (Has.t rfl)) ?_
    refine R_op rfl rfl rfl (op_move (Has.t rfl)) ?_
    refine R_op rfl rfl rfl (op_len Tryz.runUnderlying44 (Has.t rfl) len_map) ?_
    refine R_op rfl rfl rfl (op_lssN (Has.t rfl) (Has.t rfl)) ?_
    refine R_nil ?_
    refine T_cond (Has.t rfl) (fun hb => ?_) (fun hb => ?_)
    · simp at hb
      have hlen := hS.len; have hxi := getD_lt (dig_dg m) i; have hok := getD_lt hS.dig (i + k / 32)
      have hv := shl_bound hxi hr
      have hd : (dg m).getD i 0 * 2 ^ (k % 32) / 2 ^ 32 < 4294967296 := Nat.div_lt_of_lt_mul hv
      simp only [BB] at hxi hok
      refine T_skip ?_
      refine T_seq ?_
      refine T_block ?_
      refine T_seq ?_
      refine T_region ?_
      refine R_op rfl rfl rfl (op_move (Has.t rfl)) ?_
      refine R_op rfl rfl rfl (op_move (Has.t rfl)) ?_
      refine R_op rfl rfl rfl (op_idx Tryz.runUnderlying44 Tryz.sizeOf97 (Has.t rfl) (Has.t rfl) rfl (map_get (get_some (by omega)))) ?_
      refine R_op rfl rfl rfl (op_ld Tryz.isAgg97 Tryz.sizeOf97 (Has.t rfl)) ?_
      refine R_op rfl rfl rfl (op_convN Tryz.runUnderlying97 Tryz.runUnderlying235 (Has.t rfl) (by show _ < 18446744073709551616; first | omega | (simp only [lim]; omega))) ?_
      refine R_op rfl rfl rfl (op_move (Has.t rfl)) ?_
      refine R_op rfl rfl rfl (op_remN (Has.t rfl) (Has.cN 32) (by omega)) ?_
      refine R_op rfl rfl rfl (op_convN Tryz.runUnderlying3 Tryz.runUnderlying241 (Has.t rfl) (by show _ < 18446744073709551616; first | omega | (simp only [lim]; omega))) ?_
      refine R_op rfl rfl rfl (op_shlN (Has.t rfl) (Has.t rfl) (by show _ ≤ _; simp [IntKind.bits]; omega) (by show _ < 18446744073709551616; exact hv)) ?_
      refine R_op rfl rfl rfl (op_assign (Has.t rfl)) ?_
      refine R_nil ?_
      refine T_seq ?_
      refine T_region ?_
      refine R_op rfl rfl rfl (op_move (Has.t rfl)) ?_
      refine R_op rfl rfl rfl (op_move (Has.t rfl)) ?_
      refine R_op rfl rfl rfl (op_move (Has.t rfl)) ?_
      refine R_op rfl rfl rfl (op_quoN (Has.t rfl) (Has.cN 32) (by omega) (by show _ < 9223372036854775808; first | omega | (simp only [lim]; omega))) ?_
      refine R_op rfl rfl rfl (op_addN (Has.t rfl) (Has.t rfl) (by show _ < 9223372036854775808; first | omega | (simp only [lim]; omega))) ?_
      refine R_op rfl rfl rfl (op_move (Has.t rfl)) ?_
      refine R_op rfl rfl rfl (op_move (Has.t rfl)) ?_
      refine R_op rfl rfl rfl (op_move (Has.t rfl)) ?_
      refine R_op rfl rfl rfl (op_quoN (Has.t rfl) (Has.cN 32) (by omega) (by show _ < 9223372036854775808; first | omega | (simp only [lim]; omega))) ?_
      refine R_op rfl rfl rfl (op_addN (Has.t rfl) (Has.t rfl) (by show _ < 9223372036854775808; first | omega | (simp only [lim]; omega))) ?_
      refine R_op rfl rfl rfl (op_idxB Tryz.runUnderlying44 Tryz.sizeOf97 (Has.t rfl) (Has.t rfl) rfl (by omega) (by rw [Nat.mul_one, Nat.zero_add])) ?_
      refine R_op rfl rfl rfl (op_ldB Tryz.isAgg97 Tryz.sizeOf97 (Has.t rfl) (i := 0) rfl (map_get (get_some (by omega)))) ?_
      refine R_op rfl rfl rfl (op_move (Has.t rfl)) ?_
      refine R_op rfl rfl rfl (op_convU rfl Tryz.runUnderlying235 Tryz.runUnderlying97 (Has.t rfl)) ?_
      refine R_op rfl rfl rfl (op_orN rfl (Has.t rfl) (Has.t rfl) (by show _ < 4294967296; omega) (by show _ % 4294967296 < 4294967296; omega)) ?_
      refine R_op rfl rfl rfl (op_idxB Tryz.runUnderlying44 Tryz.sizeOf97 (Has.t rfl) (Has.t rfl) rfl (by omega) (by rw [Nat.mul_one, Nat.zero_add])) ?_
      refine R_st Tryz.sizeOf97 (Has.t rfl) (Has.t rfl) (i := 0) rfl (by first | omega | (simp; omega)) rfl ?_
      refine R_nil ?_
      refine T_region ?_
      refine R_op rfl rfl rfl (op_move (Has.t rfl)) ?_
      refine R_op rfl rfl rfl (op_move (Has.t rfl)) ?_
      refine R_op rfl rfl rfl (op_move (Has.t rfl)) ?_
      refine R_op rfl rfl rfl (op_quoN (Has.t rfl) (Has.cN 32) (by omega) (by show _ < 9223372036854775808; first | omega | (simp only [lim]; omega))) ?_
      refine R_op rfl rfl rfl (op_addN (Has.t rfl) (Has.t rfl) (by show _ < 9223372036854775808; first | omega | (simp only [lim]; omega))) ?_
      refine R_op rfl rfl rfl (op_addN (Has.t rfl) (Has.cN 1) (by show _ < 9223372036854775808; first | omega | (simp only [lim]; omega))) ?_
      refine R_op rfl rfl rfl (op_move (Has.t rfl)) ?_
      refine R_op rfl rfl rfl (op_shrN (Has.t rfl) (Has.cN 32) (by decide)) ?_
      refine R_op rfl rfl rfl (op_convN Tryz.runUnderlying235 Tryz.runUnderlying97 (Has.t rfl) (by show _ < 4294967296; exact hd)) ?_
      refine R_op rfl rfl rfl (op_idxB Tryz.runUnderlying44 Tryz.sizeOf97 (Has.t rfl) (Has.t rfl) rfl (by omega) (by rw [Nat.mul_one, Nat.zero_add])) ?_
      refine R_st Tryz.sizeOf97 (Has.t rfl) (Has.t rfl) (i := 0) rfl (by first | omega | (simp; omega)) rfl ?_
      refine R_nil ?_
      refine T_blk ?_
      refine T_region ?_
      refine R_op rfl rfl rfl (op_move (Has.t rfl)) ?_
      refine R_op rfl rfl rfl (op_addN (Has.t rfl) (Has.cN 1) (by show _ < 9223372036854775808; first | omega | (simp only [lim]; omega))) ?_
      refine R_op rfl rfl rfl (op_assign (Has.t rfl)) ?_
      refine R_nil ?_
      refine T_again (i + 1, _) (hS.next (dig_dg m) hr hb rfl rfl) (by dsimp only; omega) (Sub.cons rfl (Sub.cons rfl (Sub.cons rfl (Sub.cons rfl Sub.nil)))) (HSub.cons (box_of (set_map2 _ _ _ _ _)) HSub.nil)
    · simp at hb
      have hkl : i = (dg m).length := Nat.le_antisymm hS.kle hb
      subst hkl
      have hlen := hS.len
      have hfin := hS.fin
      rw [val_dg, shift_split] at hfin
      refine T_exit rfl ?_
      refine T_freeze (i := 0) (tt := 5) rfl rfl (frz_ds rfl hlen.symm (Nat.le_refl _)) ?_
      refine T_seq ?_
      refine T_region ?_
      refine R_op rfl rfl rfl (op_move (Has.t rfl)) ?_
      refine R_op rfl rfl rfl (op_call Tryz.call207 (c_rtrim _ hS.dig (by omega)) ⟨(Has.t rfl), trivial⟩) ?_
      refine R_op rfl rfl rfl (op_assign (Has.t rfl)) ?_
      refine R_nil ?_
      refine T_ret1 rfl (rv_to (rv_tmp rfl) ?_)
      exact (natT_of hfin)
set_option maxRecDepth 20000 in
theorem c_rShr {m k : Nat} (hm : (dg m).length ≤ 17592186044416) (hk : k ≤ 562949953421312) : Fun Tryz.prog 232 [NatT m, NT .i64 k] (NatT (m / 2 ^ k)) := by
  refine Fun.intro Tryz.func232 rfl Tryz.ntmps232 rfl (fun cx => ?_)
  have hr := Nat.mod_lt k (by decide : 32 > 0)
  refine T_seq ?_
  refine T_region ?_
  refine R_op rfl rfl rfl (op_assign Has.c) ?_
  refine R_nil ?_
  refine T_seq ?_
  refine T_seq ?_
  refine T_region ?_
  refine R_op rfl rfl rfl (op_move (Has.t rfl)) ?_
  refine R_op rfl rfl rfl (op_quoN (Has.t rfl) (Has.cN 32) (by omega) (by show _ < 9223372036854775808; first | omega | (simp only [lim]; omega))) ?_
  refine R_op rfl rfl rfl (op_move (Has.t rfl)) ?_
  refine R_op rfl rfl rfl (op_len Tryz.runUnderlying44 (Has.t rfl) len_map) ?_
  refine R_op rfl rfl rfl (op_geqN (Has.t rfl) (Has.t rfl)) ?_
  refine R_nil ?_
  refine T_cond (Has.t rfl) (fun hb => ?_) (fun hb => ?_)
  · simp at hb
    have h0 := shr_none (dig_dg m) hb (r := k % 32)
    rw [val_dg, shift_split] at h0
    refine T_seq ?_
    refine T_region ?_
    refine R_op rfl rfl rfl (op_assign Has.c) ?_
    refine R_nil ?_
    refine T_ret1 rfl (rv_to (rv_tmp rfl) ?_)
    exact (fun v V h => natT_of h0.symm v V (nil_natT v V h))
  · simp at hb
    refine T_skip ?_
    refine T_seq ?_
    refine T_region ?_
    refine R_op rfl rfl rfl (op_move (Has.t rfl)) ?_
    refine R_op rfl rfl rfl (op_len Tryz.runUnderlying44 (Has.t rfl) len_map) ?_
    refine R_op rfl rfl rfl (op_move (Has.t rfl)) ?_
    refine R_op rfl rfl rfl (op_quoN (Has.t rfl) (Has.cN 32) (by omega) (by show _ < 9223372036854775808; first | omega | (simp only [lim]; omega))) ?_
    refine R_op rfl rfl rfl (op_subN (Has.t rfl) (Has.t rfl) (by omega) (by show _ < 9223372036854775808; first | omega | (simp only [lim]; omega))) ?_
    refine R_new rfl rfl rfl (new_make (T := U32T 0) (i := Tryz.t97) Tryz.underlying44 info_97 rfl rfl (Has.t rfl) rfl (fun _ => rfl) trivial (by show 4 * _ ≤ _; omega) (by omega)) (fun B18 => ?_)
    refine R_op rfl rfl rfl (op_assign (Has.t rfl)) ?_
    refine R_nil ?_
    refine T_seq ?_
    refine T_seq ?_
    refine T_region ?_
    refine R_op rfl rfl rfl (op_assign (Has.cN 0)) ?_
    refine R_nil ?_
    refine T_block ?_
    refine T_loop2 (fun (i : Nat) (out : List Nat) => ShrS (dg m) (k / 32) (k % 32) out i) (fun (i : Nat) (out : List Nat) => (dg m).length - i) (fun (i : Nat) (out : List Nat) => [(0, NatT m), (1, NT .i64 k), (5, Is (.slice (some ⟨B18, 0, none⟩) ((dg m).length - k / 32) ((dg m).length - k / 32))), (6, NT .i64 i)]) (fun (i : Nat) (out : List Nat) => [box B18 97 (out.map U32T)]) 0 (List.replicate ((dg m).length - k / 32) 0) (ShrS.start _ _ _)
      (Sub.cons rfl (Sub.cons rfl (Sub.cons rfl (Sub.cons rfl Sub.nil)))) (HSub.cons (box_of (rep_map _)) HSub.nil) (fun i out hS => ?_)
    refine T_seq ?_
    refine T_seq ?_
    refine T_region ?_
    refine R_op rfl rfl rfl (op_move (Has.t rfl)) ?_
    refine R_op rfl rfl rfl (op_move (Has.t rfl)) ?_
    refine R_op rfl rfl rfl (op_lenI Tryz.runUnderlying44 (Has.t rfl)) ?_
    refine R_op rfl rfl rfl (op_lssN (Has.t rfl) (Has.t rfl)) ?_
    refine R_nil ?_
    refine T_cond (Has.t rfl) (fun hb => ?_) (fun hb => ?_)
    · simp at hb
      have hlen := hS.len; have hx0 := getD_lt (dig_dg m) (i + k / 32); have hx1 := getD_lt (dig_dg m) (i + k / 32 + 1)
      have hio : i < out.length := by omega
      simp only [BB] at hx0 hx1
      refine T_skip ?_
      refine T_seq ?_
      refine T_block ?_
      refine T_seq ?_
      refine T_region ?_
      refine R_op rfl rfl rfl (op_move (Has.t rfl)) ?_
      refine R_op rfl rfl rfl (op_move (Has.t rfl)) ?_
      refine R_op rfl rfl rfl (op_move (Has.t rfl)) ?_
      refine R_op rfl rfl rfl (op_quoN (Has.t rfl) (Has.cN 32) (by omega) (by show _ < 9223372036854775808; first | omega | (simp only [lim]; omega))) ?_
      refine R_op rfl rfl rfl (op_addN (Has.t rfl) (Has.t rfl) (by show _ < 9223372036854775808; first | omega | (simp only [lim]; omega))) ?_
      refine R_op rfl rfl rfl (op_idx Tryz.runUnderlying44 Tryz.sizeOf97 (Has.t rfl) (Has.t rfl) rfl (map_get (get_some (by omega)))) ?_
      refine R_op rfl rfl rfl (op_ld Tryz.isAgg97 Tryz.sizeOf97 (Has.t rfl)) ?_
      refine R_op rfl rfl rfl (op_convN Tryz.runUnderlying97 Tryz.runUnderlying235 (Has.t rfl) (by show _ < 18446744073709551616; first | omega | (simp only [lim]; omega))) ?_
      refine R_op rfl rfl rfl (op_assign (Has.t rfl)) ?_
      refine R_nil ?_
      refine T_seq ?_
      refine T_join (fun (v : Nat) => v = (dg m).getD (i + k / 32) 0 + BB * (dg m).getD (i + k / 32 + 1) 0) (fun (v : Nat) => [(0, NatT m), (1, NT .i64 k), (5, Is (.slice (some ⟨B18, 0, none⟩) ((dg m).length - k / 32) ((dg m).length - k / 32))), (6, NT .i64 i), (7, NT .u64 v)]) (fun (v : Nat) => [box B18 97 (out.map U32T)]) ?_ (fun v hv => ?_)
      · refine T_seq ?_
        refine T_region ?_
        refine R_op rfl rfl rfl (op_move (Has.t rfl)) ?_
        refine R_op rfl rfl rfl (op_move (Has.t rfl)) ?_
        refine R_op rfl rfl rfl (op_quoN (Has.t rfl) (Has.cN 32) (by omega) (by show _ < 9223372036854775808; first | omega | (simp only [lim]; omega))) ?_
        refine R_op rfl rfl rfl (op_addN (Has.t rfl) (Has.t rfl) (by show _ < 9223372036854775808; first | omega | (simp only [lim]; omega))) ?_
        refine R_op rfl rfl rfl (op_addN (Has.t rfl) (Has.cN 1) (by show _ < 9223372036854775808; first | omega | (simp only [lim]; omega))) ?_
        refine R_op rfl rfl rfl (op_move (Has.t rfl)) ?_
        refine R_op rfl rfl rfl (op_len Tryz.runUnderlying44 (Has.t rfl) len_map) ?_
        refine R_op rfl rfl rfl (op_lssN (Has.t rfl) (Has.t rfl)) ?_
        refine R_nil ?_
        refine T_cond (Has.t rfl) (fun hk2 => ?_) (fun hk2 => ?_)
        · simp at hk2
          refine T_region ?_
          refine R_op rfl rfl rfl (op_move (Has.t rfl)) ?_
          refine R_op rfl rfl rfl (op_move (Has.t rfl)) ?_
          refine R_op rfl rfl rfl (op_move (Has.t rfl)) ?_
          refine R_op rfl rfl rfl (op_move (Has.t rfl)) ?_
          refine R_op rfl rfl rfl (op_quoN (Has.t rfl) (Has.cN 32) (by omega) (by show _ < 9223372036854775808; first | omega | (simp only [lim]; omega))) ?_
          refine R_op rfl rfl rfl (op_addN (Has.t rfl) (Has.t rfl) (by show _ < 9223372036854775808; first | omega | (simp only [lim]; omega))) ?_
          refine R_op rfl rfl rfl (op_addN (Has.t rfl) (Has.cN 1) (by show _ < 9223372036854775808; first | omega | (simp only [lim]; omega))) ?_
          refine R_op rfl rfl rfl (op_idx Tryz.runUnderlying44 Tryz.sizeOf97 (Has.t rfl) (Has.t rfl) rfl (map_get (get_some (by omega)))) ?_
          refine R_op rfl rfl rfl (op_ld Tryz.isAgg97 Tryz.sizeOf97 (Has.t rfl)) ?_
          refine R_op rfl rfl rfl (op_convN Tryz.runUnderlying97 Tryz.runUnderlying235 (Has.t rfl) (by show _ < 18446744073709551616; first | omega | (simp only [lim]; omega))) ?_
          refine R_op rfl rfl rfl (op_shlN (Has.t rfl) (Has.cN 32) (by decide) (by show _ < 18446744073709551616; omega)) ?_
          refine R_op rfl rfl rfl (OpTy.nat (op_orN rfl (Has.t rfl) (Has.t rfl) (by show _ < 18446744073709551616; first | omega | (simp only [lim]; omega)) (by show _ < 18446744073709551616; first | omega | (simp only [lim]; omega))) (or_add' hx0)) ?_
          refine R_op rfl rfl rfl (op_assign (Has.t rfl)) ?_
          refine R_nil ?_
          refine T_joined ((dg m).getD (i + k / 32) 0 + BB * (dg m).getD (i + k / 32 + 1) 0) rfl (Sub.cons rfl (Sub.cons rfl (Sub.cons rfl (Sub.cons rfl (Sub.cons rfl Sub.nil))))) (HSub.refl _)
        · simp at hk2
          refine T_skip ?_
          refine T_joined ((dg m).getD (i + k / 32) 0) (by simp [List.getD, List.getElem?_eq_none hk2]) (Sub.cons rfl (Sub.cons rfl (Sub.cons rfl (Sub.cons rfl (Sub.cons rfl Sub.nil))))) (HSub.refl _)
      · refine T_region ?_
        refine R_op rfl rfl rfl (op_move (Has.t rfl)) ?_
        refine R_op rfl rfl rfl (op_move (Has.t rfl)) ?_
        refine R_op rfl rfl rfl (op_move (Has.t rfl)) ?_
        refine R_op rfl rfl rfl (op_move (Has.t rfl)) ?_
        refine R_op rfl rfl rfl (op_remN (Has.t rfl) (Has.cN 32) (by omega)) ?_
        refine R_op rfl rfl rfl (op_convN Tryz.runUnderlying3 Tryz.runUnderlying241 (Has.t rfl) (by show _ < 18446744073709551616; first | omega | (simp only [lim]; omega))) ?_
        refine R_op rfl rfl rfl (op_shrN (Has.t rfl) (Has.t rfl) (by show _ ≤ 64; omega)) ?_
        refine R_op rfl rfl rfl (op_convU rfl Tryz.runUnderlying235 Tryz.runUnderlying97 (Has.t rfl)) ?_
        refine R_op rfl rfl rfl (op_idxB Tryz.runUnderlying44 Tryz.sizeOf97 (Has.t rfl) (Has.t rfl) rfl (by omega) (by rw [Nat.mul_one, Nat.zero_add])) ?_
        refine R_st Tryz.sizeOf97 (Has.t rfl) (Has.t rfl) (i := 0) rfl (by first | omega | (simp; omega)) rfl ?_
        refine R_nil ?_
        refine T_blk ?_
        refine T_region ?_
        refine R_op rfl rfl rfl (op_move (Has.t rfl)) ?_
        refine R_op rfl rfl rfl (op_addN (Has.t rfl) (Has.cN 1) (by show _ < 9223372036854775808; first | omega | (simp only [lim]; omega))) ?_
        refine R_op rfl rfl rfl (op_assign (Has.t rfl)) ?_
        refine R_nil ?_
        refine T_again (i + 1, _) (hS.next (dig_dg m) hr hio (by rw [hv]; rfl)) (by dsimp only; omega) (Sub.cons rfl (Sub.cons rfl (Sub.cons rfl (Sub.cons rfl Sub.nil)))) (HSub.cons (box_of (set_map _ _ _)) HSub.nil)
    · simp at hb
      have hlen := hS.len
      have hkl : i = out.length := Nat.le_antisymm hS.kle (by omega)
      subst hkl
      have hfin := hS.fin (dig_dg m) (by omega)
      rw [val_dg, shift_split] at hfin
      refine T_exit rfl ?_
      refine T_freeze (i := 0) (tt := 5) rfl rfl (frz_ds rfl hlen.symm (Nat.le_refl _)) ?_
      refine T_seq ?_
      refine T_region ?_
      refine R_op rfl rfl rfl (op_move (Has.t rfl)) ?_
      refine R_op rfl rfl rfl (op_call Tryz.call207 (c_rtrim _ hS.dig (by omega)) ⟨(Has.t rfl), trivial⟩) ?_
      refine R_op rfl rfl rfl (op_assign (Has.t rfl)) ?_
      refine R_nil ?_
      refine T_ret1 rfl (rv_to (rv_tmp rfl) ?_)
      exact (natT_of hfin)
set_option maxRecDepth 20000 in
theorem c_rDiv {m n : Nat} (hm : (dg m).length ≤ 17592186044415) (hn1 : (dg n).length ≤ 17592186044416) (hn : n ≠ 0) : Fun Tryz.prog 203 [NatT m, NatT n] (TupT [NatT (m / n), NatT (m % n)]) := by
  refine Fun.intro Tryz.func203 rfl Tryz.ntmps203 rfl (fun cx => ?_)
  refine T_seq ?_
  refine T_region ?_
  refine R_op rfl rfl rfl (op_assign Has.c) ?_
  refine R_op rfl rfl rfl (op_assign Has.c) ?_
  refine R_nil ?_
  refine T_seq ?_
  refine T_seq ?_
  refine T_region ?_
  refine R_op rfl rfl rfl (op_move (Has.t rfl)) ?_
  refine R_op rfl rfl rfl (op_move (Has.t rfl)) ?_
  refine R_op rfl rfl rfl (op_call Tryz.call116 (c_rNatCmp (by omega) (by omega)) ⟨(Has.t rfl), (Has.t rfl), trivial⟩) ?_
  refine R_op rfl rfl rfl (op_lss (Has.t rfl) Has.c) ?_
  refine R_nil ?_
  refine T_cond (Has.t rfl) (fun hb => ?_) (fun hb => ?_)
  · simp only [decide_eq_true_eq] at hb
    have hlt : m < n := cmpZ_lt hb
    refine T_seq ?_
    refine T_region ?_
    refine R_op rfl rfl rfl (op_move (Has.t rfl)) ?_
    refine R_op rfl rfl rfl (op_assign Has.c) ?_
    refine R_op rfl rfl rfl (op_assign (Has.t rfl)) ?_
    refine R_nil ?_
    refine T_ret2 rfl (rv_to (rv_tmp rfl) ?_) (rv_to (rv_tmp rfl) ?_)
    · exact (fun v V h => natT_of (Nat.div_eq_of_lt hlt).symm v V (nil_natT v V h))
    · exact (natT_of (Nat.mod_eq_of_lt hlt).symm)
  · simp only [decide_eq_false_iff_not] at hb
    have hle : n ≤ m := cmpZ_ge (by omega)
    clear hb
    refine T_skip ?_
    refine T_seq ?_
    refine T_seq ?_
    refine T_region ?_
    refine R_op rfl rfl rfl (op_move (Has.t rfl)) ?_
    refine R_op rfl rfl rfl (op_len Tryz.runUnderlying44 (Has.t rfl) len_map) ?_
    refine R_op rfl rfl rfl (op_eqlN (Has.t rfl) (Has.cN 1)) ?_
    refine R_nil ?_
    refine T_cond (Has.t rfl) (fun h1 => ?_) (fun h1 => ?_)
    · simp at h1
      have hy0 := dg_one h1
      have hyb := getD_lt (dig_dg n) 0
      have hmod := Nat.mod_lt m (show (dg n).getD 0 0 > 0 by omega)
      have hyb2 := hyb
      simp only [BB] at hyb
      refine T_seq ?_
      refine T_region ?_
      refine R_op rfl rfl rfl (op_move (Has.t rfl)) ?_
      refine R_op rfl rfl rfl (op_move (Has.t rfl)) ?_
      refine R_op rfl rfl rfl (op_idx Tryz.runUnderlying44 Tryz.sizeOf97 (Has.t rfl) (Has.cN 0) rfl (map_get (get_some (by omega)))) ?_
      refine R_op rfl rfl rfl (op_ld Tryz.isAgg97 Tryz.sizeOf97 (Has.t rfl)) ?_
      refine R_op rfl rfl rfl (op_call Tryz.call229 (c_rDigit (by omega) (by omega) hyb2) ⟨(Has.t rfl), (Has.t rfl), trivial⟩) ?_
      refine R_op rfl rfl rfl (op_move (Has.t rfl)) ?_
      refine R_op rfl rfl rfl (op_extract (Has.t rfl) rfl) ?_
      refine R_op rfl rfl rfl (op_extract (Has.t rfl) rfl) ?_
      refine R_op rfl rfl rfl (op_assign (Has.t rfl)) ?_
      refine R_op rfl rfl rfl (op_assign (Has.t rfl)) ?_
      refine R_nil ?_
      refine T_seq ?_
      refine T_region ?_
      refine R_op rfl rfl rfl (op_move (Has.t rfl)) ?_
      refine R_op rfl rfl rfl (op_move (Has.t rfl)) ?_
      refine R_op rfl rfl rfl (op_convN Tryz.runUnderlying97 Tryz.runUnderlying235 (Has.t rfl) (by show _ < 18446744073709551616; first | omega | (simp only [lim]; omega))) ?_
      refine R_op rfl rfl rfl (op_call Tryz.call201 (c_rNatOf (by omega)) ⟨(Has.t rfl), trivial⟩) ?_
      refine R_op rfl rfl rfl (op_assign (Has.t rfl)) ?_
      refine R_op rfl rfl rfl (op_assign (Has.t rfl)) ?_
      refine R_nil ?_
      refine T_ret2 rfl (rv_to (rv_tmp rfl) ?_) (rv_to (rv_tmp rfl) ?_)
      · exact (natT_of (by rw [hy0]))
      · exact (natT_of (by rw [hy0]))
    · simp at h1
      have hl0 : (dg n).length ≠ 0 := fun e => hn (dg_length_zero.1 e)
      have hyb := getD_lt (dig_dg n) ((dg n).length - 1)
      obtain ⟨s, hs⟩ : ∃ s, s = 32 - bl ((dg n).getD ((dg n).length - 1) 0) := ⟨_, rfl⟩
      obtain ⟨hs1, hvl, hvb⟩ := div_norm hn hs
      obtain ⟨hc1, hc2, hc3, hc4⟩ := copyU_ok (m := m) hs1
      have hbl := bl_le_of_lt (k := 32) hyb
      simp only [BB] at hyb
      have hp2 : 0 < 2 ^ s := Nat.pow_pos (by decide)
      have hX0 : (dg (m * 2 ^ s)).length ≠ 0 := fun e => (Nat.ne_of_gt (Nat.mul_pos (show 0 < m by omega) hp2)) (dg_length_zero.1 e)
      have hmono := val_mono_len hle
      refine T_skip ?_
      refine T_seq ?_
      refine T_region ?_
      refine R_op rfl rfl rfl (op_move (Has.t rfl)) ?_
      refine R_op rfl rfl rfl (op_len Tryz.runUnderlying44 (Has.t rfl) len_map) ?_
      refine R_op rfl rfl rfl (op_mulN (Has.cN 32) (Has.t rfl) (by show _ < 9223372036854775808; first | omega | (simp only [lim]; omega))) ?_
      refine R_op rfl rfl rfl (op_move (Has.t rfl)) ?_
      refine R_op rfl rfl rfl (op_call Tryz.call230 (c_rBits (by omega) hn) ⟨(Has.t rfl), trivial⟩) ?_
      refine R_op rfl rfl rfl (OpTy.nat (op_subN (Has.t rfl) (Has.t rfl) (by omega) (by show _ < 9223372036854775808; first | omega | (simp only [lim]; omega))) (show 32 * (dg n).length - (32 * ((dg n).length - 1) + bl ((dg n).getD ((dg n).length - 1) 0)) = s by omega)) ?_
      refine R_op rfl rfl rfl (op_assign (Has.t rfl)) ?_
      refine R_nil ?_
      refine T_seq ?_
      refine T_region ?_
      refine R_op rfl rfl rfl (op_move (Has.t rfl)) ?_
      refine R_op rfl rfl rfl (op_move (Has.t rfl)) ?_
      refine R_op rfl rfl rfl (op_call Tryz.call231 (c_rShl (by omega) (by omega)) ⟨(Has.t rfl), (Has.t rfl), trivial⟩) ?_
      refine R_op rfl rfl rfl (op_assign (Has.t rfl)) ?_
      refine R_nil ?_
      refine T_seq ?_
      refine T_region ?_
      refine R_op rfl rfl rfl (op_move (Has.t rfl)) ?_
      refine R_op rfl rfl rfl (op_len Tryz.runUnderlying44 (Has.t rfl) len_map) ?_
      refine R_op rfl rfl rfl (op_addN (Has.t rfl) (Has.cN 1) (by show _ < 9223372036854775808; first | omega | (simp only [lim]; omega))) ?_
      refine R_new rfl rfl rfl (new_make (T := U32T 0) (i := Tryz.t97) Tryz.underlying44 info_97 rfl rfl (Has.t rfl) rfl (fun _ => rfl) trivial (by show 4 * _ ≤ _; omega) (by omega)) (fun B57 => ?_)
      refine R_op rfl rfl rfl (op_assign (Has.t rfl)) ?_
      refine R_nil ?_
      refine T_seq ?_
      refine T_region ?_
      refine R_op rfl rfl rfl (op_move (Has.t rfl)) ?_
      refine R_op rfl rfl rfl (op_move (Has.t rfl)) ?_
      refine R_op rfl rfl rfl (op_move (Has.t rfl)) ?_
      refine R_op rfl rfl rfl (op_call Tryz.call231 (c_rShl (by omega) (by omega)) ⟨(Has.t rfl), (Has.t rfl), trivial⟩) ?_
      refine R_copyB Tryz.runUnderlying44 Tryz.sizeOf97 (Has.t rfl) (Has.t rfl) (map_ne hX0) sh_ds (i := 0) rfl (by simp) (by simp; omega) (copy_map _ _) rfl rfl ?_
      refine R_nil ?_
      refine T_seq ?_
      obtain ⟨vs, hvs⟩ : ∃ vs, vs = dg (n * 2 ^ s) := ⟨_, rfl⟩
      rw [← hvs] at hvl hvb
      have hv : Dig vs := hvs ▸ dig_dg _
      have hvv : val vs = n * 2 ^ s := by rw [hvs, val_dg]
      have hV0 : 0 < val vs := by rw [hvv]; exact Nat.mul_pos (by omega) hp2
      have hnr := norm_of hv (by omega) hvb
      have hv1 := hnr.v1lt; have hv2 := hnr.v2lt; have hbig := hnr.big
      simp only [BB] at hv1 hv2 hbig
      refine T_sub (E' := [(8, _), (9, _), (10, _)]) (Sub.cons rfl (Sub.to rfl (dsT_of hvs.symm) (Sub.cons rfl Sub.nil))) ?_
      refine T_region ?_
      refine R_op rfl rfl rfl (op_move (Has.t rfl)) ?_
      refine R_op rfl rfl rfl (op_len Tryz.runUnderlying44 (Has.t rfl) len_map) ?_
      refine R_op rfl rfl rfl (op_assign (Has.t rfl)) ?_
      refine R_nil ?_
      refine T_seq ?_
      refine T_region ?_
      refine R_op rfl rfl rfl (op_move (Has.t rfl)) ?_
      refine R_op rfl rfl rfl (op_lenI Tryz.runUnderlying44 (Has.t rfl)) ?_
      refine R_op rfl rfl rfl (op_move (Has.t rfl)) ?_
      refine R_op rfl rfl rfl (op_subN (Has.t rfl) (Has.t rfl) (by omega) (by show _ < 9223372036854775808; first | omega | (simp only [lim]; omega))) ?_
      refine R_new rfl rfl rfl (new_make (T := U32T 0) (i := Tryz.t97) Tryz.underlying44 info_97 rfl rfl (Has.t rfl) rfl (fun _ => rfl) trivial (by show 4 * _ ≤ _; omega) (by omega)) (fun B69 => ?_)
      refine R_op rfl rfl rfl (op_assign (Has.t rfl)) ?_
      refine R_nil ?_
      refine T_seq ?_
      refine T_seq ?_
      refine T_region ?_
      refine R_op rfl rfl rfl (op_move (Has.t rfl)) ?_
      refine R_op rfl rfl rfl (op_lenI Tryz.runUnderlying44 (Has.t rfl)) ?_
      refine R_op rfl rfl rfl (op_sub (Has.t rfl) Has.c (w64 (by omega))) ?_
      refine R_op rfl rfl rfl (op_assign (Has.t rfl)) ?_
      refine R_nil ?_
      refine T_block ?_
      refine T_loop3 (fun (k : Nat) (us : List Nat) (qs : List Nat) => DivS (m * 2 ^ s) vs us qs k ∧ us.length = (dg m).length + 1) (fun (k : Nat) (us : List Nat) (qs : List Nat) => k) (fun (k : Nat) (us : List Nat) (qs : List Nat) => [(8, NT .i64 s), (9, DsT vs), (10, Is (.slice (some ⟨B57, 0, none⟩) ((dg m).length + 1) ((dg m).length + 1))), (11, NT .i64 vs.length), (12, Is (.slice (some ⟨B69, 0, none⟩) ((dg m).length + 1 - vs.length) ((dg m).length + 1 - vs.length))), (13, IntT .i64 ((k : Int) - 1))]) (fun (k : Nat) (us : List Nat) (qs : List Nat) => [box B57 97 (us.map U32T), box B69 97 (qs.map U32T)]) ((dg m).length + 1 - vs.length) (copyU m s) (List.replicate ((dg m).length + 1 - vs.length) 0) ⟨DivS.start hv (by omega) hvb hs1 (by have := val_lt (dig_dg m); rwa [val_dg] at this) hc3 hc2 hc4 (by omega), hc2⟩
        (Sub.cons rfl (Sub.cons rfl (Sub.cons rfl (Sub.cons rfl (Sub.cons rfl (Sub.to rfl (int_of (by omega)) Sub.nil)))))) (HSub.cons (fun _ _ _ h => h) (HSub.cons (box_of (rep_map _)) HSub.nil)) (fun k us qs ⟨hS, hus⟩ => ?_)
      refine T_seq ?_
      refine T_seq ?_
      refine T_region ?_
      refine R_op rfl rfl rfl (op_move (Has.t rfl)) ?_
      refine R_op rfl rfl rfl (op_geq (Has.t rfl) Has.c) ?_
      refine R_nil ?_
      refine T_cond (Has.t rfl) (fun hk => ?_) (fun hk => ?_)
      · simp at hk
        obtain ⟨j, rfl⟩ : ∃ j, k = j + 1 := ⟨k - 1, by omega⟩
        have htp := hS.top hv (by omega) (Nat.succ_pos j) rfl
        have hkq := hS.kle; have hlq := hS.lenq
        rw [Nat.add_sub_cancel] at htp
        have hu0 := getD_lt hS.dig (j + vs.length); have hu1 := getD_lt hS.dig (j + vs.length - 1); have hu2 := getD_lt hS.dig (j + vs.length - 2)
        have ht64 := top64 hu0 hu1; have hsh := shl32 hu0
        obtain ⟨top, htop⟩ : ∃ top, top = us.getD (j + vs.length) 0 * BB + us.getD (j + vs.length - 1) 0 := ⟨_, rfl⟩
        have hor := (or_add (a := us.getD (j + vs.length) 0) hu1).trans htop.symm
        rw [← htop] at htp ht64
        have hu2b := hu2
        simp only [BB] at hu0 hu1 hu2
        refine T_sub (E' := [(8, _), (9, _), (10, _), (11, _), (12, _), (13, _), (73, _), (74, _)]) (Sub.cons rfl (Sub.cons rfl (Sub.cons rfl (Sub.cons rfl (Sub.cons rfl (Sub.to rfl (int_of (show ((j + 1 : Nat) : Int) - 1 = (j : Int) by omega)) (Sub.cons rfl (Sub.cons rfl Sub.nil)))))))) ?_
        refine T_skip ?_
        refine T_seq ?_
        refine T_block ?_
        refine T_seq ?_
        refine D_start (m := 16) ?_
        refine D_step (Ei := [(10, _)]) rfl rfl (Srcs.cons (Src.pre rfl rfl) Srcs.nil) (S_plain rfl (op_move (Has.t rfl))) ?_
        refine D_step (Ei := [(13, _)]) rfl rfl (Srcs.cons (Src.pre rfl rfl) Srcs.nil) (S_plain rfl (op_move (Has.t rfl))) ?_
        refine D_step (Ei := [(11, _)]) rfl rfl (Srcs.cons (Src.pre rfl rfl) Srcs.nil) (S_plain rfl (op_move (Has.t rfl))) ?_
        refine D_step (Ei := [(78, _), (79, _)]) rfl rfl (Srcs.cons (Src.op 1 rfl rfl) (Srcs.cons (Src.op 2 rfl rfl) Srcs.nil)) (S_plain rfl (op_addN (Has.t rfl) (Has.t rfl) (by show _ < 9223372036854775808; first | omega | (simp only [lim]; omega)))) ?_
        refine D_step (Ei := [(77, _), (80, _)]) rfl rfl (Srcs.cons (Src.op 0 rfl rfl) (Srcs.cons (Src.op 3 rfl rfl) Srcs.nil)) (S_plain rfl (op_idxB Tryz.runUnderlying44 Tryz.sizeOf97 (Has.t rfl) (Has.t rfl) rfl (by omega) (by rw [Nat.mul_one, Nat.zero_add]))) ?_
        refine D_step (Ei := [(81, _)]) rfl rfl (Srcs.cons (Src.op 4 rfl rfl) Srcs.nil) (S_plain rfl (op_ldB Tryz.isAgg97 Tryz.sizeOf97 (Has.t rfl) (i := 0) rfl (map_get (get_some (by omega))))) ?_
        refine D_step (Ei := [(82, _)]) rfl rfl (Srcs.cons (Src.op 5 rfl rfl) Srcs.nil) (S_plain rfl (op_convN Tryz.runUnderlying97 Tryz.runUnderlying235 (Has.t rfl) (by show _ < 18446744073709551616; first | omega | (simp only [lim]; omega)))) ?_
        refine D_step (Ei := [(83, _)]) rfl rfl (Srcs.cons (Src.op 6 rfl rfl) Srcs.nil) (S_plain rfl (op_shlN (Has.t rfl) (Has.cN 32) (by decide) hsh)) ?_
        refine D_step (Ei := [(10, _)]) rfl rfl (Srcs.cons (Src.pre rfl rfl) Srcs.nil) (S_plain rfl (op_move (Has.t rfl))) ?_
        refine D_step (Ei := [(13, _)]) rfl rfl (Srcs.cons (Src.pre rfl rfl) Srcs.nil) (S_plain rfl (op_move (Has.t rfl))) ?_
        refine D_step (Ei := [(11, _)]) rfl rfl (Srcs.cons (Src.pre rfl rfl) Srcs.nil) (S_plain rfl (op_move (Has.t rfl))) ?_
        refine D_step (Ei := [(86, _), (87, _)]) rfl rfl (Srcs.cons (Src.op 9 rfl rfl) (Srcs.cons (Src.op 10 rfl rfl) Srcs.nil)) (S_plain rfl (op_addN (Has.t rfl) (Has.t rfl) (by show _ < 9223372036854775808; first | omega | (simp only [lim]; omega)))) ?_
        refine D_step (Ei := [(88, _)]) rfl rfl (Srcs.cons (Src.op 11 rfl rfl) Srcs.nil) (S_plain rfl (op_subN (Has.t rfl) (Has.cN 1) (by omega) (by show _ < 9223372036854775808; first | omega | (simp only [lim]; omega)))) ?_
        refine D_step (Ei := [(85, _), (89, _)]) rfl rfl (Srcs.cons (Src.op 8 rfl rfl) (Srcs.cons (Src.op 12 rfl rfl) Srcs.nil)) (S_plain rfl (op_idxB Tryz.runUnderlying44 Tryz.sizeOf97 (Has.t rfl) (Has.t rfl) rfl (by omega) (by rw [Nat.mul_one, Nat.zero_add]))) ?_
        refine D_step (Ei := [(90, _)]) rfl rfl (Srcs.cons (Src.op 13 rfl rfl) Srcs.nil) (S_plain rfl (op_ldB Tryz.isAgg97 Tryz.sizeOf97 (Has.t rfl) (i := 0) rfl (map_get (get_some (by omega))))) ?_
        refine D_step (Ei := [(91, _)]) rfl rfl (Srcs.cons (Src.op 14 rfl rfl) Srcs.nil) (S_plain rfl (op_convN Tryz.runUnderlying97 Tryz.runUnderlying235 (Has.t rfl) (by show _ < 18446744073709551616; first | omega | (simp only [lim]; omega)))) ?_
        refine D_done mixed rfl (by kernel_rfl) (F_val (F_val (F_val (F_val (F_val (F_val (F_val (F_val (F_val (F_val (F_val (F_val (F_val (F_val (F_val (F_val (F_nil ?_)))))))))))))))))
        refine R_op rfl rfl rfl (OpTy.nat (op_orN rfl (Has.t rfl) (Has.t rfl) (by show _ < 18446744073709551616; first | omega | (simp only [lim]; omega)) (by show _ < 18446744073709551616; first | omega | (simp only [lim]; omega))) hor) ?_
        refine R_op rfl rfl rfl (op_assign (Has.t rfl)) ?_
        refine R_nil ?_
        refine T_seq ?_
        refine T_region ?_
        refine R_op rfl rfl rfl (op_move (Has.t rfl)) ?_
        refine R_op rfl rfl rfl (op_move (Has.t rfl)) ?_
        refine R_op rfl rfl rfl (op_move (Has.t rfl)) ?_
        refine R_op rfl rfl rfl (op_subN (Has.t rfl) (Has.cN 1) (by omega) (by show _ < 9223372036854775808; first | omega | (simp only [lim]; omega))) ?_
        refine R_op rfl rfl rfl (op_idx Tryz.runUnderlying44 Tryz.sizeOf97 (Has.t rfl) (Has.t rfl) rfl (map_get (get_some (by omega)))) ?_
        refine R_op rfl rfl rfl (op_ld Tryz.isAgg97 Tryz.sizeOf97 (Has.t rfl)) ?_
        refine R_op rfl rfl rfl (op_convN Tryz.runUnderlying97 Tryz.runUnderlying235 (Has.t rfl) (by show _ < 18446744073709551616; first | omega | (simp only [lim]; omega))) ?_
        refine R_op rfl rfl rfl (op_quoN (Has.t rfl) (Has.t rfl) (by omega) (by show _ < 18446744073709551616; exact ht64)) ?_
        refine R_op rfl rfl rfl (op_assign (Has.t rfl)) ?_
        refine R_nil ?_
        refine T_seq ?_
        refine T_region ?_
        refine R_op rfl rfl rfl (op_move (Has.t rfl)) ?_
        refine R_op rfl rfl rfl (op_move (Has.t rfl)) ?_
        refine R_op rfl rfl rfl (op_move (Has.t rfl)) ?_
        refine R_op rfl rfl rfl (op_subN (Has.t rfl) (Has.cN 1) (by omega) (by show _ < 9223372036854775808; first | omega | (simp only [lim]; omega))) ?_
        refine R_op rfl rfl rfl (op_idx Tryz.runUnderlying44 Tryz.sizeOf97 (Has.t rfl) (Has.t rfl) rfl (map_get (get_some (by omega)))) ?_
        refine R_op rfl rfl rfl (op_ld Tryz.isAgg97 Tryz.sizeOf97 (Has.t rfl)) ?_
        refine R_op rfl rfl rfl (op_convN Tryz.runUnderlying97 Tryz.runUnderlying235 (Has.t rfl) (by show _ < 18446744073709551616; first | omega | (simp only [lim]; omega))) ?_
        refine R_op rfl rfl rfl (op_remN (Has.t rfl) (Has.t rfl) (by omega)) ?_
        refine R_op rfl rfl rfl (op_assign (Has.t rfl)) ?_
        refine R_nil ?_
        refine T_seq ?_
        refine T_join (fun (g : Nat) => Near (val (us.drop j)) (val vs) g) (fun (g : Nat) => [(8, NT .i64 s), (9, DsT vs), (10, Is (.slice (some ⟨B57, 0, none⟩) ((dg m).length + 1) ((dg m).length + 1))), (11, NT .i64 vs.length), (12, Is (.slice (some ⟨B69, 0, none⟩) ((dg m).length + 1 - vs.length) ((dg m).length + 1 - vs.length))), (13, NT .i64 j), (15, NT .u64 g)]) (fun (g : Nat) => [box B57 97 (us.map U32T), box B69 97 (qs.map U32T)]) ?_ (fun g hg => ?_)
        · refine T_block ?_
          refine T_loop2 (fun (g : Nat) (r : Nat) => GuessS (val (us.drop j)) (val vs) (vs.getD (vs.length - 1) 0) top g r ∧ r < 4294967296) (fun (g : Nat) (r : Nat) => g) (fun (g : Nat) (r : Nat) => [(8, NT .i64 s), (9, DsT vs), (10, Is (.slice (some ⟨B57, 0, none⟩) ((dg m).length + 1) ((dg m).length + 1))), (11, NT .i64 vs.length), (12, Is (.slice (some ⟨B69, 0, none⟩) ((dg m).length + 1 - vs.length) ((dg m).length + 1 - vs.length))), (13, NT .i64 j), (15, NT .u64 g), (16, NT .u64 r)]) (fun (g : Nat) (r : Nat) => [box B57 97 (us.map U32T), box B69 97 (qs.map U32T)]) (top / vs.getD (vs.length - 1) 0) (top % vs.getD (vs.length - 1) 0) ⟨GuessS.start hnr htp, Nat.lt_trans (Nat.mod_lt _ (by omega)) hv1⟩
            (Sub.cons rfl (Sub.cons rfl (Sub.cons rfl (Sub.cons rfl (Sub.cons rfl (Sub.cons rfl (Sub.cons rfl (Sub.cons rfl Sub.nil)))))))) (HSub.refl _) (fun g r ⟨hG, hr⟩ => ?_)
          have hgl := (hG.glt hnr htp).1
          have hrs := shl32 (a := r) hr
          have horr := or_add (a := r) hu2b
          simp only [BB] at hgl
          refine T_seq ?_
          refine T_seq ?_
          refine D_start (m := 22) ?_
          refine D_step (Ei := [(15, _)]) rfl rfl (Srcs.cons (Src.pre rfl rfl) Srcs.nil) (S_plain rfl (op_move (Has.t rfl))) ?_
          refine D_step (Ei := [(110, _)]) rfl rfl (Srcs.cons (Src.op 0 rfl rfl) Srcs.nil) (S_plain rfl (op_geqN (Has.t rfl) (Has.cN 4294967296))) ?_
          refine D_step (Ei := [(111, _)]) rfl rfl (Srcs.cons (Src.op 1 rfl rfl) Srcs.nil) (S_plain rfl (op_move (Has.t rfl))) ?_
          refine D_step (Ei := [(15, _), (112, _)]) rfl rfl (Srcs.cons (Src.pre rfl rfl) (Srcs.cons (Src.op 2 rfl rfl) Srcs.nil)) (S_when rfl rfl (Has.t rfl) (fun h => op_move (Has.t rfl))) ?_
          refine D_step (Ei := [(9, _), (112, _)]) rfl rfl (Srcs.cons (Src.pre rfl rfl) (Srcs.cons (Src.op 2 rfl rfl) Srcs.nil)) (S_when rfl rfl (Has.t rfl) (fun h => op_move (Has.t rfl))) ?_
          refine D_step (Ei := [(11, _), (112, _)]) rfl rfl (Srcs.cons (Src.pre rfl rfl) (Srcs.cons (Src.op 2 rfl rfl) Srcs.nil)) (S_when rfl rfl (Has.t rfl) (fun h => op_move (Has.t rfl))) ?_
          refine D_step (Ei := [(115, _), (112, _)]) rfl rfl (Srcs.cons (Src.op 5 rfl rfl) (Srcs.cons (Src.op 2 rfl rfl) Srcs.nil)) (S_when rfl rfl (Has.t rfl) (fun h => op_subN (Has.w rfl h) (Has.cN 2) (by first | omega | (simp at h; omega)) (by show _ < 9223372036854775808; first | omega | (simp at h; omega)))) ?_
          refine D_step (Ei := [(114, _), (116, _), (112, _)]) rfl rfl (Srcs.cons (Src.op 4 rfl rfl) (Srcs.cons (Src.op 6 rfl rfl) (Srcs.cons (Src.op 2 rfl rfl) Srcs.nil))) (S_when rfl rfl (Has.t rfl) (fun h => op_idx Tryz.runUnderlying44 Tryz.sizeOf97 (Has.w rfl h) (Has.w rfl h) rfl (map_get (get_some (by first | omega | (simp at h; omega)))))) ?_
          refine D_step (Ei := [(117, _), (112, _)]) rfl rfl (Srcs.cons (Src.op 7 rfl rfl) (Srcs.cons (Src.op 2 rfl rfl) Srcs.nil)) (S_when rfl rfl (Has.t rfl) (fun h => op_ld Tryz.isAgg97 Tryz.sizeOf97 (Has.w rfl h))) ?_
          refine D_step (Ei := [(118, _), (112, _)]) rfl rfl (Srcs.cons (Src.op 8 rfl rfl) (Srcs.cons (Src.op 2 rfl rfl) Srcs.nil)) (S_when rfl rfl (Has.t rfl) (fun h => op_convN Tryz.runUnderlying97 Tryz.runUnderlying235 (Has.w rfl h) (by show _ < 18446744073709551616; first | omega | (simp at h; omega)))) ?_
          refine D_step (Ei := [(113, _), (119, _), (112, _)]) rfl rfl (Srcs.cons (Src.op 3 rfl rfl) (Srcs.cons (Src.op 9 rfl rfl) (Srcs.cons (Src.op 2 rfl rfl) Srcs.nil))) (S_when rfl rfl (Has.t rfl) (fun h => op_mulN (Has.w rfl h) (Has.w rfl h) (by show _ < 18446744073709551616; simp at h; exact mul64 h hv2))) ?_
          refine D_step (Ei := [(16, _), (112, _)]) rfl rfl (Srcs.cons (Src.pre rfl rfl) (Srcs.cons (Src.op 2 rfl rfl) Srcs.nil)) (S_when rfl rfl (Has.t rfl) (fun h => op_move (Has.t rfl))) ?_
          refine D_step (Ei := [(121, _), (112, _)]) rfl rfl (Srcs.cons (Src.op 11 rfl rfl) (Srcs.cons (Src.op 2 rfl rfl) Srcs.nil)) (S_when rfl rfl (Has.t rfl) (fun h => op_shlN (Has.w rfl h) (Has.cN 32) (by decide) hrs)) ?_
          refine D_step (Ei := [(10, _), (112, _)]) rfl rfl (Srcs.cons (Src.pre rfl rfl) (Srcs.cons (Src.op 2 rfl rfl) Srcs.nil)) (S_when rfl rfl (Has.t rfl) (fun h => op_move (Has.t rfl))) ?_
          refine D_step (Ei := [(13, _), (112, _)]) rfl rfl (Srcs.cons (Src.pre rfl rfl) (Srcs.cons (Src.op 2 rfl rfl) Srcs.nil)) (S_when rfl rfl (Has.t rfl) (fun h => op_move (Has.t rfl))) ?_
          refine D_step (Ei := [(11, _), (112, _)]) rfl rfl (Srcs.cons (Src.pre rfl rfl) (Srcs.cons (Src.op 2 rfl rfl) Srcs.nil)) (S_when rfl rfl (Has.t rfl) (fun h => op_move (Has.t rfl))) ?_
          refine D_step (Ei := [(124, _), (125, _), (112, _)]) rfl rfl (Srcs.cons (Src.op 14 rfl rfl) (Srcs.cons (Src.op 15 rfl rfl) (Srcs.cons (Src.op 2 rfl rfl) Srcs.nil))) (S_when rfl rfl (Has.t rfl) (fun h => op_addN (Has.w rfl h) (Has.w rfl h) (by show _ < 9223372036854775808; first | omega | (simp at h; omega)))) ?_
          refine D_step (Ei := [(126, _), (112, _)]) rfl rfl (Srcs.cons (Src.op 16 rfl rfl) (Srcs.cons (Src.op 2 rfl rfl) Srcs.nil)) (S_when rfl rfl (Has.t rfl) (fun h => op_subN (Has.w rfl h) (Has.cN 2) (by first | omega | (simp at h; omega)) (by show _ < 9223372036854775808; first | omega | (simp at h; omega)))) ?_
          refine D_step (Ei := [(123, _), (127, _), (112, _)]) rfl rfl (Srcs.cons (Src.op 13 rfl rfl) (Srcs.cons (Src.op 17 rfl rfl) (Srcs.cons (Src.op 2 rfl rfl) Srcs.nil))) (S_when rfl rfl (Has.t rfl) (fun h => op_idxB Tryz.runUnderlying44 Tryz.sizeOf97 (Has.w rfl h) (Has.w rfl h) rfl (by first | omega | (simp at h; omega)) (by rw [Nat.mul_one, Nat.zero_add]))) ?_
          refine D_step (Ei := [(128, _), (112, _)]) rfl rfl (Srcs.cons (Src.op 18 rfl rfl) (Srcs.cons (Src.op 2 rfl rfl) Srcs.nil)) (S_when rfl rfl (Has.t rfl) (fun h => op_ldB Tryz.isAgg97 Tryz.sizeOf97 (Has.w rfl h) (i := 0) rfl (map_get (get_some (by omega))))) ?_
          refine D_step (Ei := [(129, _), (112, _)]) rfl rfl (Srcs.cons (Src.op 19 rfl rfl) (Srcs.cons (Src.op 2 rfl rfl) Srcs.nil)) (S_when rfl rfl (Has.t rfl) (fun h => op_convN Tryz.runUnderlying97 Tryz.runUnderlying235 (Has.w rfl h) (by show _ < 18446744073709551616; first | omega | (simp at h; omega)))) ?_
          refine D_step (Ei := [(122, _), (130, _), (112, _)]) rfl rfl (Srcs.cons (Src.op 12 rfl rfl) (Srcs.cons (Src.op 20 rfl rfl) (Srcs.cons (Src.op 2 rfl rfl) Srcs.nil))) (S_when rfl rfl (Has.t rfl) (fun h => OpTy.nat (op_orN rfl (Has.w rfl h) (Has.w rfl h) (by show _ < 18446744073709551616; first | omega | (simp at h; omega)) (by show _ < 18446744073709551616; first | omega | (simp at h; omega))) horr)) ?_
          refine D_done mixed rfl (by kernel_rfl) (F_val (F_val (F_val (F_val (F_val (F_val (F_val (F_val (F_val (F_val (F_val (F_val (F_val (F_val (F_val (F_val (F_val (F_val (F_val (F_val (F_val (F_val (F_nil ?_)))))))))))))))))))))))
          refine R_step rfl rfl (S_when rfl rfl (Has.t rfl) (fun h => op_gtrN (Has.w rfl h) (Has.w rfl h))) ?_
          refine R_op rfl rfl rfl (op_or (Has.t rfl) (fun h => (Has.w rfl h))) ?_
          refine R_nil ?_
          refine T_cond (Has.t rfl) (fun hc => ?_) (fun hc => ?_)
          · have hn2 := hG.next hnr htp (by simpa [BB] using hc)
            have hg1 := hn2.2
            refine T_skip ?_
            refine T_block ?_
            refine T_seq ?_
            refine T_region ?_
            refine R_op rfl rfl rfl (op_move (Has.t rfl)) ?_
            refine R_op rfl rfl rfl (op_subN (Has.t rfl) (Has.cN 1) (by omega) (by show _ < 18446744073709551616; first | omega | (simp only [lim]; omega))) ?_
            refine R_op rfl rfl rfl (op_assign (Has.t rfl)) ?_
            refine R_nil ?_
            refine T_seq ?_
            refine T_region ?_
            refine R_op rfl rfl rfl (op_move (Has.t rfl)) ?_
            refine R_op rfl rfl rfl (op_move (Has.t rfl)) ?_
            refine R_op rfl rfl rfl (op_move (Has.t rfl)) ?_
            refine R_op rfl rfl rfl (op_subN (Has.t rfl) (Has.cN 1) (by omega) (by show _ < 9223372036854775808; first | omega | (simp only [lim]; omega))) ?_
            refine R_op rfl rfl rfl (op_idx Tryz.runUnderlying44 Tryz.sizeOf97 (Has.t rfl) (Has.t rfl) rfl (map_get (get_some (by omega)))) ?_
            refine R_op rfl rfl rfl (op_ld Tryz.isAgg97 Tryz.sizeOf97 (Has.t rfl)) ?_
            refine R_op rfl rfl rfl (op_convN Tryz.runUnderlying97 Tryz.runUnderlying235 (Has.t rfl) (by show _ < 18446744073709551616; first | omega | (simp only [lim]; omega))) ?_
            refine R_op rfl rfl rfl (op_addN (Has.t rfl) (Has.t rfl) (by show _ < 18446744073709551616; first | omega | (simp only [lim]; omega))) ?_
            refine R_op rfl rfl rfl (op_assign (Has.t rfl)) ?_
            refine R_nil ?_
            refine T_seq ?_
            refine T_region ?_
            refine R_op rfl rfl rfl (op_move (Has.t rfl)) ?_
            refine R_op rfl rfl rfl (op_geqN (Has.t rfl) (Has.cN 4294967296)) ?_
            refine R_nil ?_
            refine T_cond (Has.t rfl) (fun hr2 => ?_) (fun hr2 => ?_)
            · simp at hr2
              refine T_exit rfl ?_
              refine T_joined (g - 1) (hn2.1.stop hnr htp hr2) (Sub.cons rfl (Sub.cons rfl (Sub.cons rfl (Sub.cons rfl (Sub.cons rfl (Sub.cons rfl (Sub.cons rfl Sub.nil))))))) (HSub.refl _)
            · simp at hr2
              refine T_skip ?_
              refine T_blk ?_
              refine T_again (g - 1, _) ⟨hn2.1, hr2⟩ (by dsimp only; omega) (Sub.cons rfl (Sub.cons rfl (Sub.cons rfl (Sub.cons rfl (Sub.cons rfl (Sub.cons rfl (Sub.cons rfl (Sub.cons rfl Sub.nil)))))))) (HSub.refl _)
          · simp at hc
            refine T_exit rfl ?_
            refine T_joined g (hG.done hnr htp hc.1 hc.2) (Sub.cons rfl (Sub.cons rfl (Sub.cons rfl (Sub.cons rfl (Sub.cons rfl (Sub.cons rfl (Sub.cons rfl Sub.nil))))))) (HSub.refl _)
        · have hglt := hg.lt
          have hglt2 := hg.lt
          simp only [BB] at hglt
          have hjl : j + vs.length < us.length := by omega
          refine T_seq ?_
          refine T_region ?_
          refine R_op rfl rfl rfl (op_assign (Has.cN 0)) ?_
          refine R_nil ?_
          refine T_seq ?_
          refine T_region ?_
          refine R_op rfl rfl rfl (op_assign (Has.cN 0)) ?_
          refine R_nil ?_
          refine T_seq ?_
          refine T_seq ?_
          refine T_region ?_
          refine R_op rfl rfl rfl (op_assign (Has.cN 0)) ?_
          refine R_nil ?_
          refine T_block ?_
          refine T_loop4 (fun (i : Nat) (out : List Nat) (c : Nat) (b : Nat) => TakeS us vs g j out i c b) (fun (i : Nat) (out : List Nat) (c : Nat) (b : Nat) => vs.length - i) (fun (i : Nat) (out : List Nat) (c : Nat) (b : Nat) => [(8, NT .i64 s), (9, DsT vs), (10, Is (.slice (some ⟨B57, 0, none⟩) ((dg m).length + 1) ((dg m).length + 1))), (11, NT .i64 vs.length), (12, Is (.slice (some ⟨B69, 0, none⟩) ((dg m).length + 1 - vs.length) ((dg m).length + 1 - vs.length))), (13, NT .i64 j), (15, NT .u64 g), (17, NT .u64 b), (18, NT .u64 c), (19, NT .i64 i)]) (fun (i : Nat) (out : List Nat) (c : Nat) (b : Nat) => [box B57 97 (out.map U32T), box B69 97 (qs.map U32T)]) 0 us 0 0 (TakeS.start hS.dig vs g j)
            (Sub.cons rfl (Sub.cons rfl (Sub.cons rfl (Sub.cons rfl (Sub.cons rfl (Sub.cons rfl (Sub.cons rfl (Sub.cons rfl (Sub.cons rfl (Sub.cons rfl Sub.nil)))))))))) (HSub.refl _) (fun i out c b hT => ?_)
          refine T_seq ?_
          refine T_seq ?_
          refine T_region ?_
          refine R_op rfl rfl rfl (op_move (Has.t rfl)) ?_
          refine R_op rfl rfl rfl (op_move (Has.t rfl)) ?_
          refine R_op rfl rfl rfl (op_lssN (Has.t rfl) (Has.t rfl)) ?_
          refine R_nil ?_
          refine T_cond (Has.t rfl) (fun hi => ?_) (fun hi => ?_)
          · simp at hi
            have hlen := hT.len; have hcl := hT.clt; have hbl := hT.ble; have hvi := getD_lt hv i; have hok := getD_lt hT.dig (i + j)
            have hp := take_p hglt2 hvi hT.clt
            simp only [BB] at hp hcl hvi hok
            obtain ⟨p, hp1⟩ : ∃ p, p = g * vs.getD i 0 + c := ⟨_, rfl⟩
            obtain ⟨x, hx1⟩ : ∃ x, x = ((out.getD (i + j) 0 + 18446744073709551616 - p % 4294967296) % 18446744073709551616 + 18446744073709551616 - b) % 18446744073709551616 := ⟨_, rfl⟩
            refine T_skip ?_
            refine T_seq ?_
            refine T_block ?_
            refine T_seq ?_
            refine T_region ?_
            refine R_op rfl rfl rfl (op_move (Has.t rfl)) ?_
            refine R_op rfl rfl rfl (op_move (Has.t rfl)) ?_
            refine R_op rfl rfl rfl (op_move (Has.t rfl)) ?_
            refine R_op rfl rfl rfl (op_idx Tryz.runUnderlying44 Tryz.sizeOf97 (Has.t rfl) (Has.t rfl) rfl (map_get (get_some (by omega)))) ?_
            refine R_op rfl rfl rfl (op_ld Tryz.isAgg97 Tryz.sizeOf97 (Has.t rfl)) ?_
            refine R_op rfl rfl rfl (op_convN Tryz.runUnderlying97 Tryz.runUnderlying235 (Has.t rfl) (by show _ < 18446744073709551616; first | omega | (simp only [lim]; omega))) ?_
            refine R_op rfl rfl rfl (op_mulN (Has.t rfl) (Has.t rfl) (by show _ < 18446744073709551616; first | omega | (simp only [lim]; omega))) ?_
            refine R_op rfl rfl rfl (op_move (Has.t rfl)) ?_
            refine R_op rfl rfl rfl (OpTy.nat (op_addN (Has.t rfl) (Has.t rfl) (by show _ < 18446744073709551616; first | omega | (simp only [lim]; omega))) hp1.symm) ?_
            refine R_op rfl rfl rfl (op_assign (Has.t rfl)) ?_
            refine R_nil ?_
            refine T_seq ?_
            refine T_region ?_
            refine R_op rfl rfl rfl (op_move (Has.t rfl)) ?_
            refine R_op rfl rfl rfl (op_shrN (Has.t rfl) (Has.cN 32) (by decide)) ?_
            refine R_op rfl rfl rfl (op_assign (Has.t rfl)) ?_
            refine R_nil ?_
            refine T_seq ?_
            refine T_region ?_
            refine R_op rfl rfl rfl (op_move (Has.t rfl)) ?_
            refine R_op rfl rfl rfl (op_move (Has.t rfl)) ?_
            refine R_op rfl rfl rfl (op_move (Has.t rfl)) ?_
            refine R_op rfl rfl rfl (op_addN (Has.t rfl) (Has.t rfl) (by show _ < 9223372036854775808; first | omega | (simp only [lim]; omega))) ?_
            refine R_op rfl rfl rfl (op_idxB Tryz.runUnderlying44 Tryz.sizeOf97 (Has.t rfl) (Has.t rfl) rfl (by omega) (by rw [Nat.mul_one, Nat.zero_add])) ?_
            refine R_op rfl rfl rfl (op_ldB Tryz.isAgg97 Tryz.sizeOf97 (Has.t rfl) (i := 0) rfl (map_get (get_some (by omega)))) ?_
            refine R_op rfl rfl rfl (op_convN Tryz.runUnderlying97 Tryz.runUnderlying235 (Has.t rfl) (by show _ < 18446744073709551616; first | omega | (simp only [lim]; omega))) ?_
            refine R_op rfl rfl rfl (op_move (Has.t rfl)) ?_
            refine R_op rfl rfl rfl (OpTy.nat (op_andN rfl (Has.t rfl) (Has.cN 4294967295) (by show _ < 18446744073709551616; first | omega | (simp only [lim]; omega)) (by show _ < 18446744073709551616; first | omega | (simp only [lim]; omega))) (and32 p)) ?_
            refine R_op rfl rfl rfl (op_subU rfl (Has.t rfl) (Has.t rfl) (by show _ ≤ 18446744073709551616; first | omega | (simp only [lim]; omega))) ?_
            refine R_op rfl rfl rfl (op_move (Has.t rfl)) ?_
            refine R_op rfl rfl rfl (OpTy.nat (op_subU rfl (Has.t rfl) (Has.t rfl) (by show _ ≤ 18446744073709551616; first | omega | (simp only [lim]; omega))) hx1.symm) ?_
            refine R_op rfl rfl rfl (op_assign (Has.t rfl)) ?_
            refine R_nil ?_
            refine T_seq ?_
            refine T_region ?_
            refine R_op rfl rfl rfl (op_move (Has.t rfl)) ?_
            refine R_op rfl rfl rfl (op_move (Has.t rfl)) ?_
            refine R_op rfl rfl rfl (op_move (Has.t rfl)) ?_
            refine R_op rfl rfl rfl (op_addN (Has.t rfl) (Has.t rfl) (by show _ < 9223372036854775808; first | omega | (simp only [lim]; omega))) ?_
            refine R_op rfl rfl rfl (op_move (Has.t rfl)) ?_
            refine R_op rfl rfl rfl (op_convU rfl Tryz.runUnderlying235 Tryz.runUnderlying97 (Has.t rfl)) ?_
            refine R_op rfl rfl rfl (op_idxB Tryz.runUnderlying44 Tryz.sizeOf97 (Has.t rfl) (Has.t rfl) rfl (by omega) (by rw [Nat.mul_one, Nat.zero_add])) ?_
            refine R_st Tryz.sizeOf97 (Has.t rfl) (Has.t rfl) (i := 0) rfl (by first | omega | (simp; omega)) rfl ?_
            refine R_nil ?_
            refine T_region ?_
            refine R_op rfl rfl rfl (op_move (Has.t rfl)) ?_
            refine R_op rfl rfl rfl (op_shrN (Has.t rfl) (Has.cN 63) (by decide)) ?_
            refine R_op rfl rfl rfl (op_assign (Has.t rfl)) ?_
            refine R_nil ?_
            refine T_blk ?_
            refine T_region ?_
            refine R_op rfl rfl rfl (op_move (Has.t rfl)) ?_
            refine R_op rfl rfl rfl (op_addN (Has.t rfl) (Has.cN 1) (by show _ < 9223372036854775808; first | omega | (simp only [lim]; omega))) ?_
            refine R_op rfl rfl rfl (op_assign (Has.t rfl)) ?_
            refine R_nil ?_
            refine T_again (i + 1, _, _, _) (hT.next hS.dig hv hglt2 hi hjl hp1 (take_digit hok hbl hx1) rfl) (by dsimp only; omega) (Sub.cons rfl (Sub.cons rfl (Sub.cons rfl (Sub.cons rfl (Sub.cons rfl (Sub.cons rfl (Sub.cons rfl (Sub.cons rfl (Sub.cons rfl (Sub.cons rfl Sub.nil)))))))))) (HSub.cons (box_of (set_map _ _ _)) (HSub.cons (fun _ _ _ h => h) HSub.nil))
          · simp at hi
            have hkl : i = vs.length := Nat.le_antisymm hT.ile hi
            subst hkl
            have hlen := hT.len; have hcl := hT.clt; have hbl := hT.ble; have hok := getD_lt hT.dig (j + vs.length)
            obtain ⟨x, hx1⟩ : ∃ x, x = ((out.getD (j + vs.length) 0 + 18446744073709551616 - c) % 18446744073709551616 + 18446744073709551616 - b) % 18446744073709551616 := ⟨_, rfl⟩
            have htd := took_digit hok hcl hbl hx1
            have hTk := hT.fin hjl htd rfl
            have hx2 := htd.2
            simp only [BB] at hcl hok
            refine T_exit rfl ?_
            refine T_seq ?_
            refine T_region ?_
            refine R_op rfl rfl rfl (op_move (Has.t rfl)) ?_
            refine R_op rfl rfl rfl (op_move (Has.t rfl)) ?_
            refine R_op rfl rfl rfl (op_move (Has.t rfl)) ?_
            refine R_op rfl rfl rfl (op_addN (Has.t rfl) (Has.t rfl) (by show _ < 9223372036854775808; first | omega | (simp only [lim]; omega))) ?_
            refine R_op rfl rfl rfl (op_idxB Tryz.runUnderlying44 Tryz.sizeOf97 (Has.t rfl) (Has.t rfl) rfl (by omega) (by rw [Nat.mul_one, Nat.zero_add])) ?_
            refine R_op rfl rfl rfl (op_ldB Tryz.isAgg97 Tryz.sizeOf97 (Has.t rfl) (i := 0) rfl (map_get (get_some (by omega)))) ?_
            refine R_op rfl rfl rfl (op_convN Tryz.runUnderlying97 Tryz.runUnderlying235 (Has.t rfl) (by show _ < 18446744073709551616; first | omega | (simp only [lim]; omega))) ?_
            refine R_op rfl rfl rfl (op_move (Has.t rfl)) ?_
            refine R_op rfl rfl rfl (op_subU rfl (Has.t rfl) (Has.t rfl) (by show _ ≤ 18446744073709551616; first | omega | (simp only [lim]; omega))) ?_
            refine R_op rfl rfl rfl (op_move (Has.t rfl)) ?_
            refine R_op rfl rfl rfl (OpTy.nat (op_subU rfl (Has.t rfl) (Has.t rfl) (by show _ ≤ 18446744073709551616; first | omega | (simp only [lim]; omega))) hx1.symm) ?_
            refine R_op rfl rfl rfl (op_assign (Has.t rfl)) ?_
            refine R_nil ?_
            refine T_seq ?_
            refine T_region ?_
            refine R_op rfl rfl rfl (op_move (Has.t rfl)) ?_
            refine R_op rfl rfl rfl (op_move (Has.t rfl)) ?_
            refine R_op rfl rfl rfl (op_move (Has.t rfl)) ?_
            refine R_op rfl rfl rfl (op_addN (Has.t rfl) (Has.t rfl) (by show _ < 9223372036854775808; first | omega | (simp only [lim]; omega))) ?_
            refine R_op rfl rfl rfl (op_move (Has.t rfl)) ?_
            refine R_op rfl rfl rfl (op_convU rfl Tryz.runUnderlying235 Tryz.runUnderlying97 (Has.t rfl)) ?_
            refine R_op rfl rfl rfl (op_idxB Tryz.runUnderlying44 Tryz.sizeOf97 (Has.t rfl) (Has.t rfl) rfl (by omega) (by rw [Nat.mul_one, Nat.zero_add])) ?_
            refine R_st Tryz.sizeOf97 (Has.t rfl) (Has.t rfl) (i := 0) rfl (by first | omega | (simp; omega)) rfl ?_
            refine R_nil ?_
            refine T_seq ?_
            refine T_join2 (fun (us2 : List Nat) (g2 : Nat) => DivS (m * 2 ^ s) vs us2 (qs.set j g2) j ∧ g2 < 4294967296 ∧ us2.length = (dg m).length + 1) (fun (us2 : List Nat) (g2 : Nat) => [(8, NT .i64 s), (9, DsT vs), (10, Is (.slice (some ⟨B57, 0, none⟩) ((dg m).length + 1) ((dg m).length + 1))), (11, NT .i64 vs.length), (12, Is (.slice (some ⟨B69, 0, none⟩) ((dg m).length + 1 - vs.length) ((dg m).length + 1 - vs.length))), (13, NT .i64 j), (15, NT .u64 g2)]) (fun (us2 : List Nat) (g2 : Nat) => [box B57 97 (us2.map U32T), box B69 97 (qs.map U32T)]) ?_ (fun us2 g2 ⟨hD, hg2, hus2⟩ => ?_)
            · refine T_seq ?_
              refine T_region ?_
              refine R_op rfl rfl rfl (op_move (Has.t rfl)) ?_
              refine R_op rfl rfl rfl (op_shrN (Has.t rfl) (Has.cN 63) (by decide)) ?_
              refine R_op rfl rfl rfl (op_eqlN (Has.t rfl) (Has.cN 1)) ?_
              refine R_nil ?_
              refine T_cond (Has.t rfl) (fun hbb => ?_) (fun hbb => ?_)
              · simp only [decide_eq_true_eq] at hbb
                have hdec : (!decide (x / 2 ^ 63 = 0)) = true := by rw [hbb]; rfl
                rw [hdec] at hTk
                obtain ⟨o1, ho1⟩ : ∃ o1, o1 = out.set (j + vs.length) (x % BB) := ⟨_, rfl⟩
                rw [← ho1] at hTk
                have hg0 := hS.gpos hv rfl (by omega) hTk
                have hol := hTk.len
                refine T_seq ?_
                refine T_region ?_
                refine R_op rfl rfl rfl (op_move (Has.t rfl)) ?_
                refine R_op rfl rfl rfl (op_subN (Has.t rfl) (Has.cN 1) (by omega) (by show _ < 18446744073709551616; first | omega | (simp only [lim]; omega))) ?_
                refine R_op rfl rfl rfl (op_assign (Has.t rfl)) ?_
                refine R_nil ?_
                refine T_seq ?_
                refine T_region ?_
                refine R_op rfl rfl rfl (op_assign (Has.cN 0)) ?_
                refine R_nil ?_
                refine T_seq ?_
                refine T_seq ?_
                refine T_region ?_
                refine R_op rfl rfl rfl (op_assign (Has.cN 0)) ?_
                refine R_nil ?_
                refine T_block ?_
                refine T_loop3 (fun (i : Nat) (out2 : List Nat) (c : Nat) => BackS o1 vs j out2 i c) (fun (i : Nat) (out2 : List Nat) (c : Nat) => vs.length - i) (fun (i : Nat) (out2 : List Nat) (c : Nat) => [(8, NT .i64 s), (9, DsT vs), (10, Is (.slice (some ⟨B57, 0, none⟩) ((dg m).length + 1) ((dg m).length + 1))), (11, NT .i64 vs.length), (12, Is (.slice (some ⟨B69, 0, none⟩) ((dg m).length + 1 - vs.length) ((dg m).length + 1 - vs.length))), (13, NT .i64 j), (15, NT .u64 (g - 1 : Nat)), (18, NT .u64 c), (23, NT .i64 i)]) (fun (i : Nat) (out2 : List Nat) (c : Nat) => [box B57 97 (out2.map U32T), box B69 97 (qs.map U32T)]) 0 o1 0 (BackS.start hTk.dig vs j)
                  (Sub.cons rfl (Sub.cons rfl (Sub.cons rfl (Sub.cons rfl (Sub.cons rfl (Sub.cons rfl (Sub.cons rfl (Sub.cons rfl (Sub.cons rfl Sub.nil))))))))) (HSub.cons (box_of (by rw [ho1]; exact set_map _ _ _)) (HSub.cons (fun _ _ _ h => h) HSub.nil)) (fun i out2 c hB => ?_)
                refine T_seq ?_
                refine T_seq ?_
                refine T_region ?_
                refine R_op rfl rfl rfl (op_move (Has.t rfl)) ?_
                refine R_op rfl rfl rfl (op_move (Has.t rfl)) ?_
                refine R_op rfl rfl rfl (op_lssN (Has.t rfl) (Has.t rfl)) ?_
                refine R_nil ?_
                refine T_cond (Has.t rfl) (fun hi => ?_) (fun hi => ?_)
                · simp at hi
                  have hlen := hB.len; have hcl := hB.cle; have hvi := getD_lt hv i; have hok := getD_lt hB.dig (i + j)
                  simp only [BB] at hvi hok
                  refine T_skip ?_
                  refine T_seq ?_
                  refine T_block ?_
                  refine T_seq ?_
                  refine D_start (m := 14) ?_
                  refine D_step (Ei := [(10, _)]) rfl rfl (Srcs.cons (Src.pre rfl rfl) Srcs.nil) (S_plain rfl (op_move (Has.t rfl))) ?_
                  refine D_step (Ei := [(23, _)]) rfl rfl (Srcs.cons (Src.pre rfl rfl) Srcs.nil) (S_plain rfl (op_move (Has.t rfl))) ?_
                  refine D_step (Ei := [(13, _)]) rfl rfl (Srcs.cons (Src.pre rfl rfl) Srcs.nil) (S_plain rfl (op_move (Has.t rfl))) ?_
                  refine D_step (Ei := [(212, _), (213, _)]) rfl rfl (Srcs.cons (Src.op 1 rfl rfl) (Srcs.cons (Src.op 2 rfl rfl) Srcs.nil)) (S_plain rfl (op_addN (Has.t rfl) (Has.t rfl) (by show _ < 9223372036854775808; first | omega | (simp only [lim]; omega)))) ?_
                  refine D_step (Ei := [(211, _), (214, _)]) rfl rfl (Srcs.cons (Src.op 0 rfl rfl) (Srcs.cons (Src.op 3 rfl rfl) Srcs.nil)) (S_plain rfl (op_idxB Tryz.runUnderlying44 Tryz.sizeOf97 (Has.t rfl) (Has.t rfl) rfl (by omega) (by rw [Nat.mul_one, Nat.zero_add]))) ?_
                  refine D_step (Ei := [(215, _)]) rfl rfl (Srcs.cons (Src.op 4 rfl rfl) Srcs.nil) (S_plain rfl (op_ldB Tryz.isAgg97 Tryz.sizeOf97 (Has.t rfl) (i := 0) rfl (map_get (get_some (by omega))))) ?_
                  refine D_step (Ei := [(216, _)]) rfl rfl (Srcs.cons (Src.op 5 rfl rfl) Srcs.nil) (S_plain rfl (op_convN Tryz.runUnderlying97 Tryz.runUnderlying235 (Has.t rfl) (by show _ < 18446744073709551616; first | omega | (simp only [lim]; omega)))) ?_
                  refine D_step (Ei := [(9, _)]) rfl rfl (Srcs.cons (Src.pre rfl rfl) Srcs.nil) (S_plain rfl (op_move (Has.t rfl))) ?_
                  refine D_step (Ei := [(23, _)]) rfl rfl (Srcs.cons (Src.pre rfl rfl) Srcs.nil) (S_plain rfl (op_move (Has.t rfl))) ?_
                  refine D_step (Ei := [(218, _), (219, _)]) rfl rfl (Srcs.cons (Src.op 7 rfl rfl) (Srcs.cons (Src.op 8 rfl rfl) Srcs.nil)) (S_plain rfl (op_idx Tryz.runUnderlying44 Tryz.sizeOf97 (Has.t rfl) (Has.t rfl) rfl (map_get (get_some (by omega))))) ?_
                  refine D_step (Ei := [(220, _)]) rfl rfl (Srcs.cons (Src.op 9 rfl rfl) Srcs.nil) (S_plain rfl (op_ld Tryz.isAgg97 Tryz.sizeOf97 (Has.t rfl))) ?_
                  refine D_step (Ei := [(221, _)]) rfl rfl (Srcs.cons (Src.op 10 rfl rfl) Srcs.nil) (S_plain rfl (op_convN Tryz.runUnderlying97 Tryz.runUnderlying235 (Has.t rfl) (by show _ < 18446744073709551616; first | omega | (simp only [lim]; omega)))) ?_
                  refine D_step (Ei := [(217, _), (222, _)]) rfl rfl (Srcs.cons (Src.op 6 rfl rfl) (Srcs.cons (Src.op 11 rfl rfl) Srcs.nil)) (S_plain rfl (op_addN (Has.t rfl) (Has.t rfl) (by show _ < 18446744073709551616; first | omega | (simp only [lim]; omega)))) ?_
                  refine D_step (Ei := [(18, _)]) rfl rfl (Srcs.cons (Src.pre rfl rfl) Srcs.nil) (S_plain rfl (op_move (Has.t rfl))) ?_
                  refine D_done mixed rfl (by kernel_rfl) (F_val (F_val (F_val (F_val (F_val (F_val (F_val (F_val (F_val (F_val (F_val (F_val (F_val (F_val (F_nil ?_)))))))))))))))
                  refine R_op rfl rfl rfl (op_addN (Has.t rfl) (Has.t rfl) (by show _ < 18446744073709551616; first | omega | (simp only [lim]; omega))) ?_
                  refine R_op rfl rfl rfl (op_assign (Has.t rfl)) ?_
                  refine R_nil ?_
                  refine T_seq ?_
                  refine T_region ?_
                  refine R_op rfl rfl rfl (op_move (Has.t rfl)) ?_
                  refine R_op rfl rfl rfl (op_move (Has.t rfl)) ?_
                  refine R_op rfl rfl rfl (op_move (Has.t rfl)) ?_
                  refine R_op rfl rfl rfl (op_addN (Has.t rfl) (Has.t rfl) (by show _ < 9223372036854775808; first | omega | (simp only [lim]; omega))) ?_
                  refine R_op rfl rfl rfl (op_move (Has.t rfl)) ?_
                  refine R_op rfl rfl rfl (op_convU rfl Tryz.runUnderlying235 Tryz.runUnderlying97 (Has.t rfl)) ?_
                  refine R_op rfl rfl rfl (op_idxB Tryz.runUnderlying44 Tryz.sizeOf97 (Has.t rfl) (Has.t rfl) rfl (by omega) (by rw [Nat.mul_one, Nat.zero_add])) ?_
                  refine R_st Tryz.sizeOf97 (Has.t rfl) (Has.t rfl) (i := 0) rfl (by first | omega | (simp; omega)) rfl ?_
                  refine R_nil ?_
                  refine T_region ?_
                  refine R_op rfl rfl rfl (op_move (Has.t rfl)) ?_
                  refine R_op rfl rfl rfl (op_shrN (Has.t rfl) (Has.cN 32) (by decide)) ?_
                  refine R_op rfl rfl rfl (op_assign (Has.t rfl)) ?_
                  refine R_nil ?_
                  refine T_blk ?_
                  refine T_region ?_
                  refine R_op rfl rfl rfl (op_move (Has.t rfl)) ?_
                  refine R_op rfl rfl rfl (op_addN (Has.t rfl) (Has.cN 1) (by show _ < 9223372036854775808; first | omega | (simp only [lim]; omega))) ?_
                  refine R_op rfl rfl rfl (op_assign (Has.t rfl)) ?_
                  refine R_nil ?_
                  refine T_again (i + 1, _, _) (hB.next hv hi (by omega) (Nat.add_comm _ _)) (by dsimp only; omega) (Sub.cons rfl (Sub.cons rfl (Sub.cons rfl (Sub.cons rfl (Sub.cons rfl (Sub.cons rfl (Sub.cons rfl (Sub.cons rfl (Sub.cons rfl Sub.nil))))))))) (HSub.cons (box_of (set_map _ _ _)) (HSub.cons (fun _ _ _ h => h) HSub.nil))
                · simp at hi
                  have hil : i = vs.length := Nat.le_antisymm hB.ile hi
                  subst hil
                  have hlen := hB.len; have hcl := hB.cle; have hok := getD_lt hB.dig (j + vs.length)
                  have hBk := hB.fin (by omega) rfl
                  obtain ⟨_, hDn⟩ := hS.wrong hv hV0 (Nat.succ_pos j) rfl hg hTk hBk
                  simp only [BB] at hok
                  refine T_exit rfl ?_
                  refine T_region ?_
                  refine R_op rfl rfl rfl (op_move (Has.t rfl)) ?_
                  refine R_op rfl rfl rfl (op_move (Has.t rfl)) ?_
                  refine R_op rfl rfl rfl (op_move (Has.t rfl)) ?_
                  refine R_op rfl rfl rfl (op_addN (Has.t rfl) (Has.t rfl) (by show _ < 9223372036854775808; first | omega | (simp only [lim]; omega))) ?_
                  refine R_op rfl rfl rfl (op_move (Has.t rfl)) ?_
                  refine R_op rfl rfl rfl (op_move (Has.t rfl)) ?_
                  refine R_op rfl rfl rfl (op_move (Has.t rfl)) ?_
                  refine R_op rfl rfl rfl (op_addN (Has.t rfl) (Has.t rfl) (by show _ < 9223372036854775808; first | omega | (simp only [lim]; omega))) ?_
                  refine R_op rfl rfl rfl (op_idxB Tryz.runUnderlying44 Tryz.sizeOf97 (Has.t rfl) (Has.t rfl) rfl (by omega) (by rw [Nat.mul_one, Nat.zero_add])) ?_
                  refine R_op rfl rfl rfl (op_ldB Tryz.isAgg97 Tryz.sizeOf97 (Has.t rfl) (i := 0) rfl (map_get (get_some (by omega)))) ?_
                  refine R_op rfl rfl rfl (op_move (Has.t rfl)) ?_
                  refine R_op rfl rfl rfl (op_convN Tryz.runUnderlying235 Tryz.runUnderlying97 (Has.t rfl) (by show _ < 4294967296; first | omega | (simp only [lim]; omega))) ?_
                  refine R_op rfl rfl rfl (op_addU rfl (Has.t rfl) (Has.t rfl)) ?_
                  refine R_op rfl rfl rfl (op_idxB Tryz.runUnderlying44 Tryz.sizeOf97 (Has.t rfl) (Has.t rfl) rfl (by omega) (by rw [Nat.mul_one, Nat.zero_add])) ?_
                  refine R_st Tryz.sizeOf97 (Has.t rfl) (Has.t rfl) (i := 0) rfl (by first | omega | (simp; omega)) rfl ?_
                  refine R_nil ?_
                  refine T_joined (_, g - 1) ⟨hDn, by dsimp only; omega, by simp; omega⟩ (Sub.cons rfl (Sub.cons rfl (Sub.cons rfl (Sub.cons rfl (Sub.cons rfl (Sub.cons rfl (Sub.cons rfl Sub.nil))))))) (HSub.cons (box_of (set_map _ _ _)) (HSub.cons (fun _ _ _ h => h) HSub.nil))
              · simp only [decide_eq_false_iff_not] at hbb
                have hdec : (!decide (x / 2 ^ 63 = 0)) = false := by rw [show x / 2 ^ 63 = 0 by omega]; rfl
                rw [hdec] at hTk
                have hol := hTk.len
                refine T_skip ?_
                refine T_joined (_, g) ⟨hS.right hv hV0 (Nat.succ_pos j) rfl hg hTk, hglt, by dsimp only; omega⟩ (Sub.cons rfl (Sub.cons rfl (Sub.cons rfl (Sub.cons rfl (Sub.cons rfl (Sub.cons rfl (Sub.cons rfl Sub.nil))))))) (HSub.cons (box_of (set_map _ _ _)) (HSub.cons (fun _ _ _ h => h) HSub.nil))
            · refine T_region ?_
              refine R_op rfl rfl rfl (op_move (Has.t rfl)) ?_
              refine R_op rfl rfl rfl (op_move (Has.t rfl)) ?_
              refine R_op rfl rfl rfl (op_move (Has.t rfl)) ?_
              refine R_op rfl rfl rfl (op_convN Tryz.runUnderlying235 Tryz.runUnderlying97 (Has.t rfl) (by show _ < 4294967296; first | omega | (simp only [lim]; omega))) ?_
              refine R_op rfl rfl rfl (op_idxB Tryz.runUnderlying44 Tryz.sizeOf97 (Has.t rfl) (Has.t rfl) rfl (by omega) (by rw [Nat.mul_one, Nat.zero_add])) ?_
              refine R_st Tryz.sizeOf97 (Has.t rfl) (Has.t rfl) (i := 1) rfl (by first | omega | (simp; omega)) rfl ?_
              refine R_nil ?_
              refine T_blk ?_
              refine T_region ?_
              refine R_op rfl rfl rfl (op_move (Has.t rfl)) ?_
              refine R_op rfl rfl rfl (op_sub (Has.t rfl) Has.c (w64 (by omega))) ?_
              refine R_op rfl rfl rfl (op_assign (Has.t rfl)) ?_
              refine R_nil ?_
              refine T_again (j, us2, _) ⟨hD, hus2⟩ (by dsimp only; omega) (Sub.cons rfl (Sub.cons rfl (Sub.cons rfl (Sub.cons rfl (Sub.cons rfl (Sub.cons rfl Sub.nil)))))) (HSub.cons (fun _ _ _ h => h) (HSub.cons (box_of (set_map _ _ _)) HSub.nil))
      · simp at hk
        have hk0 : k = 0 := by omega
        subst hk0
        have hfin := hS.fin hV0
        have hlq := hS.lenq
        rw [hvv] at hfin
        have hdiv : val qs = m / n := by rw [hfin.1]; exact Nat.mul_div_mul_right _ _ hp2
        have hsm : val us < BB ^ vs.length := by have h1 := hS.small; rw [List.drop_zero] at h1; exact Nat.lt_trans h1 (val_lt hv)
        have hmod : val (us.take vs.length) / 2 ^ s = m % n := by
          rw [val_take_all hsm (by omega), hfin.2, Nat.mul_mod_mul_right, Nat.mul_div_cancel _ hp2]
        have hru : (dg (val (us.take vs.length))).length ≤ 17592186044416 := by
          refine Nat.le_trans (dg_length_le (k := vs.length) ?_) (by omega)
          rw [val_take_all hsm (by omega)]; exact hsm
        refine T_exit rfl ?_
        refine T_freeze (i := 1) (tt := 12) rfl rfl (frz_ds rfl (by omega) (Nat.le_refl _)) ?_
        refine T_freeze (i := 0) (tt := 10) rfl rfl (frz_ds rfl (by omega) (Nat.le_refl _)) ?_
        refine T_seq ?_
        refine D_start (m := 7) ?_
        refine D_step (Ei := [(12, _)]) rfl rfl (Srcs.cons (Src.pre rfl rfl) Srcs.nil) (S_plain rfl (op_move (Has.t rfl))) ?_
        refine D_step (Ei := [(254, _)]) rfl rfl (Srcs.cons (Src.op 0 rfl rfl) Srcs.nil) (S_plain rfl (op_call Tryz.call207 (c_rtrim _ hS.digq (by omega)) ⟨(Has.t rfl), trivial⟩)) ?_
        refine D_step (Ei := [(10, _)]) rfl rfl (Srcs.cons (Src.pre rfl rfl) Srcs.nil) (S_plain rfl (op_move (Has.t rfl))) ?_
        refine D_step (Ei := [(11, _)]) rfl rfl (Srcs.cons (Src.pre rfl rfl) Srcs.nil) (S_plain rfl (op_move (Has.t rfl))) ?_
        refine D_step (Ei := [(256, _), (257, _)]) rfl rfl (Srcs.cons (Src.op 2 rfl rfl) (Srcs.cons (Src.op 3 rfl rfl) Srcs.nil)) (S_plain rfl (OpTy.imp (op_slice0 Tryz.runUnderlying44 Tryz.sizeOf97 (Has.t rfl) (Has.t rfl) (fun m e => by cases e) (by omega) (by simp; omega) rfl) (ds_take _ _))) ?_
        refine D_step (Ei := [(258, _)]) rfl rfl (Srcs.cons (Src.op 4 rfl rfl) Srcs.nil) (S_plain rfl (op_call Tryz.call207 (c_rtrim _ (hS.dig.take' vs.length) (by simp; omega)) ⟨(Has.t rfl), trivial⟩)) ?_
        refine D_step (Ei := [(8, _)]) rfl rfl (Srcs.cons (Src.pre rfl rfl) Srcs.nil) (S_plain rfl (op_move (Has.t rfl))) ?_
        refine D_done mixed rfl (by kernel_rfl) (F_val (F_val (F_val (F_val (F_val (F_val (F_val (F_nil ?_))))))))
        refine R_op rfl rfl rfl (op_call Tryz.call232 (c_rShr hru (by omega)) ⟨(Has.t rfl), (Has.t rfl), trivial⟩) ?_
        refine R_op rfl rfl rfl (op_assign (Has.t rfl)) ?_
        refine R_op rfl rfl rfl (op_assign (Has.t rfl)) ?_
        refine R_nil ?_
        refine T_ret2 rfl (rv_to (rv_tmp rfl) ?_) (rv_to (rv_tmp rfl) ?_)
        · exact (natT_of hdiv)
        · exact (natT_of hmod)
set_option maxRecDepth 20000 in
theorem c_rGcd {m n : Nat} (hm : (dg m).length ≤ 17592186044415) (hn : (dg n).length ≤ 17592186044415) : Fun Tryz.prog 202 [NatT m, NatT n] (NatT (Nat.gcd m n)) := by
  refine Fun.intro Tryz.func202 rfl Tryz.ntmps202 rfl (fun cx => ?_)
  refine T_seq ?_
  refine T_region ?_
  refine R_op rfl rfl rfl (op_assign Has.c) ?_
  refine R_nil ?_
  refine T_seq ?_
  refine T_block ?_
  refine T_loop2 (fun (x : Nat) (y : Nat) => Nat.gcd x y = Nat.gcd m n ∧ (dg x).length ≤ 17592186044415 ∧ (dg y).length ≤ 17592186044415) (fun (x : Nat) (y : Nat) => y) (fun (x : Nat) (y : Nat) => [(0, NatT x), (1, NatT y)]) (fun (x : Nat) (y : Nat) => []) m n ⟨rfl, hm, hn⟩
    (Sub.cons rfl (Sub.cons rfl Sub.nil)) HSub.nil (fun x y ⟨hg, hx, hy⟩ => ?_)
  refine T_seq ?_
  refine T_seq ?_
  refine T_region ?_
  refine R_op rfl rfl rfl (op_move (Has.t rfl)) ?_
  refine R_op rfl rfl rfl (op_len Tryz.runUnderlying44 (Has.t rfl) len_map) ?_
  refine R_op rfl rfl rfl (op_gtrN (Has.t rfl) (Has.cN 0)) ?_
  refine R_nil ?_
  refine T_cond (Has.t rfl) (fun hb => ?_) (fun hb => ?_)
  · simp at hb
    have hy0 : y ≠ 0 := fun e => by rw [e, dg_zero] at hb; simp at hb
    have hlt := Nat.mod_lt x (Nat.pos_of_ne_zero hy0)
    refine T_skip ?_
    refine T_block ?_
    refine T_seq ?_
    refine T_region ?_
    refine R_op rfl rfl rfl (op_move (Has.t rfl)) ?_
    refine R_op rfl rfl rfl (op_move (Has.t rfl)) ?_
    refine R_op rfl rfl rfl (op_call Tryz.call203 (c_rDiv hx (by omega) hy0) ⟨(Has.t rfl), (Has.t rfl), trivial⟩) ?_
    refine R_op rfl rfl rfl (op_move (Has.t rfl)) ?_
    refine R_op rfl rfl rfl (op_extract (Has.t rfl) rfl) ?_
    refine R_op rfl rfl rfl (op_extract (Has.t rfl) rfl) ?_
    refine R_op rfl rfl rfl (op_assign (Has.t rfl)) ?_
    refine R_op rfl rfl rfl (op_assign (Has.t rfl)) ?_
    refine R_nil ?_
    refine T_region ?_
    refine R_op rfl rfl rfl (op_move (Has.t rfl)) ?_
    refine R_op rfl rfl rfl (op_move (Has.t rfl)) ?_
    refine R_op rfl rfl rfl (op_assign (Has.t rfl)) ?_
    refine R_op rfl rfl rfl (op_assign (Has.t rfl)) ?_
    refine R_nil ?_
    refine T_blk ?_
    refine T_again (y, x % y) ⟨by rw [← hg, Nat.gcd_comm x y, Nat.gcd_rec y x, Nat.gcd_comm], hy, Nat.le_trans (val_mono_len (Nat.le_of_lt hlt)) hy⟩ hlt (Sub.cons rfl (Sub.cons rfl Sub.nil)) HSub.nil
  · simp at hb
    have hy0 : y = 0 := dg_length_zero.1 (by simpa using hb)
    subst hy0
    rw [Nat.gcd_zero_right] at hg
    refine T_exit rfl ?_
    refine T_seq ?_
    refine T_region ?_
    refine R_op rfl rfl rfl (op_move (Has.t rfl)) ?_
    refine R_op rfl rfl rfl (op_assign (Has.t rfl)) ?_
    refine R_nil ?_
    refine T_ret1 rfl (rv_to (rv_tmp rfl) ?_)
    exact (natT_of hg)
set_option maxRecDepth 20000 in
theorem c_rText {m : Nat} (hm : (dg m).length ≤ 8796093022208) : Fun Tryz.prog 208 [NatT m] (StrT (dec m)) := by
  refine Fun.intro Tryz.func208 rfl Tryz.ntmps208 rfl (fun cx => ?_)
  refine T_seq ?_
  refine T_region ?_
  refine R_op rfl rfl rfl (op_assign (Has.cS (l := []) rfl)) ?_
  refine R_nil ?_
  refine T_seq ?_
  refine T_seq ?_
  refine T_region ?_
  refine R_op rfl rfl rfl (op_move (Has.t rfl)) ?_
  refine R_op rfl rfl rfl (op_len Tryz.runUnderlying44 (Has.t rfl) len_map) ?_
  refine R_op rfl rfl rfl (op_eqlN (Has.t rfl) (Has.cN 0)) ?_
  refine R_nil ?_
  refine T_cond (Has.t rfl) (fun hb => ?_) (fun hb => ?_)
  · simp at hb
    have h0 : m = 0 := dg_length_zero.1 (by simpa using hb)
    subst h0
    refine T_seq ?_
    refine T_region ?_
    refine R_op rfl rfl rfl (op_assign (Has.cS (l := [48]) rfl)) ?_
    refine R_nil ?_
    refine T_ret1 rfl (rv_to (rv_tmp rfl) ?_)
    exact (str_to rfl)
  · simp at hb
    have h0 : m ≠ 0 := fun e => hb (by rw [e, dg_zero])
    refine T_skip ?_
    refine T_seq ?_
    refine T_region ?_
    refine R_op rfl rfl rfl (op_assign Has.c) ?_
    refine R_nil ?_
    refine T_seq ?_
    refine T_block ?_
    refine T_row 5 1 ?_
    refine T_loop3 (fun (x : Nat) (out : List Nat) (v : Value) => DecO m out x ∧ x ≤ m) (fun (x : Nat) (out : List Nat) (v : Value) => x) (fun (x : Nat) (out : List Nat) (v : Value) => [(0, NatT x), (3, Is v)]) (fun (x : Nat) (out : List Nat) (v : Value) => [rowO 5 1 v (out.map U8T)]) m [] (.slice none 0 0) ⟨DecO.start m, Nat.le_refl m⟩
      (Sub.cons rfl (Sub.cons rfl Sub.nil)) (HSub.refl _) (fun x out v ⟨hO, hle⟩ => ?_)
    refine T_seq ?_
    refine T_seq ?_
    refine T_region ?_
    refine R_op rfl rfl rfl (op_move (Has.t rfl)) ?_
    refine R_op rfl rfl rfl (op_len Tryz.runUnderlying44 (Has.t rfl) len_map) ?_
    refine R_op rfl rfl rfl (op_gtrN (Has.t rfl) (Has.cN 0)) ?_
    refine R_nil ?_
    refine T_cond (Has.t rfl) (fun hc => ?_) (fun hc => ?_)
    · simp at hc
      have hx0 : x ≠ 0 := fun e => by rw [e, dg_zero] at hc; simp at hc
      have hxm := val_mono_len hle
      refine T_skip ?_
      refine T_block ?_
      refine T_seq ?_
      refine T_region ?_
      refine R_op rfl rfl rfl (op_move (Has.t rfl)) ?_
      refine R_op rfl rfl rfl (op_call Tryz.call229 (c_rDigit (by omega) (by decide) (by decide)) ⟨(Has.t rfl), (Has.cN 1000000000), trivial⟩) ?_
      refine R_op rfl rfl rfl (op_move (Has.t rfl)) ?_
      refine R_op rfl rfl rfl (op_extract (Has.t rfl) rfl) ?_
      refine R_op rfl rfl rfl (op_extract (Has.t rfl) rfl) ?_
      refine R_op rfl rfl rfl (op_assign (Has.t rfl)) ?_
      refine R_op rfl rfl rfl (op_assign (Has.t rfl)) ?_
      refine R_nil ?_
      refine T_seq ?_
      refine T_seq ?_
      refine T_region ?_
      refine R_op rfl rfl rfl (op_assign (Has.cN 0)) ?_
      refine R_nil ?_
      refine T_block ?_
      refine T_loop4 (fun (r : Nat) (k : Nat) (out : List Nat) (v : Value) => DecI m out (x / 1000000000) r k) (fun (r : Nat) (k : Nat) (out : List Nat) (v : Value) => 9 - k) (fun (r : Nat) (k : Nat) (out : List Nat) (v : Value) => [(3, Is v), (4, NatT (x / 1000000000)), (5, U32T r), (6, NT .i64 k)]) (fun (r : Nat) (k : Nat) (out : List Nat) (v : Value) => [rowO 5 1 v (out.map U8T)]) (x % 1000000000) 0 out v (hO.inner)
        (Sub.cons rfl (Sub.cons rfl (Sub.cons rfl (Sub.cons rfl Sub.nil)))) (HSub.refl _) (fun r k out v hI => ?_)
      refine T_seq ?_
      refine T_seq ?_
      refine T_region ?_
      refine R_op rfl rfl rfl (op_move (Has.t rfl)) ?_
      refine R_op rfl rfl rfl (op_lssN (Has.t rfl) (Has.cN 9)) ?_
      refine R_op rfl rfl rfl (op_move (Has.t rfl)) ?_
      refine R_step rfl rfl (S_whenU rfl rfl (Has.t rfl) (fun h => op_move (Has.t rfl))) ?_
      refine R_step rfl rfl (S_whenU rfl rfl (Has.t rfl) (fun h => op_gtrN (Has.wu rfl h) (Has.cN 0))) ?_
      refine R_step rfl rfl (S_whenU rfl rfl (Has.t rfl) (fun h => op_move (Has.wu rfl h))) ?_
      refine R_step rfl rfl (S_when2 rfl rfl rfl (fun h h2 => op_move (Has.t rfl))) ?_
      refine R_step rfl rfl (S_when2 rfl rfl rfl (fun h h2 => op_len Tryz.runUnderlying44 (Has.wu rfl ⟨h, h2⟩) len_map)) ?_
      refine R_step rfl rfl (S_when2 rfl rfl rfl (fun h h2 => op_gtrN (Has.wu rfl ⟨h, h2⟩) (Has.cN 0))) ?_
      refine R_step rfl rfl (S_whenU rfl rfl (Has.t rfl) (fun h => op_or (Has.wu rfl h) (fun h2 => (Has.wu rfl ⟨h, h2⟩)))) ?_
      refine R_op rfl rfl rfl (op_and (Has.t rfl) (fun h => (Has.wu rfl h))) ?_
      refine R_nil ?_
      refine T_cond (Has.t rfl) (fun hd => ?_) (fun hd => ?_)
      · simp at hd
        have hxr : 0 < x / 1000000000 ∨ 0 < r := hd.2.elim (fun h => .inr h) (fun h => .inl (Nat.pos_of_ne_zero (fun e => by rw [e, dg_zero] at h; simp at h)))
        have hln := hI.len hxr
        have hr32 := hI.r32
        refine T_skip ?_
        refine T_seq ?_
        refine T_block ?_
        refine T_seq ?_
        refine T_region ?_
        refine R_op rfl rfl rfl (op_move (Has.t rfl)) ?_
        refine R_op rfl rfl rfl (op_move (Has.t rfl)) ?_
        refine R_op rfl rfl rfl (op_remN (Has.t rfl) (Has.cN 10) (by omega)) ?_
        refine R_op rfl rfl rfl (op_addN (Has.cN 48) (Has.t rfl) (by show _ < 4294967296; first | omega | (simp only [lim]; omega))) ?_
        refine R_op rfl rfl rfl (op_convN Tryz.runUnderlying97 Tryz.runUnderlying5 (Has.t rfl) (by show _ < 256; first | omega | (simp only [lim]; omega))) ?_
        refine R_op rfl rfl rfl (op_bslice (xs := [.tmp 37]) Tryz.runUnderlying280 Tryz.sizeOf5 Tryz.zeroValue5 (Elems.cons (Has.t rfl) Elems.nil) rfl rfl rfl) ?_
        refine R_append (inf := Tryz.t5) und_280 info_5 rfl rfl rfl (Has.t rfl) (Has.t rfl) (i := 0) rfl (by simp) (fun T hT => by simp at hT; subst hT; exact El.one) (by show _ * 1 ≤ _; simp only [List.length_map, List.length_cons, List.length_nil]; omega) (by simp only [List.length_map, List.length_cons, List.length_nil]; omega) rfl (fun v2 => ?_)
        refine R_op rfl rfl rfl (op_assign (Has.t rfl)) ?_
        refine R_nil ?_
        refine T_region ?_
        refine R_op rfl rfl rfl (op_move (Has.t rfl)) ?_
        refine R_op rfl rfl rfl (op_quoN (Has.t rfl) (Has.cN 10) (by omega) (by show _ < 4294967296; first | omega | (simp only [lim]; omega))) ?_
        refine R_op rfl rfl rfl (op_assign (Has.t rfl)) ?_
        refine R_nil ?_
        refine T_blk ?_
        refine T_region ?_
        refine R_op rfl rfl rfl (op_move (Has.t rfl)) ?_
        refine R_op rfl rfl rfl (op_addN (Has.t rfl) (Has.cN 1) (by show _ < 9223372036854775808; first | omega | (simp only [lim]; omega))) ?_
        refine R_op rfl rfl rfl (op_assign (Has.t rfl)) ?_
        refine R_nil ?_
        refine T_again (r / 10, k + 1, _, v2) (hI.next hd.1 hxr) (by dsimp only; omega) (Sub.cons rfl (Sub.cons rfl (Sub.cons rfl (Sub.cons rfl Sub.nil)))) (HSub.cons (rowO_of (u8_app _ _)) HSub.nil)
      · simp at hd
        have hO2 := hI.fin (fun ⟨h1, h2⟩ => by
          have h3 := hd h1
          rcases h2 with h2 | h2
          · have := dg_eq_nil.1 h3.2; omega
          · omega)
        refine T_exit rfl ?_
        refine T_region ?_
        refine R_op rfl rfl rfl (op_move (Has.t rfl)) ?_
        refine R_op rfl rfl rfl (op_assign (Has.t rfl)) ?_
        refine R_nil ?_
        refine T_blk ?_
        refine T_again (x / 1000000000, _, _) ⟨hO2, Nat.le_trans (Nat.div_le_self _ _) hle⟩ (Nat.div_lt_self (Nat.pos_of_ne_zero hx0) (by decide)) (Sub.cons rfl (Sub.cons rfl Sub.nil)) (HSub.refl _)
    · simp at hc
      have hx0 : x = 0 := dg_length_zero.1 (by simpa using hc)
      subst hx0
      have hfin := hO.fin
      have hdl := digs_len_dg m
      rw [hfin] at hdl
      refine T_exit rfl ?_
      refine T_seq ?_
      refine T_seq ?_
      refine T_region ?_
      refine R_op rfl rfl rfl (op_move (Has.t rfl)) ?_
      refine R_op rfl rfl rfl (op_lenO Tryz.runUnderlying280 (Has.t rfl) (i := 0) rfl len_map) ?_
      refine R_op rfl rfl rfl (op_sub (Has.t rfl) Has.c (w64 (by omega))) ?_
      refine R_op rfl rfl rfl (op_assign (Has.cN 0)) ?_
      refine R_op rfl rfl rfl (op_assign (Has.t rfl)) ?_
      refine R_nil ?_
      refine T_block ?_
      refine T_loop2 (fun (k : Nat) (o : List Nat) => RevS out o k) (fun (k : Nat) (o : List Nat) => out.length - k) (fun (k : Nat) (o : List Nat) => [(3, Is v), (7, NT .i64 k), (8, IntT .i64 ((out.length : Int) - 1 - (k : Int)))]) (fun (k : Nat) (o : List Nat) => [rowO 5 1 v (o.map U8T)]) 0 out (RevS.start out)
        (Sub.cons rfl (Sub.cons rfl (Sub.to rfl (int_of (by omega)) Sub.nil))) (HSub.refl _) (fun k o hR => ?_)
      refine T_seq ?_
      refine T_seq ?_
      refine T_region ?_
      refine R_op rfl rfl rfl (op_move (Has.t rfl)) ?_
      refine R_op rfl rfl rfl (op_move (Has.t rfl)) ?_
      refine R_op rfl rfl rfl (op_lss (Has.t rfl) (Has.t rfl)) ?_
      refine R_nil ?_
      refine T_cond (Has.t rfl) (fun hk => ?_) (fun hk => ?_)
      · simp only [decide_eq_true_eq] at hk
        have hk2 : 2 * k + 1 < out.length := by omega
        obtain ⟨j, hj⟩ : ∃ j, j = out.length - 1 - k := ⟨_, rfl⟩
        have hlen := hR.len
        refine T_sub (E' := [(3, _), (7, _), (8, _), (46, _), (47, _), (48, _)]) (Sub.cons rfl (Sub.cons rfl (Sub.to rfl (int_of (show (out.length : Int) - 1 - (k : Int) = (j : Int) by omega)) (Sub.cons rfl (Sub.cons rfl (Sub.cons rfl Sub.nil)))))) ?_
        refine T_skip ?_
        refine T_seq ?_
        refine T_block ?_
        refine W.D_start (m := 14) (fun b => cond b ([rowO 5 1 v ((o.map U8T).set k (U8T (o.getD j 0)))]) _) 13 ?_
        refine W.D_step (Ei := [(3, _)]) rfl rfl (W.Srcs.cons (W.Src.pre rfl rfl) W.Srcs.nil) rfl (by kernel_rfl) (S_plain rfl (op_move (Has.t rfl))) ?_
        refine W.D_step (Ei := [(7, _)]) rfl rfl (W.Srcs.cons (W.Src.pre rfl rfl) W.Srcs.nil) rfl (by kernel_rfl) (S_plain rfl (op_move (Has.t rfl))) ?_
        refine W.D_pure (Ei := [(3, _)]) rfl rfl (W.Srcs.cons (W.Src.pre rfl rfl) W.Srcs.nil) rfl (fun _ => S_plain rfl (op_move (Has.t rfl))) ?_
        refine W.D_pure (Ei := [(8, _)]) rfl rfl (W.Srcs.cons (W.Src.pre rfl rfl) W.Srcs.nil) rfl (fun _ => S_plain rfl (op_move (Has.t rfl))) ?_
        refine W.D_step (Ei := [(3, _)]) rfl rfl (W.Srcs.cons (W.Src.pre rfl rfl) W.Srcs.nil) rfl (by kernel_rfl) (S_plain rfl (op_move (Has.t rfl))) ?_
        refine W.D_step (Ei := [(8, _)]) rfl rfl (W.Srcs.cons (W.Src.pre rfl rfl) W.Srcs.nil) rfl (by kernel_rfl) (S_plain rfl (op_move (Has.t rfl))) ?_
        refine W.D_step (Ei := [(57, _), (58, _)]) rfl rfl (W.Srcs.cons (W.Src.op 4 rfl rfl) (W.Srcs.cons (W.Src.op 5 rfl rfl) W.Srcs.nil)) rfl (by kernel_rfl) (S_plain rfl (op_idxO Tryz.runUnderlying280 Tryz.sizeOf5 (Has.t rfl) (Has.t rfl) rfl (i := 0) rfl (by first | omega | (simp; omega)) rfl)) ?_
        refine W.D_step (Ei := [(59, _)]) rfl rfl (W.Srcs.cons (W.Src.op 6 rfl rfl) W.Srcs.nil) rfl (by kernel_rfl) (S_plain rfl (op_ldO Tryz.isAgg5 Tryz.sizeOf5 (Has.t rfl) (i := 0) rfl rfl (map_get (get_some (by omega))))) ?_
        refine W.D_step (Ei := [(3, _)]) rfl rfl (W.Srcs.cons (W.Src.pre rfl rfl) W.Srcs.nil) rfl (by kernel_rfl) (S_plain rfl (op_move (Has.t rfl))) ?_
        refine W.D_step (Ei := [(7, _)]) rfl rfl (W.Srcs.cons (W.Src.pre rfl rfl) W.Srcs.nil) rfl (by kernel_rfl) (S_plain rfl (op_move (Has.t rfl))) ?_
        refine W.D_step (Ei := [(61, _), (62, _)]) rfl rfl (W.Srcs.cons (W.Src.op 8 rfl rfl) (W.Srcs.cons (W.Src.op 9 rfl rfl) W.Srcs.nil)) rfl (by kernel_rfl) (S_plain rfl (op_idxO Tryz.runUnderlying280 Tryz.sizeOf5 (Has.t rfl) (Has.t rfl) rfl (i := 0) rfl (by first | omega | (simp; omega)) rfl)) ?_
        refine W.D_step (Ei := [(63, _)]) rfl rfl (W.Srcs.cons (W.Src.op 10 rfl rfl) W.Srcs.nil) rfl (by kernel_rfl) (S_plain rfl (op_ldO Tryz.isAgg5 Tryz.sizeOf5 (Has.t rfl) (i := 0) rfl rfl (map_get (get_some (by omega))))) ?_
        refine W.D_step (Ei := [(53, _), (54, _)]) rfl rfl (W.Srcs.cons (W.Src.op 0 rfl rfl) (W.Srcs.cons (W.Src.op 1 rfl rfl) W.Srcs.nil)) rfl (by kernel_rfl) (S_plain rfl (op_idxO Tryz.runUnderlying280 Tryz.sizeOf5 (Has.t rfl) (Has.t rfl) rfl (i := 0) rfl (by first | omega | (simp; omega)) rfl)) ?_
        refine W.D_put (Ei := [(65, _), (60, _)]) rfl rfl (W.Srcs.cons (W.Src.op 12 rfl rfl) (W.Srcs.cons (W.Src.op 7 rfl rfl) W.Srcs.nil)) rfl (P_stO Tryz.sizeOf5 (Has.t rfl) (Has.t rfl) El.one (i := 0) rfl rfl (by first | omega | (simp; omega))) ?_
        refine W.D_done mixed rfl (by kernel_rfl) rfl (W.F_val (W.F_val (W.F_val (W.F_val (W.F_val (W.F_val (W.F_val (W.F_val (W.F_val (W.F_val (W.F_val (W.F_val (W.F_val (W.F_put (W.F_nil ?_)))))))))))))))
        refine R_op rfl rfl rfl (op_idxO Tryz.runUnderlying280 Tryz.sizeOf5 (Has.t rfl) (Has.t rfl) rfl (i := 0) rfl (by first | omega | (simp; omega)) rfl) ?_
        refine R_stO Tryz.sizeOf5 (Has.t rfl) (Has.t rfl) El.one (i := 0) rfl rfl (by first | omega | (simp; omega)) rfl ?_
        refine R_nil ?_
        refine T_blk ?_
        refine T_region ?_
        refine R_op rfl rfl rfl (op_move (Has.t rfl)) ?_
        refine R_op rfl rfl rfl (op_addN (Has.t rfl) (Has.cN 1) (by show _ < 9223372036854775808; first | omega | (simp only [lim]; omega))) ?_
        refine R_op rfl rfl rfl (op_move (Has.t rfl)) ?_
        refine R_op rfl rfl rfl (op_sub (Has.t rfl) Has.c (w64 (by omega))) ?_
        refine R_op rfl rfl rfl (op_assign (Has.t rfl)) ?_
        refine R_op rfl rfl rfl (op_assign (Has.t rfl)) ?_
        refine R_nil ?_
        refine T_again (k + 1, _) (hR.next hk2 hj) (by dsimp only; omega) (Sub.cons rfl (Sub.cons rfl (Sub.to rfl (int_of (by omega)) Sub.nil))) (HSub.cons (rowO_of (u8_set2 _ _ _ _ _)) HSub.nil)
      · simp only [decide_eq_false_iff_not] at hk
        have hrev := hR.fin (by omega)
        subst hrev
        refine T_exit rfl ?_
        refine T_freeze (i := 0) (tt := 3) rfl rfl frz_row ?_
        refine T_seq ?_
        refine T_region ?_
        refine R_op rfl rfl rfl (op_move (Has.t rfl)) ?_
        refine R_op rfl rfl rfl (op_convS und_280 und_5 und_9 (Has.t rfl) (by rw [← hfin]; simpa using digs_ne h0) (fun b hb => dec_lt (n := m) b (by rw [dec_pos h0, hfin]; exact hb))) ?_
        refine R_op rfl rfl rfl (op_assign (Has.t rfl)) ?_
        refine R_nil ?_
        refine T_ret1 rfl (rv_to (rv_tmp rfl) ?_)
        exact (str_to (by rw [dec_pos h0, hfin]))
end Go.Proofs.YtppibhcfaahgpaaGreat
namespace Go.Proofs.YtppibhcfaahgpaaGreat
open Go Go.RowKit
theorem bld_49_ {n : Nat} {E : Env} {H : Hp} {d : Option Tmp} {t : TypeId} {pos : String} {af : Array Edge} {g : Option (Nat × Bool)}  :
    OpTy Tryz.prog n E H ⟨d, .build 49 #[], t, pos, af, g⟩ (AggT [Is (.bool false), Is (.slice none 0 0), Is (.bool false), Is (.slice none 0 0), Is (.slice none 0 0)]) :=
  op_build (parts := []) fun a V w hs => by
    refine ⟨.agg #[(.bool false), (.slice none 0 0), (.bool false), (.slice none 0 0), (.slice none 0 0)], ?_, [(.bool false), (.slice none 0 0), (.bool false), (.slice none 0 0), (.slice none 0 0)], rfl, Cells.cons' (⟨rfl, trivial⟩) (Cells.cons' (⟨rfl, trivial⟩) (Cells.cons' (⟨rfl, trivial⟩) (Cells.cons' (⟨rfl, trivial⟩) (Cells.cons' (⟨rfl, trivial⟩) (Cells.nil)))))⟩
    simp [Instr.build, Instr.fill, Sem.run_bind, Result.andThen, cells_agg, Tryz.zeroValue49, Tryz.runUnderlying49, Tryz.sizeOf45, Tryz.sizeOf47]
theorem bld_55_ {n : Nat} {E : Env} {H : Hp} {d : Option Tmp} {t : TypeId} {pos : String} {af : Array Edge} {g : Option (Nat × Bool)}  :
    OpTy Tryz.prog n E H ⟨d, .build 55 #[], t, pos, af, g⟩ (AggT [Is (.bool false), Is (.slice none 0 0)]) :=
  op_build (parts := []) fun a V w hs => by
    refine ⟨.agg #[(.bool false), (.slice none 0 0)], ?_, [(.bool false), (.slice none 0 0)], rfl, Cells.cons' (⟨rfl, trivial⟩) (Cells.cons' (⟨rfl, trivial⟩) (Cells.nil))⟩
    simp [Instr.build, Instr.fill, Sem.run_bind, Result.andThen, cells_agg, Tryz.zeroValue55, Tryz.runUnderlying55, Tryz.sizeOf4, Tryz.sizeOf44]
theorem bld_55_0_1 {n : Nat} {E : Env} {H : Hp} {d : Option Tmp} {t : TypeId} {pos : String} {af : Array Edge} {g : Option (Nat × Bool)} {x0 x1 : Operand} {T0 T1 : Ty} [s0 : Shape T0 1 false] (h0 : Has E x0 T0) [s1 : Shape T1 1 false] (h1 : Has E x1 T1) :
    OpTy Tryz.prog n E H ⟨d, .build 55 #[(0, x0), (1, x1)], t, pos, af, g⟩ (AggT [T0, T1]) :=
  op_build (parts := [(0, x0), (1, x1)]) fun a V w hs => by
    have p0 := h0 n V a hs
    generalize e0 : a.eval x0 = v0 at p0
    have q0 := (s0.ok v0 V p0).2.2 rfl
    have p1 := h1 n V a hs
    generalize e1 : a.eval x1 = v1 at p1
    have q1 := (s1.ok v1 V p1).2.2 rfl
    refine ⟨.agg #[v0, v1], ?_, [v0, v1], rfl, Cells.cons' (⟨p0, q0⟩) (Cells.cons' (⟨p1, q1⟩) (Cells.nil))⟩
    simp [e0, e1, Instr.build, Instr.fill, Sem.run_bind, Result.andThen, cells_agg, q0.cells, q1.cells, Tryz.zeroValue55, Tryz.runUnderlying55, Tryz.sizeOf4, Tryz.sizeOf44]
theorem bld_57_0_1_2 {n : Nat} {E : Env} {H : Hp} {d : Option Tmp} {t : TypeId} {pos : String} {af : Array Edge} {g : Option (Nat × Bool)} {x0 x1 x2 : Operand} {T0 T1 T2 T3 T4 : Ty} (h0 : Has E x0 (AggT [T0, T1])) (h1 : Has E x1 (AggT [T2, T3])) [s2 : Shape T4 1 false] (h2 : Has E x2 T4) :
    OpTy Tryz.prog n E H ⟨d, .build 57 #[(0, x0), (1, x1), (2, x2)], t, pos, af, g⟩ (AggT [T0, T1, T2, T3, T4]) :=
  op_build (parts := [(0, x0), (1, x1), (2, x2)]) fun a V w hs => by
    obtain ⟨v0, e0, c0⟩ := h0 n V a hs
    obtain ⟨c0_0, c0_1, rfl⟩ : ∃ c0_0 c0_1, v0 = [c0_0, c0_1] := list2 (by simpa using c0.length)
    obtain ⟨v1, e1, c1⟩ := h1 n V a hs
    obtain ⟨c1_0, c1_1, rfl⟩ : ∃ c1_0 c1_1, v1 = [c1_0, c1_1] := list2 (by simpa using c1.length)
    have p2 := h2 n V a hs
    generalize e2 : a.eval x2 = v2 at p2
    have q2 := (s2.ok v2 V p2).2.2 rfl
    refine ⟨.agg #[c0_0, c0_1, c1_0, c1_1, v2], ?_, [c0_0, c0_1, c1_0, c1_1, v2], rfl, Cells.cons' (c0.at (i := 0) rfl rfl) (Cells.cons' (c0.at (i := 1) rfl rfl) (Cells.cons' (c1.at (i := 0) rfl rfl) (Cells.cons' (c1.at (i := 1) rfl rfl) (Cells.cons' (⟨p2, q2⟩) (Cells.nil)))))⟩
    simp [e0, e1, e2, Instr.build, Instr.fill, Sem.run_bind, Result.andThen, cells_agg, q2.cells, Tryz.zeroValue57, Tryz.runUnderlying57, Tryz.sizeOf44, Tryz.sizeOf55]
theorem fa_55_0 (a : Addr) (w : World) : (Instr.fieldAt 55 (.pointer (some a)) 0).run Tryz.prog w = .ok (.pointer (some (a.add 0))) w := by
  simp [Instr.fieldAt, Instr.sureAddr, fieldPlace, Sem.run_bind, Result.andThen, Tryz.runUnderlying55, Tryz.sizeOf4]
theorem fa_55_1 (a : Addr) (w : World) : (Instr.fieldAt 55 (.pointer (some a)) 1).run Tryz.prog w = .ok (.pointer (some (a.add 1))) w := by
  simp [Instr.fieldAt, Instr.sureAddr, fieldPlace, Sem.run_bind, Result.andThen, Tryz.runUnderlying55, Tryz.sizeOf44]
theorem fa_57_0 (a : Addr) (w : World) : (Instr.fieldAt 57 (.pointer (some a)) 0).run Tryz.prog w = .ok (.pointer (some (a.add 0))) w := by
  simp [Instr.fieldAt, Instr.sureAddr, fieldPlace, Sem.run_bind, Result.andThen, Tryz.runUnderlying57, Tryz.sizeOf55]
theorem fa_57_1 (a : Addr) (w : World) : (Instr.fieldAt 57 (.pointer (some a)) 1).run Tryz.prog w = .ok (.pointer (some (a.add 2))) w := by
  simp [Instr.fieldAt, Instr.sureAddr, fieldPlace, Sem.run_bind, Result.andThen, Tryz.runUnderlying57, Tryz.sizeOf55]
theorem fa_57_2 (a : Addr) (w : World) : (Instr.fieldAt 57 (.pointer (some a)) 2).run Tryz.prog w = .ok (.pointer (some (a.add 4))) w := by
  simp [Instr.fieldAt, Instr.sureAddr, fieldPlace, Sem.run_bind, Result.andThen, Tryz.runUnderlying57, Tryz.sizeOf44]
end Go.Proofs.YtppibhcfaahgpaaGreat
namespace Go.Proofs.YtppibhcfaahgpaaGreat
open Go Go.RowKit
set_option maxRecDepth 20000 in
theorem c_rsigned {b : Bool} {m : Nat} : Fun Tryz.prog 204 [BoolT b, NatT m] (WholeT (sgn b m)) := by
  refine Fun.intro Tryz.func204 rfl Tryz.ntmps204 rfl (fun cx => ?_)
  refine T_seq ?_
  refine T_region ?_
  refine R_new rfl rfl rfl (new_alloc (Ts := [Is (.bool false), Is (.slice none 0 0)]) Tryz.zeroValue55 rfl (fun V => Cells.cons' ⟨rfl, trivial⟩ (Cells.cons' ⟨rfl, trivial⟩ (Cells.nil)))) (fun B4 => ?_)
  refine R_nil ?_
  refine T_seq ?_
  refine T_region ?_
  refine R_op rfl rfl rfl (op_move (Has.t rfl)) ?_
  refine R_op rfl rfl rfl (op_move (Has.t rfl)) ?_
  refine R_step rfl rfl (S_when rfl rfl (Has.t rfl) (fun h => op_move (Has.t rfl))) ?_
  refine R_step rfl rfl (S_when rfl rfl (Has.t rfl) (fun h => op_len Tryz.runUnderlying44 (Has.w rfl h) len_map)) ?_
  refine R_step rfl rfl (S_when rfl rfl (Has.t rfl) (fun h => op_gtrN (Has.w rfl h) (Has.cN 0))) ?_
  refine R_op rfl rfl rfl (op_and (Has.t rfl) (fun h => (Has.w rfl h))) ?_
  refine R_op rfl rfl rfl (op_move (Has.t rfl)) ?_
  refine R_op rfl rfl rfl (bld_55_0_1 (Has.t rfl) (Has.t rfl)) ?_
  refine R_stA Tryz.sizeOf55 (Has.t rfl) (Has.t rfl) rfl (i := 0) rfl (Nat.le_of_ble_eq_true rfl) rfl rfl ?_
  refine R_nil ?_
  refine T_ret1 rfl (rv_to (rv_cell Tryz.isAgg55 Tryz.sizeOf55 rfl (i := 0) rfl rfl) ?_)
  exact sgn_of
set_option maxRecDepth 20000 in
theorem c_rIntOf {n : Int} (h1 : -9223372036854775808 ≤ n) (h2 : n ≤ 9223372036854775807) : Fun Tryz.prog 156 [IntT .i64 n] (WholeT n) := by
  refine Fun.intro Tryz.func156 rfl Tryz.ntmps156 rfl (fun cx => ?_)
  refine T_seq ?_
  refine T_region ?_
  refine R_new rfl rfl rfl (new_alloc (Ts := [Is (.bool false), Is (.slice none 0 0)]) Tryz.zeroValue55 rfl (fun V => Cells.cons' ⟨rfl, trivial⟩ (Cells.cons' ⟨rfl, trivial⟩ (Cells.nil)))) (fun B2 => ?_)
  refine R_nil ?_
  refine T_seq ?_
  refine T_seq ?_
  refine T_region ?_
  refine R_op rfl rfl rfl (op_move (Has.t rfl)) ?_
  refine R_op rfl rfl rfl (op_lss (Has.t rfl) Has.c) ?_
  refine R_nil ?_
  refine T_cond (Has.t rfl) (fun hb => ?_) (fun hb => ?_)
  · have hn : n < 0 := by simpa using hb
    refine T_seq ?_
    refine T_region ?_
    refine R_op rfl rfl rfl (op_move (Has.t rfl)) ?_
    refine R_op rfl rfl rfl (op_neg (Has.t rfl) (r := IntKind.i64.wrap (-n)) rfl) ?_
    refine R_op rfl rfl rfl (op_conv Tryz.runUnderlying2 Tryz.runUnderlying235 (Has.t rfl) (r := ((n.natAbs : Nat) : Int)) (by rw [IntKind.wrap_u64, IntKind.wrap_i64]; omega)) ?_
    refine R_op rfl rfl rfl (op_call Tryz.call201 (c_rNatOf (by omega)) ⟨(Has.t rfl), trivial⟩) ?_
    refine R_op rfl rfl rfl (bld_55_0_1 Has.c (Has.t rfl)) ?_
    refine R_stA Tryz.sizeOf55 (Has.t rfl) (Has.t rfl) rfl (i := 0) rfl (Nat.le_of_ble_eq_true rfl) rfl rfl ?_
    refine R_nil ?_
    refine T_ret1 rfl (rv_to (rv_cell Tryz.isAgg55 Tryz.sizeOf55 rfl (i := 0) rfl rfl) ?_)
    exact (agg_of (by rw [hb]; rfl))
  · have hn : ¬ n < 0 := by simpa using hb
    refine T_skip ?_
    refine T_seq ?_
    refine T_region ?_
    refine R_op rfl rfl rfl (op_move (Has.t rfl)) ?_
    refine R_op rfl rfl rfl (op_conv Tryz.runUnderlying2 Tryz.runUnderlying235 (Has.t rfl) (r := ((n.natAbs : Nat) : Int)) (by rw [IntKind.wrap_u64]; omega)) ?_
    refine R_op rfl rfl rfl (op_call Tryz.call201 (c_rNatOf (by omega)) ⟨(Has.t rfl), trivial⟩) ?_
    refine R_op rfl rfl rfl (bld_55_0_1 Has.c (Has.t rfl)) ?_
    refine R_stA Tryz.sizeOf55 (Has.t rfl) (Has.t rfl) rfl (i := 0) rfl (Nat.le_of_ble_eq_true rfl) rfl rfl ?_
    refine R_nil ?_
    refine T_ret1 rfl (rv_to (rv_cell Tryz.isAgg55 Tryz.sizeOf55 rfl (i := 0) rfl rfl) ?_)
    exact (agg_of (by rw [hb]; rfl))
set_option maxRecDepth 20000 in
theorem c_rIntNeg {x : Int} : Fun Tryz.prog 165 [WholeT x] (WholeT (-x)) := by
  refine Fun.intro Tryz.func165 rfl Tryz.ntmps165 rfl (fun cx => ?_)
  refine T_seq ?_
  refine T_region ?_
  refine R_new rfl rfl rfl (new_box (Has.t rfl)) (fun B1 => ?_)
  refine R_new rfl rfl rfl (new_alloc (Ts := [Is (.bool false), Is (.slice none 0 0)]) Tryz.zeroValue55 rfl (fun V => Cells.cons' ⟨rfl, trivial⟩ (Cells.cons' ⟨rfl, trivial⟩ (Cells.nil)))) (fun B2 => ?_)
  refine R_nil ?_
  refine T_seq ?_
  refine T_region ?_
  refine R_op rfl rfl rfl (op_fldB fa_55_0 (Has.t rfl) rfl) ?_
  refine R_op rfl rfl rfl (op_ldB Tryz.isAgg4 Tryz.sizeOf4 (Has.t rfl) (i := 0) rfl rfl) ?_
  refine R_op rfl rfl rfl (op_not (Has.t rfl)) ?_
  refine R_op rfl rfl rfl (op_fldB fa_55_1 (Has.t rfl) rfl) ?_
  refine R_op rfl rfl rfl (op_ldB Tryz.isAgg44 Tryz.sizeOf44 (Has.t rfl) (i := 0) rfl rfl) ?_
  refine R_op rfl rfl rfl (op_call Tryz.call204 c_rsigned ⟨(Has.t rfl), (Has.t rfl), trivial⟩) ?_
  refine R_stA Tryz.sizeOf55 (Has.t rfl) (Has.t rfl) rfl (i := 1) rfl (Nat.le_of_ble_eq_true rfl) rfl rfl ?_
  refine R_nil ?_
  refine T_ret1 rfl (rv_to (rv_cell Tryz.isAgg55 Tryz.sizeOf55 rfl (i := 1) rfl rfl) ?_)
  exact (whole_of (sgn_minus x))
set_option maxRecDepth 20000 in
theorem c_rIntAdd {x y : Int} (hx : (dg x.natAbs).length ≤ 17592186044416) (hy : (dg y.natAbs).length ≤ 17592186044416) : Fun Tryz.prog 160 [WholeT x, WholeT y] (WholeT (x + y)) := by
  refine Fun.intro Tryz.func160 rfl Tryz.ntmps160 rfl (fun cx => ?_)
  refine T_seq ?_
  refine T_region ?_
  refine R_new rfl rfl rfl (new_box (Has.t rfl)) (fun B2 => ?_)
  refine R_new rfl rfl rfl (new_box (Has.t rfl)) (fun B3 => ?_)
  refine R_new rfl rfl rfl (new_alloc (Ts := [Is (.bool false), Is (.slice none 0 0)]) Tryz.zeroValue55 rfl (fun V => Cells.cons' ⟨rfl, trivial⟩ (Cells.cons' ⟨rfl, trivial⟩ (Cells.nil)))) (fun B4 => ?_)
  refine R_nil ?_
  refine T_seq ?_
  refine T_seq ?_
  refine T_region ?_
  refine R_op rfl rfl rfl (op_fldB fa_55_0 (Has.t rfl) rfl) ?_
  refine R_op rfl rfl rfl (op_ldB Tryz.isAgg4 Tryz.sizeOf4 (Has.t rfl) (i := 0) rfl rfl) ?_
  refine R_op rfl rfl rfl (op_fldB fa_55_0 (Has.t rfl) rfl) ?_
  refine R_op rfl rfl rfl (op_ldB Tryz.isAgg4 Tryz.sizeOf4 (Has.t rfl) (i := 1) rfl rfl) ?_
  refine R_op rfl rfl rfl (op_beq Tryz.runUnderlying4 (Has.t rfl) (Has.t rfl)) ?_
  refine R_nil ?_
  refine T_cond (Has.t rfl) (fun hb => ?_) (fun hb => ?_)
  · have he : decide (x < 0) = decide (y < 0) := by simpa using hb
    refine T_seq ?_
    refine D_start (m := 7) ?_
    refine D_step (Ei := [(2, _)]) rfl rfl (Srcs.cons (Src.pre rfl rfl) Srcs.nil) (S_plain rfl (op_fldB fa_55_0 (Has.t rfl) rfl)) ?_
    refine D_step (Ei := [(10, _)]) rfl rfl (Srcs.cons (Src.op 0 rfl rfl) Srcs.nil) (S_plain rfl (op_ldB Tryz.isAgg4 Tryz.sizeOf4 (Has.t rfl) (i := 0) rfl rfl)) ?_
    refine D_step (Ei := [(2, _)]) rfl rfl (Srcs.cons (Src.pre rfl rfl) Srcs.nil) (S_plain rfl (op_fldB fa_55_1 (Has.t rfl) rfl)) ?_
    refine D_step (Ei := [(12, _)]) rfl rfl (Srcs.cons (Src.op 2 rfl rfl) Srcs.nil) (S_plain rfl (op_ldB Tryz.isAgg44 Tryz.sizeOf44 (Has.t rfl) (i := 0) rfl rfl)) ?_
    refine D_step (Ei := [(3, _)]) rfl rfl (Srcs.cons (Src.pre rfl rfl) Srcs.nil) (S_plain rfl (op_fldB fa_55_1 (Has.t rfl) rfl)) ?_
    refine D_step (Ei := [(14, _)]) rfl rfl (Srcs.cons (Src.op 4 rfl rfl) Srcs.nil) (S_plain rfl (op_ldB Tryz.isAgg44 Tryz.sizeOf44 (Has.t rfl) (i := 1) rfl rfl)) ?_
    refine D_step (Ei := [(13, _), (15, _)]) rfl rfl (Srcs.cons (Src.op 3 rfl rfl) (Srcs.cons (Src.op 5 rfl rfl) Srcs.nil)) (S_plain rfl (op_call Tryz.call205 (c_rNatAdd (by omega) (by omega)) ⟨(Has.t rfl), (Has.t rfl), trivial⟩)) ?_
    refine D_done mixed rfl (by kernel_rfl) (F_val (F_val (F_val (F_val (F_val (F_val (F_val (F_nil ?_))))))))
    refine R_op rfl rfl rfl (op_call Tryz.call204 c_rsigned ⟨(Has.t rfl), (Has.t rfl), trivial⟩) ?_
    refine R_stA Tryz.sizeOf55 (Has.t rfl) (Has.t rfl) rfl (i := 2) rfl (Nat.le_of_ble_eq_true rfl) rfl rfl ?_
    refine R_nil ?_
    refine T_ret1 rfl (rv_to (rv_cell Tryz.isAgg55 Tryz.sizeOf55 rfl (i := 2) rfl rfl) ?_)
    exact (whole_of (sgn_plus he))
  · have he : decide (x < 0) ≠ decide (y < 0) := by simpa using hb
    refine T_skip ?_
    refine T_seq ?_
    refine T_seq ?_
    refine T_region ?_
    refine R_op rfl rfl rfl (op_fldB fa_55_1 (Has.t rfl) rfl) ?_
    refine R_op rfl rfl rfl (op_ldB Tryz.isAgg44 Tryz.sizeOf44 (Has.t rfl) (i := 0) rfl rfl) ?_
    refine R_op rfl rfl rfl (op_fldB fa_55_1 (Has.t rfl) rfl) ?_
    refine R_op rfl rfl rfl (op_ldB Tryz.isAgg44 Tryz.sizeOf44 (Has.t rfl) (i := 1) rfl rfl) ?_
    refine R_op rfl rfl rfl (op_call Tryz.call116 (c_rNatCmp (by omega) (by omega)) ⟨(Has.t rfl), (Has.t rfl), trivial⟩) ?_
    refine R_op rfl rfl rfl (op_geq (Has.t rfl) Has.c) ?_
    refine R_nil ?_
    refine T_cond (Has.t rfl) (fun hc => ?_) (fun hc => ?_)
    · have hle : y.natAbs ≤ x.natAbs := cmpZ_ge (by simpa using hc)
      refine T_seq ?_
      refine D_start (m := 7) ?_
      refine D_step (Ei := [(2, _)]) rfl rfl (Srcs.cons (Src.pre rfl rfl) Srcs.nil) (S_plain rfl (op_fldB fa_55_0 (Has.t rfl) rfl)) ?_
      refine D_step (Ei := [(24, _)]) rfl rfl (Srcs.cons (Src.op 0 rfl rfl) Srcs.nil) (S_plain rfl (op_ldB Tryz.isAgg4 Tryz.sizeOf4 (Has.t rfl) (i := 0) rfl rfl)) ?_
      refine D_step (Ei := [(2, _)]) rfl rfl (Srcs.cons (Src.pre rfl rfl) Srcs.nil) (S_plain rfl (op_fldB fa_55_1 (Has.t rfl) rfl)) ?_
      refine D_step (Ei := [(26, _)]) rfl rfl (Srcs.cons (Src.op 2 rfl rfl) Srcs.nil) (S_plain rfl (op_ldB Tryz.isAgg44 Tryz.sizeOf44 (Has.t rfl) (i := 0) rfl rfl)) ?_
      refine D_step (Ei := [(3, _)]) rfl rfl (Srcs.cons (Src.pre rfl rfl) Srcs.nil) (S_plain rfl (op_fldB fa_55_1 (Has.t rfl) rfl)) ?_
      refine D_step (Ei := [(28, _)]) rfl rfl (Srcs.cons (Src.op 4 rfl rfl) Srcs.nil) (S_plain rfl (op_ldB Tryz.isAgg44 Tryz.sizeOf44 (Has.t rfl) (i := 1) rfl rfl)) ?_
      refine D_step (Ei := [(27, _), (29, _)]) rfl rfl (Srcs.cons (Src.op 3 rfl rfl) (Srcs.cons (Src.op 5 rfl rfl) Srcs.nil)) (S_plain rfl (op_call Tryz.call206 (c_rNatSub (by omega) (by omega)) ⟨(Has.t rfl), (Has.t rfl), trivial⟩)) ?_
      refine D_done mixed rfl (by kernel_rfl) (F_val (F_val (F_val (F_val (F_val (F_val (F_val (F_nil ?_))))))))
      refine R_op rfl rfl rfl (op_call Tryz.call204 c_rsigned ⟨(Has.t rfl), (Has.t rfl), trivial⟩) ?_
      refine R_stA Tryz.sizeOf55 (Has.t rfl) (Has.t rfl) rfl (i := 2) rfl (Nat.le_of_ble_eq_true rfl) rfl rfl ?_
      refine R_nil ?_
      refine T_ret1 rfl (rv_to (rv_cell Tryz.isAgg55 Tryz.sizeOf55 rfl (i := 2) rfl rfl) ?_)
      exact (whole_of (sgn_less he hle))
    · have hle : x.natAbs ≤ y.natAbs := Nat.le_of_lt (cmpZ_lt (by simpa using hc))
      refine T_skip ?_
      refine T_seq ?_
      refine D_start (m := 7) ?_
      refine D_step (Ei := [(3, _)]) rfl rfl (Srcs.cons (Src.pre rfl rfl) Srcs.nil) (S_plain rfl (op_fldB fa_55_0 (Has.t rfl) rfl)) ?_
      refine D_step (Ei := [(32, _)]) rfl rfl (Srcs.cons (Src.op 0 rfl rfl) Srcs.nil) (S_plain rfl (op_ldB Tryz.isAgg4 Tryz.sizeOf4 (Has.t rfl) (i := 1) rfl rfl)) ?_
      refine D_step (Ei := [(3, _)]) rfl rfl (Srcs.cons (Src.pre rfl rfl) Srcs.nil) (S_plain rfl (op_fldB fa_55_1 (Has.t rfl) rfl)) ?_
      refine D_step (Ei := [(34, _)]) rfl rfl (Srcs.cons (Src.op 2 rfl rfl) Srcs.nil) (S_plain rfl (op_ldB Tryz.isAgg44 Tryz.sizeOf44 (Has.t rfl) (i := 1) rfl rfl)) ?_
      refine D_step (Ei := [(2, _)]) rfl rfl (Srcs.cons (Src.pre rfl rfl) Srcs.nil) (S_plain rfl (op_fldB fa_55_1 (Has.t rfl) rfl)) ?_
      refine D_step (Ei := [(36, _)]) rfl rfl (Srcs.cons (Src.op 4 rfl rfl) Srcs.nil) (S_plain rfl (op_ldB Tryz.isAgg44 Tryz.sizeOf44 (Has.t rfl) (i := 0) rfl rfl)) ?_
      refine D_step (Ei := [(35, _), (37, _)]) rfl rfl (Srcs.cons (Src.op 3 rfl rfl) (Srcs.cons (Src.op 5 rfl rfl) Srcs.nil)) (S_plain rfl (op_call Tryz.call206 (c_rNatSub (by omega) (by omega)) ⟨(Has.t rfl), (Has.t rfl), trivial⟩)) ?_
      refine D_done mixed rfl (by kernel_rfl) (F_val (F_val (F_val (F_val (F_val (F_val (F_val (F_nil ?_))))))))
      refine R_op rfl rfl rfl (op_call Tryz.call204 c_rsigned ⟨(Has.t rfl), (Has.t rfl), trivial⟩) ?_
      refine R_stA Tryz.sizeOf55 (Has.t rfl) (Has.t rfl) rfl (i := 2) rfl (Nat.le_of_ble_eq_true rfl) rfl rfl ?_
      refine R_nil ?_
      refine T_ret1 rfl (rv_to (rv_cell Tryz.isAgg55 Tryz.sizeOf55 rfl (i := 2) rfl rfl) ?_)
      exact (whole_of (by rw [sgn_less (Ne.symm he) hle, Int.add_comm]))
set_option maxRecDepth 20000 in
theorem c_rIntSub {x y : Int} (hx : (dg x.natAbs).length ≤ 17592186044416) (hy : (dg y.natAbs).length ≤ 17592186044416) : Fun Tryz.prog 158 [WholeT x, WholeT y] (WholeT (x + -y)) := by
  have hny := dl_neg y
  refine Fun.intro Tryz.func158 rfl Tryz.ntmps158 rfl (fun cx => ?_)
  refine T_seq ?_
  refine T_region ?_
  refine R_new rfl rfl rfl (new_box (Has.t rfl)) (fun B2 => ?_)
  refine R_new rfl rfl rfl (new_box (Has.t rfl)) (fun B3 => ?_)
  refine R_new rfl rfl rfl (new_alloc (Ts := [Is (.bool false), Is (.slice none 0 0)]) Tryz.zeroValue55 rfl (fun V => Cells.cons' ⟨rfl, trivial⟩ (Cells.cons' ⟨rfl, trivial⟩ (Cells.nil)))) (fun B4 => ?_)
  refine R_nil ?_
  refine T_seq ?_
  refine D_start (m := 3) ?_
  refine D_step (Ei := [(2, _)]) rfl rfl (Srcs.cons (Src.pre rfl rfl) Srcs.nil) (S_plain rfl (op_ldBA Tryz.isAgg55 Tryz.sizeOf55 (Has.t rfl) (i := 0) rfl rfl rfl)) ?_
  refine D_step (Ei := [(3, _)]) rfl rfl (Srcs.cons (Src.pre rfl rfl) Srcs.nil) (S_plain rfl (op_ldBA Tryz.isAgg55 Tryz.sizeOf55 (Has.t rfl) (i := 1) rfl rfl rfl)) ?_
  refine D_step (Ei := [(6, _)]) rfl rfl (Srcs.cons (Src.op 1 rfl rfl) Srcs.nil) (S_plain rfl (op_call Tryz.call165 c_rIntNeg ⟨(Has.t rfl), trivial⟩)) ?_
  refine D_done mixed rfl (by kernel_rfl) (F_val (F_val (F_val (F_nil ?_))))
  refine R_op rfl rfl rfl (op_call Tryz.call160 (c_rIntAdd (by omega) (by omega)) ⟨(Has.t rfl), (Has.t rfl), trivial⟩) ?_
  refine R_stA Tryz.sizeOf55 (Has.t rfl) (Has.t rfl) rfl (i := 2) rfl (Nat.le_of_ble_eq_true rfl) rfl rfl ?_
  refine R_nil ?_
  exact T_ret1 rfl (rv_cell Tryz.isAgg55 Tryz.sizeOf55 rfl (i := 2) rfl rfl)
set_option maxRecDepth 20000 in
theorem c_rIntMul {x y : Int} (hx : (dg x.natAbs).length ≤ 17592186044416) (hy : (dg y.natAbs).length ≤ 17592186044416) : Fun Tryz.prog 159 [WholeT x, WholeT y] (WholeT (x * y)) := by
  refine Fun.intro Tryz.func159 rfl Tryz.ntmps159 rfl (fun cx => ?_)
  refine T_seq ?_
  refine T_region ?_
  refine R_new rfl rfl rfl (new_box (Has.t rfl)) (fun B2 => ?_)
  refine R_new rfl rfl rfl (new_box (Has.t rfl)) (fun B3 => ?_)
  refine R_new rfl rfl rfl (new_alloc (Ts := [Is (.bool false), Is (.slice none 0 0)]) Tryz.zeroValue55 rfl (fun V => Cells.cons' ⟨rfl, trivial⟩ (Cells.cons' ⟨rfl, trivial⟩ (Cells.nil)))) (fun B4 => ?_)
  refine R_nil ?_
  refine T_seq ?_
  refine D_start (m := 10) ?_
  refine D_step (Ei := [(2, _)]) rfl rfl (Srcs.cons (Src.pre rfl rfl) Srcs.nil) (S_plain rfl (op_fldB fa_55_0 (Has.t rfl) rfl)) ?_
  refine D_step (Ei := [(5, _)]) rfl rfl (Srcs.cons (Src.op 0 rfl rfl) Srcs.nil) (S_plain rfl (op_ldB Tryz.isAgg4 Tryz.sizeOf4 (Has.t rfl) (i := 0) rfl rfl)) ?_
  refine D_step (Ei := [(3, _)]) rfl rfl (Srcs.cons (Src.pre rfl rfl) Srcs.nil) (S_plain rfl (op_fldB fa_55_0 (Has.t rfl) rfl)) ?_
  refine D_step (Ei := [(7, _)]) rfl rfl (Srcs.cons (Src.op 2 rfl rfl) Srcs.nil) (S_plain rfl (op_ldB Tryz.isAgg4 Tryz.sizeOf4 (Has.t rfl) (i := 1) rfl rfl)) ?_
  refine D_step (Ei := [(6, _), (8, _)]) rfl rfl (Srcs.cons (Src.op 1 rfl rfl) (Srcs.cons (Src.op 3 rfl rfl) Srcs.nil)) (S_plain rfl (op_bne Tryz.runUnderlying4 (Has.t rfl) (Has.t rfl))) ?_
  refine D_step (Ei := [(2, _)]) rfl rfl (Srcs.cons (Src.pre rfl rfl) Srcs.nil) (S_plain rfl (op_fldB fa_55_1 (Has.t rfl) rfl)) ?_
  refine D_step (Ei := [(10, _)]) rfl rfl (Srcs.cons (Src.op 5 rfl rfl) Srcs.nil) (S_plain rfl (op_ldB Tryz.isAgg44 Tryz.sizeOf44 (Has.t rfl) (i := 0) rfl rfl)) ?_
  refine D_step (Ei := [(3, _)]) rfl rfl (Srcs.cons (Src.pre rfl rfl) Srcs.nil) (S_plain rfl (op_fldB fa_55_1 (Has.t rfl) rfl)) ?_
  refine D_step (Ei := [(12, _)]) rfl rfl (Srcs.cons (Src.op 7 rfl rfl) Srcs.nil) (S_plain rfl (op_ldB Tryz.isAgg44 Tryz.sizeOf44 (Has.t rfl) (i := 1) rfl rfl)) ?_
  refine D_step (Ei := [(11, _), (13, _)]) rfl rfl (Srcs.cons (Src.op 6 rfl rfl) (Srcs.cons (Src.op 8 rfl rfl) Srcs.nil)) (S_plain rfl (op_call Tryz.call161 (c_rNatMul (by omega) (by omega)) ⟨(Has.t rfl), (Has.t rfl), trivial⟩)) ?_
  refine D_done mixed rfl (by kernel_rfl) (F_val (F_val (F_val (F_val (F_val (F_val (F_val (F_val (F_val (F_val (F_nil ?_)))))))))))
  refine R_op rfl rfl rfl (op_call Tryz.call204 c_rsigned ⟨(Has.t rfl), (Has.t rfl), trivial⟩) ?_
  refine R_stA Tryz.sizeOf55 (Has.t rfl) (Has.t rfl) rfl (i := 2) rfl (Nat.le_of_ble_eq_true rfl) rfl rfl ?_
  refine R_nil ?_
  refine T_ret1 rfl (rv_to (rv_cell Tryz.isAgg55 Tryz.sizeOf55 rfl (i := 2) rfl rfl) ?_)
  exact (whole_of (sgn_times x y))
set_option maxRecDepth 20000 in
theorem c_rMake {A B : Int} {D : Nat} (hD : 0 < D) (hA : (dg A.natAbs).length ≤ 17592186044415) (hB : (dg B.natAbs).length ≤ 17592186044415) (hD2 : (dg D).length ≤ 17592186044415) : Fun Tryz.prog 157 [WholeT A, WholeT B, NatT D] (QT (Qi.mk' A B D)) := by
  have hg1 := dl_gcd hA hB
  have hg2 := dl_gcd hg1 hD2
  have hgp : Nat.gcd (Nat.gcd A.natAbs B.natAbs) D ≠ 0 := fun e => by have := Nat.gcd_eq_zero_iff.1 e; omega
  refine Fun.intro Tryz.func157 rfl Tryz.ntmps157 rfl (fun cx => ?_)
  refine T_seq ?_
  refine T_region ?_
  refine R_new rfl rfl rfl (new_box (Has.t rfl)) (fun B3 => ?_)
  refine R_new rfl rfl rfl (new_box (Has.t rfl)) (fun B4 => ?_)
  refine R_new rfl rfl rfl (new_alloc (Ts := [Is (.bool false), Is (.slice none 0 0), Is (.bool false), Is (.slice none 0 0), Is (.slice none 0 0)]) Tryz.zeroValue57 rfl (fun V => Cells.cons' ⟨rfl, trivial⟩ (Cells.cons' ⟨rfl, trivial⟩ (Cells.cons' ⟨rfl, trivial⟩ (Cells.cons' ⟨rfl, trivial⟩ (Cells.cons' ⟨rfl, trivial⟩ (Cells.nil))))))) (fun B6 => ?_)
  refine R_nil ?_
  refine T_seq ?_
  refine T_region ?_
  refine R_op rfl rfl rfl (op_fldB fa_55_1 (Has.t rfl) rfl) ?_
  refine R_op rfl rfl rfl (op_ldB Tryz.isAgg44 Tryz.sizeOf44 (Has.t rfl) (i := 0) rfl rfl) ?_
  refine R_op rfl rfl rfl (op_fldB fa_55_1 (Has.t rfl) rfl) ?_
  refine R_op rfl rfl rfl (op_ldB Tryz.isAgg44 Tryz.sizeOf44 (Has.t rfl) (i := 1) rfl rfl) ?_
  refine R_op rfl rfl rfl (op_call Tryz.call202 (c_rGcd (by omega) (by omega)) ⟨(Has.t rfl), (Has.t rfl), trivial⟩) ?_
  refine R_op rfl rfl rfl (op_move (Has.t rfl)) ?_
  refine R_op rfl rfl rfl (op_call Tryz.call202 (c_rGcd (by omega) (by omega)) ⟨(Has.t rfl), (Has.t rfl), trivial⟩) ?_
  refine R_op rfl rfl rfl (op_assign (Has.t rfl)) ?_
  refine R_nil ?_
  refine T_seq ?_
  refine T_seq ?_
  refine T_region ?_
  refine R_op rfl rfl rfl (op_move (Has.t rfl)) ?_
  refine R_op rfl rfl rfl (op_len Tryz.runUnderlying44 (Has.t rfl) len_map) ?_
  refine R_op rfl rfl rfl (op_eqlN (Has.t rfl) (Has.cN 1)) ?_
  refine R_op rfl rfl rfl (op_move (Has.t rfl)) ?_
  refine R_step rfl rfl (S_when rfl rfl (Has.t rfl) (fun h => op_move (Has.t rfl))) ?_
  refine R_step rfl rfl (S_when rfl rfl (Has.t rfl) (fun h => op_idx Tryz.runUnderlying44 Tryz.sizeOf97 (Has.w rfl h) (Has.cN 0) rfl (map_get (get_some (by first | omega | (simp at h; omega)))))) ?_
  refine R_step rfl rfl (S_when rfl rfl (Has.t rfl) (fun h => op_ld Tryz.isAgg97 Tryz.sizeOf97 (Has.w rfl h))) ?_
  refine R_step rfl rfl (S_when rfl rfl (Has.t rfl) (fun h => op_eqlN (Has.w rfl h) (Has.cN 1))) ?_
  refine R_op rfl rfl rfl (op_and (Has.t rfl) (fun h => (Has.w rfl h))) ?_
  refine R_nil ?_
  refine T_cond (Has.t rfl) (fun hb => ?_) (fun hb => ?_)
  · rw [one_dg] at hb
    have hg : Qi.g3 A B D = 1 := by simpa [Qi.g3] using hb
    refine T_seq ?_
    refine T_region ?_
    refine R_op rfl rfl rfl (op_ldBA Tryz.isAgg55 Tryz.sizeOf55 (Has.t rfl) (i := 0) rfl rfl rfl) ?_
    refine R_op rfl rfl rfl (op_ldBA Tryz.isAgg55 Tryz.sizeOf55 (Has.t rfl) (i := 1) rfl rfl rfl) ?_
    refine R_op rfl rfl rfl (op_move (Has.t rfl)) ?_
    refine R_op rfl rfl rfl (bld_57_0_1_2 (Has.t rfl) (Has.t rfl) (Has.t rfl)) ?_
    refine R_stA Tryz.sizeOf57 (Has.t rfl) (Has.t rfl) rfl (i := 2) rfl (Nat.le_of_ble_eq_true rfl) rfl rfl ?_
    refine R_nil ?_
    refine T_ret1 rfl (rv_to (rv_cell Tryz.isAgg57 Tryz.sizeOf57 rfl (i := 2) rfl rfl) ?_)
    exact (make_one hD hg)
  · refine T_skip ?_
    refine T_seq ?_
    refine T_region ?_
    refine R_op rfl rfl rfl (op_fldB fa_55_1 (Has.t rfl) rfl) ?_
    refine R_op rfl rfl rfl (op_ldB Tryz.isAgg44 Tryz.sizeOf44 (Has.t rfl) (i := 0) rfl rfl) ?_
    refine R_op rfl rfl rfl (op_move (Has.t rfl)) ?_
    refine R_op rfl rfl rfl (op_call Tryz.call203 (c_rDiv (by omega) (by omega) (by omega)) ⟨(Has.t rfl), (Has.t rfl), trivial⟩) ?_
    refine R_op rfl rfl rfl (op_move (Has.t rfl)) ?_
    refine R_op rfl rfl rfl (op_extract (Has.t rfl) rfl) ?_
    refine R_op rfl rfl rfl (op_extract (Has.t rfl) rfl) ?_
    refine R_op rfl rfl rfl (op_assign (Has.t rfl)) ?_
    refine R_op rfl rfl rfl (op_assign (Has.t rfl)) ?_
    refine R_nil ?_
    refine T_seq ?_
    refine T_region ?_
    refine R_op rfl rfl rfl (op_fldB fa_55_1 (Has.t rfl) rfl) ?_
    refine R_op rfl rfl rfl (op_ldB Tryz.isAgg44 Tryz.sizeOf44 (Has.t rfl) (i := 1) rfl rfl) ?_
    refine R_op rfl rfl rfl (op_move (Has.t rfl)) ?_
    refine R_op rfl rfl rfl (op_call Tryz.call203 (c_rDiv (by omega) (by omega) (by omega)) ⟨(Has.t rfl), (Has.t rfl), trivial⟩) ?_
    refine R_op rfl rfl rfl (op_move (Has.t rfl)) ?_
    refine R_op rfl rfl rfl (op_extract (Has.t rfl) rfl) ?_
    refine R_op rfl rfl rfl (op_extract (Has.t rfl) rfl) ?_
    refine R_op rfl rfl rfl (op_assign (Has.t rfl)) ?_
    refine R_op rfl rfl rfl (op_assign (Has.t rfl)) ?_
    refine R_nil ?_
    refine T_seq ?_
    refine T_region ?_
    refine R_op rfl rfl rfl (op_move (Has.t rfl)) ?_
    refine R_op rfl rfl rfl (op_move (Has.t rfl)) ?_
    refine R_op rfl rfl rfl (op_call Tryz.call203 (c_rDiv (by omega) (by omega) (by omega)) ⟨(Has.t rfl), (Has.t rfl), trivial⟩) ?_
    refine R_op rfl rfl rfl (op_move (Has.t rfl)) ?_
    refine R_op rfl rfl rfl (op_extract (Has.t rfl) rfl) ?_
    refine R_op rfl rfl rfl (op_extract (Has.t rfl) rfl) ?_
    refine R_op rfl rfl rfl (op_assign (Has.t rfl)) ?_
    refine R_op rfl rfl rfl (op_assign (Has.t rfl)) ?_
    refine R_nil ?_
    refine T_seq ?_
    refine D_start (m := 9) ?_
    refine D_step (Ei := [(3, _)]) rfl rfl (Srcs.cons (Src.pre rfl rfl) Srcs.nil) (S_plain rfl (op_fldB fa_55_0 (Has.t rfl) rfl)) ?_
    refine D_step (Ei := [(54, _)]) rfl rfl (Srcs.cons (Src.op 0 rfl rfl) Srcs.nil) (S_plain rfl (op_ldB Tryz.isAgg4 Tryz.sizeOf4 (Has.t rfl) (i := 0) rfl rfl)) ?_
    refine D_step (Ei := [(8, _)]) rfl rfl (Srcs.cons (Src.pre rfl rfl) Srcs.nil) (S_plain rfl (op_move (Has.t rfl))) ?_
    refine D_step (Ei := [(55, _), (56, _)]) rfl rfl (Srcs.cons (Src.op 1 rfl rfl) (Srcs.cons (Src.op 2 rfl rfl) Srcs.nil)) (S_plain rfl (op_call Tryz.call204 c_rsigned ⟨(Has.t rfl), (Has.t rfl), trivial⟩)) ?_
    refine D_step (Ei := [(4, _)]) rfl rfl (Srcs.cons (Src.pre rfl rfl) Srcs.nil) (S_plain rfl (op_fldB fa_55_0 (Has.t rfl) rfl)) ?_
    refine D_step (Ei := [(58, _)]) rfl rfl (Srcs.cons (Src.op 4 rfl rfl) Srcs.nil) (S_plain rfl (op_ldB Tryz.isAgg4 Tryz.sizeOf4 (Has.t rfl) (i := 1) rfl rfl)) ?_
    refine D_step (Ei := [(10, _)]) rfl rfl (Srcs.cons (Src.pre rfl rfl) Srcs.nil) (S_plain rfl (op_move (Has.t rfl))) ?_
    refine D_step (Ei := [(59, _), (60, _)]) rfl rfl (Srcs.cons (Src.op 5 rfl rfl) (Srcs.cons (Src.op 6 rfl rfl) Srcs.nil)) (S_plain rfl (op_call Tryz.call204 c_rsigned ⟨(Has.t rfl), (Has.t rfl), trivial⟩)) ?_
    refine D_step (Ei := [(12, _)]) rfl rfl (Srcs.cons (Src.pre rfl rfl) Srcs.nil) (S_plain rfl (op_move (Has.t rfl))) ?_
    refine D_done mixed rfl (by kernel_rfl) (F_val (F_val (F_val (F_val (F_val (F_val (F_val (F_val (F_val (F_nil ?_))))))))))
    refine R_op rfl rfl rfl (bld_57_0_1_2 (Has.t rfl) (Has.t rfl) (Has.t rfl)) ?_
    refine R_stA Tryz.sizeOf57 (Has.t rfl) (Has.t rfl) rfl (i := 2) rfl (Nat.le_of_ble_eq_true rfl) rfl rfl ?_
    refine R_nil ?_
    refine T_ret1 rfl (rv_to (rv_cell Tryz.isAgg57 Tryz.sizeOf57 rfl (i := 2) rfl rfl) ?_)
    exact (make_sgn hD rfl)
set_option maxRecDepth 20000 in
theorem c_rWhole {n : Int} (h1 : -9223372036854775808 ≤ n) (h2 : n ≤ 9223372036854775807) : Fun Tryz.prog 86 [IntT .i64 n] (QT (Qi.ofInt n)) := by
  refine Fun.intro Tryz.func86 rfl Tryz.ntmps86 rfl (fun cx => ?_)
  refine T_seq ?_
  refine T_region ?_
  refine R_new rfl rfl rfl (new_alloc (Ts := [Is (.bool false), Is (.slice none 0 0), Is (.bool false), Is (.slice none 0 0), Is (.slice none 0 0)]) Tryz.zeroValue57 rfl (fun V => Cells.cons' ⟨rfl, trivial⟩ (Cells.cons' ⟨rfl, trivial⟩ (Cells.cons' ⟨rfl, trivial⟩ (Cells.cons' ⟨rfl, trivial⟩ (Cells.cons' ⟨rfl, trivial⟩ (Cells.nil))))))) (fun B2 => ?_)
  refine R_nil ?_
  refine T_seq ?_
  refine T_region ?_
  refine R_op rfl rfl rfl (op_move (Has.t rfl)) ?_
  refine R_op rfl rfl rfl (op_call Tryz.call156 (c_rIntOf h1 h2) ⟨(Has.t rfl), trivial⟩) ?_
  refine R_op rfl rfl rfl (bld_55_ ) ?_
  refine R_op rfl rfl rfl (op_bslice (xs := [_]) Tryz.runUnderlying44 Tryz.sizeOf97 Tryz.zeroValue97 (Elems.cons (Has.cN 1) Elems.nil) rfl rfl rfl) ?_
  refine R_op rfl rfl rfl (bld_57_0_1_2 (Has.t rfl) (Has.t rfl) (Has.t rfl)) ?_
  refine R_stA Tryz.sizeOf57 (Has.t rfl) (Has.t rfl) rfl (i := 0) rfl (Nat.le_of_ble_eq_true rfl) rfl rfl ?_
  refine R_nil ?_
  refine T_ret1 rfl (rv_to (rv_cell Tryz.isAgg57 Tryz.sizeOf57 rfl (i := 0) rfl rfl) ?_)
  exact q_int
set_option maxRecDepth 20000 in
theorem c_rNew {p q d : Int} (p1 : -9223372036854775808 ≤ p) (p2 : p ≤ 9223372036854775807) (q1 : -9223372036854775808 ≤ q) (q2 : q ≤ 9223372036854775807) (d1 : -9223372036854775808 ≤ d) (d2 : d ≤ 9223372036854775807) (hd : d ≠ 0) : Fun Tryz.prog 93 [IntT .i64 p, IntT .i64 q, IntT .i64 d] (TupT [QT (Qi.frac p q d), IntT .i64 0]) := by
  have lp := dl64 p1 p2; have lq := dl64 q1 q2; have ld := dl64 d1 d2; have np := dl_neg p; have nq := dl_neg q
  refine Fun.intro Tryz.func93 rfl Tryz.ntmps93 rfl (fun cx => ?_)
  refine T_seq ?_
  refine T_region ?_
  refine R_new rfl rfl rfl (new_alloc (Ts := [Is (.bool false), Is (.slice none 0 0), Is (.bool false), Is (.slice none 0 0), Is (.slice none 0 0)]) Tryz.zeroValue57 rfl (fun V => Cells.cons' ⟨rfl, trivial⟩ (Cells.cons' ⟨rfl, trivial⟩ (Cells.cons' ⟨rfl, trivial⟩ (Cells.cons' ⟨rfl, trivial⟩ (Cells.cons' ⟨rfl, trivial⟩ (Cells.nil))))))) (fun B6 => ?_)
  refine R_op rfl rfl rfl (op_assign (Has.cN 0)) ?_
  refine R_nil ?_
  refine T_seq ?_
  refine T_seq ?_
  refine T_region ?_
  refine R_op rfl rfl rfl (op_move (Has.t rfl)) ?_
  refine R_op rfl rfl rfl (op_eql (Has.t rfl) Has.c) ?_
  refine R_nil ?_
  refine T_condF (Has.t rfl) (by simp [hd]) ?_
  refine T_skip ?_
  refine T_seq ?_
  refine T_region ?_
  refine R_op rfl rfl rfl (op_move (Has.t rfl)) ?_
  refine R_op rfl rfl rfl (op_call Tryz.call156 (c_rIntOf d1 d2) ⟨(Has.t rfl), trivial⟩) ?_
  refine R_new rfl rfl rfl (new_alloc (Ts := [Is (.bool false), Is (.slice none 0 0)]) Tryz.zeroValue55 rfl (fun V => Cells.cons' ⟨rfl, trivial⟩ (Cells.cons' ⟨rfl, trivial⟩ (Cells.nil)))) (fun B8 => ?_)
  refine R_stA Tryz.sizeOf55 (Has.t rfl) (Has.t rfl) rfl (i := 1) rfl (Nat.le_of_ble_eq_true rfl) rfl rfl ?_
  refine R_nil ?_
  refine T_seq ?_
  refine T_region ?_
  refine R_op rfl rfl rfl (op_move (Has.t rfl)) ?_
  refine R_op rfl rfl rfl (op_call Tryz.call156 (c_rIntOf p1 p2) ⟨(Has.t rfl), trivial⟩) ?_
  refine R_op rfl rfl rfl (op_move (Has.t rfl)) ?_
  refine R_op rfl rfl rfl (op_call Tryz.call156 (c_rIntOf q1 q2) ⟨(Has.t rfl), trivial⟩) ?_
  refine R_new rfl rfl rfl (new_alloc (Ts := [Is (.bool false), Is (.slice none 0 0)]) Tryz.zeroValue55 rfl (fun V => Cells.cons' ⟨rfl, trivial⟩ (Cells.cons' ⟨rfl, trivial⟩ (Cells.nil)))) (fun B9 => ?_)
  refine R_new rfl rfl rfl (new_alloc (Ts := [Is (.bool false), Is (.slice none 0 0)]) Tryz.zeroValue55 rfl (fun V => Cells.cons' ⟨rfl, trivial⟩ (Cells.cons' ⟨rfl, trivial⟩ (Cells.nil)))) (fun B10 => ?_)
  refine R_stA Tryz.sizeOf55 (Has.t rfl) (Has.t rfl) rfl (i := 2) rfl (Nat.le_of_ble_eq_true rfl) rfl rfl ?_
  refine R_stA Tryz.sizeOf55 (Has.t rfl) (Has.t rfl) rfl (i := 3) rfl (Nat.le_of_ble_eq_true rfl) rfl rfl ?_
  refine R_nil ?_
  refine T_seq ?_
  refine T_join2 (fun (a : Int) (b : Int) => Qi.mk' a b d.natAbs = Qi.frac p q d ∧ (dg a.natAbs).length ≤ 2 ∧ (dg b.natAbs).length ≤ 2) (fun (a : Int) (b : Int) => [(6, PtrB B6 0), (8, PtrB B8 0), (9, PtrB B9 0), (10, PtrB B10 0)]) (fun (a : Int) (b : Int) => [box B6 57 [Is (.bool false), Is (.slice none 0 0), Is (.bool false), Is (.slice none 0 0), Is (.slice none 0 0)], box B8 55 [BoolT (decide (d < 0)), NatT (d).natAbs], box B9 55 [BoolT (decide (a < 0)), NatT (a).natAbs], box B10 55 [BoolT (decide (b < 0)), NatT (b).natAbs]]) ?_ (fun a b ⟨hab, ha, hb⟩ => ?_)
  · refine T_seq ?_
    refine T_region ?_
    refine R_op rfl rfl rfl (op_fldB fa_55_0 (Has.t rfl) rfl) ?_
    refine R_op rfl rfl rfl (op_ldB Tryz.isAgg4 Tryz.sizeOf4 (Has.t rfl) (i := 1) rfl rfl) ?_
    refine R_nil ?_
    refine T_cond (Has.t rfl) (fun hn => ?_) (fun hn => ?_)
    · simp only [decide_eq_true_eq] at hn
      refine D_start (m := 3) ?_
      refine D_step (Ei := [(9, _)]) rfl rfl (Srcs.cons (Src.pre rfl rfl) Srcs.nil) (S_plain rfl (op_ldBA Tryz.isAgg55 Tryz.sizeOf55 (Has.t rfl) (i := 2) rfl rfl rfl)) ?_
      refine D_step (Ei := [(22, _)]) rfl rfl (Srcs.cons (Src.op 0 rfl rfl) Srcs.nil) (S_plain rfl (op_call Tryz.call165 c_rIntNeg ⟨(Has.t rfl), trivial⟩)) ?_
      refine D_step (Ei := [(10, _)]) rfl rfl (Srcs.cons (Src.pre rfl rfl) Srcs.nil) (S_plain rfl (op_ldBA Tryz.isAgg55 Tryz.sizeOf55 (Has.t rfl) (i := 3) rfl rfl rfl)) ?_
      refine D_done mixed rfl (by kernel_rfl) (F_val (F_val (F_val (F_nil ?_))))
      refine R_op rfl rfl rfl (op_call Tryz.call165 c_rIntNeg ⟨(Has.t rfl), trivial⟩) ?_
      refine R_stA Tryz.sizeOf55 (Has.t rfl) (Has.t rfl) rfl (i := 2) rfl (Nat.le_of_ble_eq_true rfl) rfl rfl ?_
      refine R_stA Tryz.sizeOf55 (Has.t rfl) (Has.t rfl) rfl (i := 3) rfl (Nat.le_of_ble_eq_true rfl) rfl rfl ?_
      refine R_nil ?_
      refine T_joined (-p, -q) ⟨Qi.frac_neg hn, by dsimp only; omega, by dsimp only; omega⟩ (Sub.cons rfl (Sub.cons rfl (Sub.cons rfl (Sub.cons rfl Sub.nil)))) (HSub.cons (box_of rfl) (HSub.cons (box_of rfl) (HSub.cons (box_of rfl) (HSub.cons (box_of rfl) HSub.nil))))
    · simp only [decide_eq_false_iff_not] at hn
      refine T_skip ?_
      refine T_joined (p, q) ⟨Qi.frac_pos hn hd, by omega, by omega⟩ (Sub.cons rfl (Sub.cons rfl (Sub.cons rfl (Sub.cons rfl Sub.nil)))) (HSub.refl _)
  · refine T_seq ?_
    refine T_region ?_
    refine R_op rfl rfl rfl (op_ldBA Tryz.isAgg55 Tryz.sizeOf55 (Has.t rfl) (i := 2) rfl rfl rfl) ?_
    refine R_op rfl rfl rfl (op_ldBA Tryz.isAgg55 Tryz.sizeOf55 (Has.t rfl) (i := 3) rfl rfl rfl) ?_
    refine R_op rfl rfl rfl (op_fldB fa_55_1 (Has.t rfl) rfl) ?_
    refine R_op rfl rfl rfl (op_ldB Tryz.isAgg44 Tryz.sizeOf44 (Has.t rfl) (i := 1) rfl rfl) ?_
    refine R_op rfl rfl rfl (op_call Tryz.call157 (c_rMake (by omega) (by omega) (by omega) (by omega)) ⟨(Has.t rfl), (Has.t rfl), (Has.t rfl), trivial⟩) ?_
    refine R_stA Tryz.sizeOf57 (Has.t rfl) (Has.t rfl) rfl (i := 0) rfl (Nat.le_of_ble_eq_true rfl) rfl rfl ?_
    refine R_op rfl rfl rfl (op_assign (Has.cN 0)) ?_
    refine R_nil ?_
    refine T_ret2 rfl (rv_to (rv_cell Tryz.isAgg57 Tryz.sizeOf57 rfl (i := 0) rfl rfl) ?_) (rv_tmp rfl)
    exact (q_of hab)
set_option maxRecDepth 20000 in
theorem c_rOf {r : Rt} : Fun Tryz.prog 20 [RatT r] (QT r.q) := by
  have hr1 := r.h1; have hr2 := r.h2; have hr3 := r.h3; have hr4 := r.h4; have hr5 := r.d1; have hr6 := r.d2; have hr0 := r.d0
  refine Fun.intro Tryz.func20 rfl Tryz.ntmps20 rfl (fun cx => ?_)
  refine T_seq ?_
  refine T_region ?_
  refine R_new rfl rfl rfl (new_box (Has.t rfl)) (fun B1 => ?_)
  refine R_new rfl rfl rfl (new_alloc (Ts := [Is (.bool false), Is (.slice none 0 0), Is (.bool false), Is (.slice none 0 0), Is (.slice none 0 0)]) Tryz.zeroValue57 rfl (fun V => Cells.cons' ⟨rfl, trivial⟩ (Cells.cons' ⟨rfl, trivial⟩ (Cells.cons' ⟨rfl, trivial⟩ (Cells.cons' ⟨rfl, trivial⟩ (Cells.cons' ⟨rfl, trivial⟩ (Cells.nil))))))) (fun B2 => ?_)
  refine R_nil ?_
  refine T_seq ?_
  refine T_join (fun (uu : Unit) => True) (fun (uu : Unit) => [(1, PtrB B1 0), (2, PtrB B2 0)]) (fun (uu : Unit) => [box B1 27 [IntT .i64 r.re, IntT .i64 r.im, IntT .i64 r.d], box B2 57 [Is (.bool false), Is (.slice none 0 0), Is (.bool false), Is (.slice none 0 0), Is (.slice none 0 0)]]) ?_ (fun uu _ => ?_)
  · refine T_seq ?_
    refine T_region ?_
    refine R_op rfl rfl rfl (op_fldB fa_27_2 (Has.t rfl) rfl) ?_
    refine R_op rfl rfl rfl (op_ldB Tryz.isAgg2 Tryz.sizeOf2 (Has.t rfl) (i := 0) rfl rfl) ?_
    refine R_op rfl rfl rfl (op_eql (Has.t rfl) Has.c) ?_
    refine R_nil ?_
    refine T_cond (Has.t rfl) (fun hb => ?_) (fun hb => ?_)
    · simp only [decide_eq_true_eq] at hb
      refine T_region ?_
      refine R_op rfl rfl rfl (op_fldB fa_27_2 (Has.t rfl) rfl) ?_
      refine R_st Tryz.sizeOf2 (Has.t rfl) (Has.cN 1) (i := 0) rfl (Nat.le_of_ble_eq_true rfl) rfl ?_
      refine R_nil ?_
      refine T_joined () trivial (Sub.cons rfl (Sub.cons rfl Sub.nil)) (HSub.cons (box_of (by rw [Rt.d, if_pos hb]; rfl)) (HSub.cons (box_of rfl) HSub.nil))
    · simp only [decide_eq_false_iff_not] at hb
      refine T_skip ?_
      refine T_joined () trivial (Sub.cons rfl (Sub.cons rfl Sub.nil)) (HSub.cons (box_of (by rw [Rt.d, if_neg hb])) (HSub.cons (box_of rfl) HSub.nil))
  · refine T_seq ?_
    refine T_region ?_
    refine R_op rfl rfl rfl (op_fldB fa_27_0 (Has.t rfl) rfl) ?_
    refine R_op rfl rfl rfl (op_ldB Tryz.isAgg2 Tryz.sizeOf2 (Has.t rfl) (i := 0) rfl rfl) ?_
    refine R_op rfl rfl rfl (op_fldB fa_27_1 (Has.t rfl) rfl) ?_
    refine R_op rfl rfl rfl (op_ldB Tryz.isAgg2 Tryz.sizeOf2 (Has.t rfl) (i := 0) rfl rfl) ?_
    refine R_op rfl rfl rfl (op_fldB fa_27_2 (Has.t rfl) rfl) ?_
    refine R_op rfl rfl rfl (op_ldB Tryz.isAgg2 Tryz.sizeOf2 (Has.t rfl) (i := 0) rfl rfl) ?_
    refine R_op rfl rfl rfl (op_call Tryz.call93 (c_rNew hr1 hr2 hr3 hr4 hr5 hr6 hr0) ⟨(Has.t rfl), (Has.t rfl), (Has.t rfl), trivial⟩) ?_
    refine R_op rfl rfl rfl (op_move (Has.t rfl)) ?_
    refine R_op rfl rfl rfl (op_extract (Has.t rfl) rfl) ?_
    refine R_op rfl rfl rfl (op_extract (Has.t rfl) rfl) ?_
    refine R_new rfl rfl rfl (new_alloc (Ts := [Is (.bool false), Is (.slice none 0 0), Is (.bool false), Is (.slice none 0 0), Is (.slice none 0 0)]) Tryz.zeroValue57 rfl (fun V => Cells.cons' ⟨rfl, trivial⟩ (Cells.cons' ⟨rfl, trivial⟩ (Cells.cons' ⟨rfl, trivial⟩ (Cells.cons' ⟨rfl, trivial⟩ (Cells.cons' ⟨rfl, trivial⟩ (Cells.nil))))))) (fun B3 => ?_)
    refine R_stA Tryz.sizeOf57 (Has.t rfl) (Has.t rfl) rfl (i := 2) rfl (Nat.le_of_ble_eq_true rfl) rfl rfl ?_
    refine R_op rfl rfl rfl (op_assign (Has.t rfl)) ?_
    refine R_nil ?_
    refine T_seq ?_
    refine T_region ?_
    refine R_op rfl rfl rfl (op_ldBA Tryz.isAgg57 Tryz.sizeOf57 (Has.t rfl) (i := 2) rfl rfl rfl) ?_
    refine R_stA Tryz.sizeOf57 (Has.t rfl) (Has.t rfl) rfl (i := 1) rfl (Nat.le_of_ble_eq_true rfl) rfl rfl ?_
    refine R_nil ?_
    exact T_ret1 rfl (rv_cell Tryz.isAgg57 Tryz.sizeOf57 rfl (i := 1) rfl rfl)
set_option maxRecDepth 20000 in
theorem c_rAdd {x y : Qi} {L M : Nat} [hx : FitC x L] [hy : FitC y M] (h : L + M + 1 ≤ 17592186044415) : Fun Tryz.prog 92 [QT x, QT y] (QT (x + y)) := by
  have hxa := Fit_a hx.fit; have hxb := Fit_b hx.fit; have hxd := Fit_d hx.fit
  have hya := Fit_a hy.fit; have hyb := Fit_b hy.fit; have hyd := Fit_d hy.fit
  have hxp := x.den_pos; have hyp := y.den_pos; have hdp := Nat.mul_pos hxp hyp
  have e1 := dl_absscaled x.a y.den; have e2 := dl_absscaled y.a x.den; have e3 := dl_absscaled x.b y.den; have e4 := dl_absscaled y.b x.den; have e5 := dl_mul x.den y.den
  have e6 := dl_absadd (x := x.a * y.den) (y := y.a * x.den) (L := L + M) (by omega) (by omega); have e7 := dl_absadd (x := x.b * y.den) (y := y.b * x.den) (L := L + M) (by omega) (by omega)
  refine Fun.intro Tryz.func92 rfl Tryz.ntmps92 rfl (fun cx => ?_)
  have n1 : (dg ((x.den : Nat) : Int).natAbs).length ≤ L := by rw [Int.natAbs_natCast]; exact hxd
  have n2 : (dg ((y.den : Nat) : Int).natAbs).length ≤ M := by rw [Int.natAbs_natCast]; exact hyd
  refine T_seq ?_
  refine T_region ?_
  refine R_new rfl rfl rfl (new_box (Has.t rfl)) (fun B2 => ?_)
  refine R_new rfl rfl rfl (new_box (Has.t rfl)) (fun B3 => ?_)
  refine R_new rfl rfl rfl (new_alloc (Ts := [Is (.bool false), Is (.slice none 0 0), Is (.bool false), Is (.slice none 0 0), Is (.slice none 0 0)]) Tryz.zeroValue57 rfl (fun V => Cells.cons' ⟨rfl, trivial⟩ (Cells.cons' ⟨rfl, trivial⟩ (Cells.cons' ⟨rfl, trivial⟩ (Cells.cons' ⟨rfl, trivial⟩ (Cells.cons' ⟨rfl, trivial⟩ (Cells.nil))))))) (fun B4 => ?_)
  refine R_nil ?_
  refine T_seq ?_
  refine Y.D_start (m := 9) [] ?_
  refine Y.D_hide (Ei := [(2, _)]) rfl rfl (Y.Srcs.cons (Y.Src.pre rfl rfl) Y.Srcs.nil) rfl rfl (S_plain rfl (op_fldB fa_57_2 (Has.t rfl) rfl)) ?_
  refine Y.D_hide (Ei := [(7, _)]) rfl rfl (Y.Srcs.cons (Y.Src.op 0 rfl rfl) Y.Srcs.nil) rfl rfl (S_plain rfl (op_ldB Tryz.isAgg44 Tryz.sizeOf44 (Has.t rfl) (i := 0) rfl rfl)) ?_
  refine Y.D_hide (Ei := [(8, _)]) rfl rfl (Y.Srcs.cons (Y.Src.op 1 rfl rfl) Y.Srcs.nil) rfl rfl (S_plain rfl (OpTy.imp (bld_55_0_1 Has.c (Has.t rfl)) nat_whole)) ?_
  refine Y.D_hide (Ei := [(3, _)]) rfl rfl (Y.Srcs.cons (Y.Src.pre rfl rfl) Y.Srcs.nil) rfl rfl (S_plain rfl (op_fldB fa_57_2 (Has.t rfl) rfl)) ?_
  refine Y.D_hide (Ei := [(10, _)]) rfl rfl (Y.Srcs.cons (Y.Src.op 3 rfl rfl) Y.Srcs.nil) rfl rfl (S_plain rfl (op_ldB Tryz.isAgg44 Tryz.sizeOf44 (Has.t rfl) (i := 1) rfl rfl)) ?_
  refine Y.D_hide (Ei := [(11, _)]) rfl rfl (Y.Srcs.cons (Y.Src.op 4 rfl rfl) Y.Srcs.nil) rfl rfl (S_plain rfl (OpTy.imp (bld_55_0_1 Has.c (Has.t rfl)) nat_whole)) ?_
  refine Y.D_newp (Ei := []) (fun bb => box bb 55 [BoolT (decide (((x.den : Nat) : Int) < 0)), NatT (((x.den : Nat) : Int)).natAbs]) 8 rfl rfl rfl Y.Srcs.nil rfl rfl (by kernel_rfl) (new_alloc (Ts := [Is (.bool false), Is (.slice none 0 0)]) Tryz.zeroValue55 rfl (fun V => Cells.cons' ⟨rfl, trivial⟩ (Cells.cons' ⟨rfl, trivial⟩ (Cells.nil)))) ?_
  refine Y.D_new (Ei := []) rfl rfl rfl Y.Srcs.nil rfl rfl (new_alloc (Ts := [Is (.bool false), Is (.slice none 0 0)]) Tryz.zeroValue55 rfl (fun V => Cells.cons' ⟨rfl, trivial⟩ (Cells.cons' ⟨rfl, trivial⟩ (Cells.nil)))) ?_
  refine Y.D_putN (Ei := [(9, _)]) 6 rfl rfl rfl rfl rfl rfl (Y.Srcs.cons (Y.Src.op 2 rfl rfl) Y.Srcs.nil) (fun bb => P_stA Tryz.sizeOf55 (Has.t rfl) (Has.t rfl) rfl (i := 0) rfl (Nat.le_of_ble_eq_true rfl) rfl rfl) ?_
  refine Y.D_done mixed rfl (by kernel_rfl) rfl (by simp [Y.okP]) rfl rfl (Y.F_val (Y.F_val (Y.F_val (Y.F_val (Y.F_val (Y.F_val (Y.F_newp (fun B5 => Y.F_new (fun B6 => Y.F_putN (Y.F_nil ?_))))))))))
  refine R_stA Tryz.sizeOf55 (Has.t rfl) (Has.t rfl) rfl (i := 4) rfl (Nat.le_of_ble_eq_true rfl) rfl rfl ?_
  refine R_nil ?_
  refine T_seq ?_
  refine D_start (m := 22) ?_
  refine D_step (Ei := [(2, _)]) rfl rfl (Srcs.cons (Src.pre rfl rfl) Srcs.nil) (S_plain rfl (op_fldB fa_57_0 (Has.t rfl) rfl)) ?_
  refine D_step (Ei := [(13, _)]) rfl rfl (Srcs.cons (Src.op 0 rfl rfl) Srcs.nil) (S_plain rfl (op_ldBA Tryz.isAgg55 Tryz.sizeOf55 (Has.t rfl) (i := 0) rfl rfl rfl)) ?_
  refine D_step (Ei := [(6, _)]) rfl rfl (Srcs.cons (Src.pre rfl rfl) Srcs.nil) (S_plain rfl (op_ldBA Tryz.isAgg55 Tryz.sizeOf55 (Has.t rfl) (i := 4) rfl rfl rfl)) ?_
  refine D_step (Ei := [(14, _), (15, _)]) rfl rfl (Srcs.cons (Src.op 1 rfl rfl) (Srcs.cons (Src.op 2 rfl rfl) Srcs.nil)) (S_plain rfl (op_call Tryz.call159 (c_rIntMul (by omega) (by omega)) ⟨(Has.t rfl), (Has.t rfl), trivial⟩)) ?_
  refine D_step (Ei := [(3, _)]) rfl rfl (Srcs.cons (Src.pre rfl rfl) Srcs.nil) (S_plain rfl (op_fldB fa_57_0 (Has.t rfl) rfl)) ?_
  refine D_step (Ei := [(17, _)]) rfl rfl (Srcs.cons (Src.op 4 rfl rfl) Srcs.nil) (S_plain rfl (op_ldBA Tryz.isAgg55 Tryz.sizeOf55 (Has.t rfl) (i := 1) rfl rfl rfl)) ?_
  refine D_step (Ei := [(5, _)]) rfl rfl (Srcs.cons (Src.pre rfl rfl) Srcs.nil) (S_plain rfl (op_ldBA Tryz.isAgg55 Tryz.sizeOf55 (Has.t rfl) (i := 3) rfl rfl rfl)) ?_
  refine D_step (Ei := [(18, _), (19, _)]) rfl rfl (Srcs.cons (Src.op 5 rfl rfl) (Srcs.cons (Src.op 6 rfl rfl) Srcs.nil)) (S_plain rfl (op_call Tryz.call159 (c_rIntMul (by omega) (by omega)) ⟨(Has.t rfl), (Has.t rfl), trivial⟩)) ?_
  refine D_step (Ei := [(16, _), (20, _)]) rfl rfl (Srcs.cons (Src.op 3 rfl rfl) (Srcs.cons (Src.op 7 rfl rfl) Srcs.nil)) (S_plain rfl (op_call Tryz.call160 (c_rIntAdd (by omega) (by omega)) ⟨(Has.t rfl), (Has.t rfl), trivial⟩)) ?_
  refine D_step (Ei := [(2, _)]) rfl rfl (Srcs.cons (Src.pre rfl rfl) Srcs.nil) (S_plain rfl (op_fldB fa_57_1 (Has.t rfl) rfl)) ?_
  refine D_step (Ei := [(22, _)]) rfl rfl (Srcs.cons (Src.op 9 rfl rfl) Srcs.nil) (S_plain rfl (op_ldBA Tryz.isAgg55 Tryz.sizeOf55 (Has.t rfl) (i := 0) rfl rfl rfl)) ?_
  refine D_step (Ei := [(6, _)]) rfl rfl (Srcs.cons (Src.pre rfl rfl) Srcs.nil) (S_plain rfl (op_ldBA Tryz.isAgg55 Tryz.sizeOf55 (Has.t rfl) (i := 4) rfl rfl rfl)) ?_
  refine D_step (Ei := [(23, _), (24, _)]) rfl rfl (Srcs.cons (Src.op 10 rfl rfl) (Srcs.cons (Src.op 11 rfl rfl) Srcs.nil)) (S_plain rfl (op_call Tryz.call159 (c_rIntMul (by omega) (by omega)) ⟨(Has.t rfl), (Has.t rfl), trivial⟩)) ?_
  refine D_step (Ei := [(3, _)]) rfl rfl (Srcs.cons (Src.pre rfl rfl) Srcs.nil) (S_plain rfl (op_fldB fa_57_1 (Has.t rfl) rfl)) ?_
  refine D_step (Ei := [(26, _)]) rfl rfl (Srcs.cons (Src.op 13 rfl rfl) Srcs.nil) (S_plain rfl (op_ldBA Tryz.isAgg55 Tryz.sizeOf55 (Has.t rfl) (i := 1) rfl rfl rfl)) ?_
  refine D_step (Ei := [(5, _)]) rfl rfl (Srcs.cons (Src.pre rfl rfl) Srcs.nil) (S_plain rfl (op_ldBA Tryz.isAgg55 Tryz.sizeOf55 (Has.t rfl) (i := 3) rfl rfl rfl)) ?_
  refine D_step (Ei := [(27, _), (28, _)]) rfl rfl (Srcs.cons (Src.op 14 rfl rfl) (Srcs.cons (Src.op 15 rfl rfl) Srcs.nil)) (S_plain rfl (op_call Tryz.call159 (c_rIntMul (by omega) (by omega)) ⟨(Has.t rfl), (Has.t rfl), trivial⟩)) ?_
  refine D_step (Ei := [(25, _), (29, _)]) rfl rfl (Srcs.cons (Src.op 12 rfl rfl) (Srcs.cons (Src.op 16 rfl rfl) Srcs.nil)) (S_plain rfl (op_call Tryz.call160 (c_rIntAdd (by omega) (by omega)) ⟨(Has.t rfl), (Has.t rfl), trivial⟩)) ?_
  refine D_step (Ei := [(2, _)]) rfl rfl (Srcs.cons (Src.pre rfl rfl) Srcs.nil) (S_plain rfl (op_fldB fa_57_2 (Has.t rfl) rfl)) ?_
  refine D_step (Ei := [(31, _)]) rfl rfl (Srcs.cons (Src.op 18 rfl rfl) Srcs.nil) (S_plain rfl (op_ldB Tryz.isAgg44 Tryz.sizeOf44 (Has.t rfl) (i := 0) rfl rfl)) ?_
  refine D_step (Ei := [(3, _)]) rfl rfl (Srcs.cons (Src.pre rfl rfl) Srcs.nil) (S_plain rfl (op_fldB fa_57_2 (Has.t rfl) rfl)) ?_
  refine D_step (Ei := [(33, _)]) rfl rfl (Srcs.cons (Src.op 20 rfl rfl) Srcs.nil) (S_plain rfl (op_ldB Tryz.isAgg44 Tryz.sizeOf44 (Has.t rfl) (i := 1) rfl rfl)) ?_
  refine D_done mixed rfl (by kernel_rfl) (F_val (F_val (F_val (F_val (F_val (F_val (F_val (F_val (F_val (F_val (F_val (F_val (F_val (F_val (F_val (F_val (F_val (F_val (F_val (F_val (F_val (F_val (F_nil ?_)))))))))))))))))))))))
  refine R_op rfl rfl rfl (op_call Tryz.call161 (c_rNatMul (by omega) (by omega)) ⟨(Has.t rfl), (Has.t rfl), trivial⟩) ?_
  refine R_op rfl rfl rfl (op_call Tryz.call157 (c_rMake (by first | assumption | omega) (by omega) (by omega) (by omega)) ⟨(Has.t rfl), (Has.t rfl), (Has.t rfl), trivial⟩) ?_
  refine R_stA Tryz.sizeOf57 (Has.t rfl) (Has.t rfl) rfl (i := 2) rfl (Nat.le_of_ble_eq_true rfl) rfl rfl ?_
  refine R_nil ?_
  refine T_ret1 rfl (rv_to (rv_cell Tryz.isAgg57 Tryz.sizeOf57 rfl (i := 2) rfl rfl) ?_)
  exact (q_of (Qi.mk_add x y))
set_option maxRecDepth 20000 in
theorem c_rMul {x y : Qi} {L M : Nat} [hx : FitC x L] [hy : FitC y M] (h : L + M + 1 ≤ 17592186044415) : Fun Tryz.prog 87 [QT x, QT y] (QT (x * y)) := by
  have hxa := Fit_a hx.fit; have hxb := Fit_b hx.fit; have hxd := Fit_d hx.fit
  have hya := Fit_a hy.fit; have hyb := Fit_b hy.fit; have hyd := Fit_d hy.fit
  have hxp := x.den_pos; have hyp := y.den_pos; have hdp := Nat.mul_pos hxp hyp
  have e1 := dl_absmul x.a y.a; have e2 := dl_absmul x.b y.b; have e3 := dl_absmul x.a y.b; have e4 := dl_absmul x.b y.a; have e5 := dl_mul x.den y.den; have e8 := dl_neg (x.b * y.b)
  have e6 := dl_absadd (x := x.a * y.a) (y := -(x.b * y.b)) (L := L + M) (by omega) (by omega); have e7 := dl_absadd (x := x.a * y.b) (y := x.b * y.a) (L := L + M) (by omega) (by omega)
  refine Fun.intro Tryz.func87 rfl Tryz.ntmps87 rfl (fun cx => ?_)
  refine T_seq ?_
  refine T_region ?_
  refine R_new rfl rfl rfl (new_box (Has.t rfl)) (fun B2 => ?_)
  refine R_new rfl rfl rfl (new_box (Has.t rfl)) (fun B3 => ?_)
  refine R_new rfl rfl rfl (new_alloc (Ts := [Is (.bool false), Is (.slice none 0 0), Is (.bool false), Is (.slice none 0 0), Is (.slice none 0 0)]) Tryz.zeroValue57 rfl (fun V => Cells.cons' ⟨rfl, trivial⟩ (Cells.cons' ⟨rfl, trivial⟩ (Cells.cons' ⟨rfl, trivial⟩ (Cells.cons' ⟨rfl, trivial⟩ (Cells.cons' ⟨rfl, trivial⟩ (Cells.nil))))))) (fun B4 => ?_)
  refine R_nil ?_
  refine T_seq ?_
  refine D_start (m := 26) ?_
  refine D_step (Ei := [(2, _)]) rfl rfl (Srcs.cons (Src.pre rfl rfl) Srcs.nil) (S_plain rfl (op_fldB fa_57_0 (Has.t rfl) rfl)) ?_
  refine D_step (Ei := [(5, _)]) rfl rfl (Srcs.cons (Src.op 0 rfl rfl) Srcs.nil) (S_plain rfl (op_ldBA Tryz.isAgg55 Tryz.sizeOf55 (Has.t rfl) (i := 0) rfl rfl rfl)) ?_
  refine D_step (Ei := [(3, _)]) rfl rfl (Srcs.cons (Src.pre rfl rfl) Srcs.nil) (S_plain rfl (op_fldB fa_57_0 (Has.t rfl) rfl)) ?_
  refine D_step (Ei := [(7, _)]) rfl rfl (Srcs.cons (Src.op 2 rfl rfl) Srcs.nil) (S_plain rfl (op_ldBA Tryz.isAgg55 Tryz.sizeOf55 (Has.t rfl) (i := 1) rfl rfl rfl)) ?_
  refine D_step (Ei := [(6, _), (8, _)]) rfl rfl (Srcs.cons (Src.op 1 rfl rfl) (Srcs.cons (Src.op 3 rfl rfl) Srcs.nil)) (S_plain rfl (op_call Tryz.call159 (c_rIntMul (by omega) (by omega)) ⟨(Has.t rfl), (Has.t rfl), trivial⟩)) ?_
  refine D_step (Ei := [(2, _)]) rfl rfl (Srcs.cons (Src.pre rfl rfl) Srcs.nil) (S_plain rfl (op_fldB fa_57_1 (Has.t rfl) rfl)) ?_
  refine D_step (Ei := [(10, _)]) rfl rfl (Srcs.cons (Src.op 5 rfl rfl) Srcs.nil) (S_plain rfl (op_ldBA Tryz.isAgg55 Tryz.sizeOf55 (Has.t rfl) (i := 0) rfl rfl rfl)) ?_
  refine D_step (Ei := [(3, _)]) rfl rfl (Srcs.cons (Src.pre rfl rfl) Srcs.nil) (S_plain rfl (op_fldB fa_57_1 (Has.t rfl) rfl)) ?_
  refine D_step (Ei := [(12, _)]) rfl rfl (Srcs.cons (Src.op 7 rfl rfl) Srcs.nil) (S_plain rfl (op_ldBA Tryz.isAgg55 Tryz.sizeOf55 (Has.t rfl) (i := 1) rfl rfl rfl)) ?_
  refine D_step (Ei := [(11, _), (13, _)]) rfl rfl (Srcs.cons (Src.op 6 rfl rfl) (Srcs.cons (Src.op 8 rfl rfl) Srcs.nil)) (S_plain rfl (op_call Tryz.call159 (c_rIntMul (by omega) (by omega)) ⟨(Has.t rfl), (Has.t rfl), trivial⟩)) ?_
  refine D_step (Ei := [(9, _), (14, _)]) rfl rfl (Srcs.cons (Src.op 4 rfl rfl) (Srcs.cons (Src.op 9 rfl rfl) Srcs.nil)) (S_plain rfl (op_call Tryz.call158 (c_rIntSub (by omega) (by omega)) ⟨(Has.t rfl), (Has.t rfl), trivial⟩)) ?_
  refine D_step (Ei := [(2, _)]) rfl rfl (Srcs.cons (Src.pre rfl rfl) Srcs.nil) (S_plain rfl (op_fldB fa_57_0 (Has.t rfl) rfl)) ?_
  refine D_step (Ei := [(16, _)]) rfl rfl (Srcs.cons (Src.op 11 rfl rfl) Srcs.nil) (S_plain rfl (op_ldBA Tryz.isAgg55 Tryz.sizeOf55 (Has.t rfl) (i := 0) rfl rfl rfl)) ?_
  refine D_step (Ei := [(3, _)]) rfl rfl (Srcs.cons (Src.pre rfl rfl) Srcs.nil) (S_plain rfl (op_fldB fa_57_1 (Has.t rfl) rfl)) ?_
  refine D_step (Ei := [(18, _)]) rfl rfl (Srcs.cons (Src.op 13 rfl rfl) Srcs.nil) (S_plain rfl (op_ldBA Tryz.isAgg55 Tryz.sizeOf55 (Has.t rfl) (i := 1) rfl rfl rfl)) ?_
  refine D_step (Ei := [(17, _), (19, _)]) rfl rfl (Srcs.cons (Src.op 12 rfl rfl) (Srcs.cons (Src.op 14 rfl rfl) Srcs.nil)) (S_plain rfl (op_call Tryz.call159 (c_rIntMul (by omega) (by omega)) ⟨(Has.t rfl), (Has.t rfl), trivial⟩)) ?_
  refine D_step (Ei := [(2, _)]) rfl rfl (Srcs.cons (Src.pre rfl rfl) Srcs.nil) (S_plain rfl (op_fldB fa_57_1 (Has.t rfl) rfl)) ?_
  refine D_step (Ei := [(21, _)]) rfl rfl (Srcs.cons (Src.op 16 rfl rfl) Srcs.nil) (S_plain rfl (op_ldBA Tryz.isAgg55 Tryz.sizeOf55 (Has.t rfl) (i := 0) rfl rfl rfl)) ?_
  refine D_step (Ei := [(3, _)]) rfl rfl (Srcs.cons (Src.pre rfl rfl) Srcs.nil) (S_plain rfl (op_fldB fa_57_0 (Has.t rfl) rfl)) ?_
  refine D_step (Ei := [(23, _)]) rfl rfl (Srcs.cons (Src.op 18 rfl rfl) Srcs.nil) (S_plain rfl (op_ldBA Tryz.isAgg55 Tryz.sizeOf55 (Has.t rfl) (i := 1) rfl rfl rfl)) ?_
  refine D_step (Ei := [(22, _), (24, _)]) rfl rfl (Srcs.cons (Src.op 17 rfl rfl) (Srcs.cons (Src.op 19 rfl rfl) Srcs.nil)) (S_plain rfl (op_call Tryz.call159 (c_rIntMul (by omega) (by omega)) ⟨(Has.t rfl), (Has.t rfl), trivial⟩)) ?_
  refine D_step (Ei := [(20, _), (25, _)]) rfl rfl (Srcs.cons (Src.op 15 rfl rfl) (Srcs.cons (Src.op 20 rfl rfl) Srcs.nil)) (S_plain rfl (op_call Tryz.call160 (c_rIntAdd (by omega) (by omega)) ⟨(Has.t rfl), (Has.t rfl), trivial⟩)) ?_
  refine D_step (Ei := [(2, _)]) rfl rfl (Srcs.cons (Src.pre rfl rfl) Srcs.nil) (S_plain rfl (op_fldB fa_57_2 (Has.t rfl) rfl)) ?_
  refine D_step (Ei := [(27, _)]) rfl rfl (Srcs.cons (Src.op 22 rfl rfl) Srcs.nil) (S_plain rfl (op_ldB Tryz.isAgg44 Tryz.sizeOf44 (Has.t rfl) (i := 0) rfl rfl)) ?_
  refine D_step (Ei := [(3, _)]) rfl rfl (Srcs.cons (Src.pre rfl rfl) Srcs.nil) (S_plain rfl (op_fldB fa_57_2 (Has.t rfl) rfl)) ?_
  refine D_step (Ei := [(29, _)]) rfl rfl (Srcs.cons (Src.op 24 rfl rfl) Srcs.nil) (S_plain rfl (op_ldB Tryz.isAgg44 Tryz.sizeOf44 (Has.t rfl) (i := 1) rfl rfl)) ?_
  refine D_done mixed rfl (by kernel_rfl) (F_val (F_val (F_val (F_val (F_val (F_val (F_val (F_val (F_val (F_val (F_val (F_val (F_val (F_val (F_val (F_val (F_val (F_val (F_val (F_val (F_val (F_val (F_val (F_val (F_val (F_val (F_nil ?_)))))))))))))))))))))))))))
  refine R_op rfl rfl rfl (op_call Tryz.call161 (c_rNatMul (by omega) (by omega)) ⟨(Has.t rfl), (Has.t rfl), trivial⟩) ?_
  refine R_op rfl rfl rfl (op_call Tryz.call157 (c_rMake (by first | assumption | omega) (by omega) (by omega) (by omega)) ⟨(Has.t rfl), (Has.t rfl), (Has.t rfl), trivial⟩) ?_
  refine R_stA Tryz.sizeOf57 (Has.t rfl) (Has.t rfl) rfl (i := 2) rfl (Nat.le_of_ble_eq_true rfl) rfl rfl ?_
  refine R_nil ?_
  refine T_ret1 rfl (rv_to (rv_cell Tryz.isAgg57 Tryz.sizeOf57 rfl (i := 2) rfl rfl) ?_)
  exact (q_of (Qi.mk_mul x y))
set_option maxRecDepth 20000 in
theorem c_rIm {x : Qi} {L : Nat} [hx : FitC x L] (h : L ≤ 17592186044415) : Fun Tryz.prog 155 [QT x] (QT x.imp) := by
  have hxa := Fit_a hx.fit; have hxb := Fit_b hx.fit; have hxd := Fit_d hx.fit
  have hxp := x.den_pos
  have h5 : (dg (0 : Int).natAbs).length ≤ 0 := by rw [show (0 : Int).natAbs = 0 from rfl, dg_zero]; exact Nat.le_refl _
  refine Fun.intro Tryz.func155 rfl Tryz.ntmps155 rfl (fun cx => ?_)
  refine T_seq ?_
  refine T_region ?_
  refine R_new rfl rfl rfl (new_box (Has.t rfl)) (fun B1 => ?_)
  refine R_new rfl rfl rfl (new_alloc (Ts := [Is (.bool false), Is (.slice none 0 0), Is (.bool false), Is (.slice none 0 0), Is (.slice none 0 0)]) Tryz.zeroValue57 rfl (fun V => Cells.cons' ⟨rfl, trivial⟩ (Cells.cons' ⟨rfl, trivial⟩ (Cells.cons' ⟨rfl, trivial⟩ (Cells.cons' ⟨rfl, trivial⟩ (Cells.cons' ⟨rfl, trivial⟩ (Cells.nil))))))) (fun B2 => ?_)
  refine R_nil ?_
  refine T_seq ?_
  refine T_region ?_
  refine R_op rfl rfl rfl (op_fldB fa_57_1 (Has.t rfl) rfl) ?_
  refine R_op rfl rfl rfl (op_ldBA Tryz.isAgg55 Tryz.sizeOf55 (Has.t rfl) (i := 0) rfl rfl rfl) ?_
  refine R_op rfl rfl rfl (OpTy.imp (bld_55_ ) zero_whole) ?_
  refine R_op rfl rfl rfl (op_fldB fa_57_2 (Has.t rfl) rfl) ?_
  refine R_op rfl rfl rfl (op_ldB Tryz.isAgg44 Tryz.sizeOf44 (Has.t rfl) (i := 0) rfl rfl) ?_
  refine R_op rfl rfl rfl (op_call Tryz.call157 (c_rMake (by first | assumption | omega) (by omega) (by omega) (by omega)) ⟨(Has.t rfl), (Has.t rfl), (Has.t rfl), trivial⟩) ?_
  refine R_stA Tryz.sizeOf57 (Has.t rfl) (Has.t rfl) rfl (i := 1) rfl (Nat.le_of_ble_eq_true rfl) rfl rfl ?_
  refine R_nil ?_
  refine T_ret1 rfl (rv_to (rv_cell Tryz.isAgg57 Tryz.sizeOf57 rfl (i := 1) rfl rfl) ?_)
  exact (q_of (Qi.mk_im0 x))
set_option maxRecDepth 20000 in
theorem c_rSign {x : Qi} : Fun Tryz.prog 85 [QT x] (IntT .i64 (cmpI x.a 0)) := by
  refine Fun.intro Tryz.func85 rfl Tryz.ntmps85 rfl (fun cx => ?_)
  refine T_seq ?_
  refine T_region ?_
  refine R_new rfl rfl rfl (new_box (Has.t rfl)) (fun B1 => ?_)
  refine R_op rfl rfl rfl (op_assign (Has.cN 0)) ?_
  refine R_nil ?_
  refine T_seq ?_
  refine T_seq ?_
  refine T_region ?_
  refine R_op rfl rfl rfl (op_fldB fa_57_0 (Has.t rfl) rfl) ?_
  refine R_op rfl rfl rfl (op_fldB fa_55_0 (Has.t rfl) rfl) ?_
  refine R_op rfl rfl rfl (op_ldB Tryz.isAgg4 Tryz.sizeOf4 (Has.t rfl) (i := 0) rfl rfl) ?_
  refine R_nil ?_
  refine T_cond (Has.t rfl) (fun hb => ?_) (fun hb => ?_)
  · simp only [decide_eq_true_eq] at hb
    refine T_seq ?_
    refine T_region ?_
    refine R_op rfl rfl rfl (op_assign Has.c) ?_
    refine R_nil ?_
    refine T_ret1 rfl (rv_to (rv_tmp rfl) ?_)
    exact (int_of (by rw [cmpI, if_pos hb]))
  · simp only [decide_eq_false_iff_not] at hb
    refine T_skip ?_
    refine T_seq ?_
    refine T_seq ?_
    refine T_region ?_
    refine R_op rfl rfl rfl (op_fldB fa_57_0 (Has.t rfl) rfl) ?_
    refine R_op rfl rfl rfl (op_fldB fa_55_1 (Has.t rfl) rfl) ?_
    refine R_op rfl rfl rfl (op_ldB Tryz.isAgg44 Tryz.sizeOf44 (Has.t rfl) (i := 0) rfl rfl) ?_
    refine R_op rfl rfl rfl (op_len Tryz.runUnderlying44 (Has.t rfl) len_map) ?_
    refine R_op rfl rfl rfl (op_gtrN (Has.t rfl) (Has.cN 0)) ?_
    refine R_nil ?_
    refine T_cond (Has.t rfl) (fun hc => ?_) (fun hc => ?_)
    · simp only [decide_eq_true_eq] at hc
      have h0 : x.a ≠ 0 := fun e => by rw [e] at hc; simp [dg_zero] at hc
      refine T_seq ?_
      refine T_region ?_
      refine R_op rfl rfl rfl (op_assign (Has.cN 1)) ?_
      refine R_nil ?_
      refine T_ret1 rfl (rv_to (rv_tmp rfl) ?_)
      exact (int_of (by rw [cmpI, if_neg hb, if_pos (by omega)]; rfl))
    · simp only [decide_eq_false_iff_not] at hc
      have h0 : x.a = 0 := by have := dg_length_zero.1 (Nat.eq_zero_of_not_pos hc); omega
      refine T_skip ?_
      refine T_seq ?_
      refine T_region ?_
      refine R_op rfl rfl rfl (op_assign (Has.cN 0)) ?_
      refine R_nil ?_
      refine T_ret1 rfl (rv_to (rv_tmp rfl) ?_)
      exact (int_of (by rw [cmpI, if_neg hb, if_neg (by omega)]; rfl))
set_option maxRecDepth 20000 in
theorem c_rSide {x : Qi} {L : Nat} [hx : FitC x L] (h : L ≤ 17592186044415) : Fun Tryz.prog 84 [QT x] (IntT .i64 (cmpI x.b 0)) := by
  refine Fun.intro Tryz.func84 rfl Tryz.ntmps84 rfl (fun cx => ?_)
  refine T_seq ?_
  refine T_region ?_
  refine R_new rfl rfl rfl (new_box (Has.t rfl)) (fun B1 => ?_)
  refine R_op rfl rfl rfl (op_assign (Has.cN 0)) ?_
  refine R_nil ?_
  refine T_seq ?_
  refine T_region ?_
  refine R_op rfl rfl rfl (op_ldBA Tryz.isAgg57 Tryz.sizeOf57 (Has.t rfl) (i := 0) rfl rfl rfl) ?_
  refine R_op rfl rfl rfl (op_call Tryz.call155 (c_rIm (by omega)) ⟨(Has.t rfl), trivial⟩) ?_
  refine R_op rfl rfl rfl (op_call Tryz.call85 c_rSign ⟨(Has.t rfl), trivial⟩) ?_
  refine R_op rfl rfl rfl (op_assign (Has.t rfl)) ?_
  refine R_nil ?_
  refine T_ret1 rfl (rv_to (rv_tmp rfl) ?_)
  exact (int_of (sgn_imp x))
set_option maxRecDepth 20000 in
theorem c_Div {x y : Qi} {L M : Nat} [hx : FitC x L] [hy : FitC y M] (h : L + 3 * M + 2 ≤ 17592186044415) : Fun Tryz.prog 174 [NumT x, NumT y] (TupT [NumT (x / y), IntT .i64 (if y = Qi.zero then 3 else 0)]) := by
  have hxa := Fit_a hx.fit; have hxb := Fit_b hx.fit; have hxd := Fit_d hx.fit
  have hya := Fit_a hy.fit; have hyb := Fit_b hy.fit; have hyd := Fit_d hy.fit
  have hxp := x.den_pos; have hyp := y.den_pos; have hMp := hy.pos
  refine Fun.intro Tryz.func174 rfl Tryz.ntmps174 rfl (fun cx => ?_)
  refine T_seq ?_
  refine T_region ?_
  refine R_new rfl rfl rfl (new_box (Has.t rfl)) (fun B2 => ?_)
  refine R_new rfl rfl rfl (new_box (Has.t rfl)) (fun B3 => ?_)
  refine R_new rfl rfl rfl (new_alloc (Ts := [Is (.bool false), Is (.slice none 0 0), Is (.bool false), Is (.slice none 0 0), Is (.slice none 0 0)]) Tryz.zeroValue49 rfl (fun V => Cells.cons' ⟨rfl, trivial⟩ (Cells.cons' ⟨rfl, trivial⟩ (Cells.cons' ⟨rfl, trivial⟩ (Cells.cons' ⟨rfl, trivial⟩ (Cells.cons' ⟨rfl, trivial⟩ (Cells.nil))))))) (fun B4 => ?_)
  refine R_op rfl rfl rfl (op_assign (Has.cN 0)) ?_
  refine R_nil ?_
  refine T_seq ?_
  refine T_seq ?_
  refine T_region ?_
  refine R_op rfl rfl rfl (op_ldBA Tryz.isAgg49 Tryz.sizeOf49 (Has.t rfl) (i := 1) rfl rfl rfl) ?_
  refine R_op rfl rfl rfl (op_call Tryz.call60 (c_Clear (by omega)) ⟨(Has.t rfl), trivial⟩) ?_
  refine R_op rfl rfl rfl (op_not (Has.t rfl)) ?_
  refine R_nil ?_
  refine T_cond (Has.t rfl) (fun hb => ?_) (fun hb => ?_)
  · have h0 : y = Qi.zero := by simpa using hb
    refine T_seq ?_
    refine T_region ?_
    refine R_op rfl rfl rfl (OpTy.imp (bld_49_ ) num_zero) ?_
    refine R_stA Tryz.sizeOf49 (Has.t rfl) (Has.t rfl) rfl (i := 2) rfl (Nat.le_of_ble_eq_true rfl) rfl rfl ?_
    refine R_op rfl rfl rfl (op_assign (Has.cN 3)) ?_
    refine R_nil ?_
    refine T_ret2 rfl (rv_to (rv_cell Tryz.isAgg49 Tryz.sizeOf49 rfl (i := 2) rfl rfl) ?_) (rv_to (rv_tmp rfl) ?_)
    · exact (num_of (by rw [h0, Qi.div_zero]))
    · exact (int_of (by rw [if_pos h0]; rfl))
  · have h0 : y ≠ Qi.zero := by simpa using hb
    have g1 := dl_absmul y.a y.a; have g2 := dl_absmul y.b y.b; have g3 := dl_neg y.b
    have g4 := dl_absadd (x := y.a * y.a) (y := y.b * y.b) (L := M + M) (by omega) (by omega)
    obtain ⟨c, hc⟩ : ∃ c, c = Qi.mk' y.a (-y.b) 1 := ⟨_, rfl⟩
    obtain ⟨z, hz⟩ : ∃ z, z = x * c := ⟨_, rfl⟩
    have l1 : (dg 1).length ≤ 1 := by rw [dg_lit (by decide) (by decide)]; exact Nat.le_refl _
    haveI fc : FitC c M := hc ▸ ⟨Qi.Fit.mk (by decide) hy.fit.1 (by rw [Int.natAbs_neg]; exact hy.fit.2.1) (Qi.one_lt hMp)⟩
    haveI fz : FitC z (L + M + 1) := hz ▸ fitMul
    have hza := Fit_a fz.fit; have hzb := Fit_b fz.fit; have hzd := Fit_d fz.fit
    have hnp := Qi.nrm_int_pos h0
    have hm : (((y.a * y.a + y.b * y.b).natAbs : Nat) : Int) = y.a * y.a + y.b * y.b := Int.natAbs_of_nonneg (by omega)
    have hdp2 := Nat.mul_pos z.den_pos (show 0 < (y.a * y.a + y.b * y.b).natAbs by omega)
    have e1 := dl_absscaled z.a y.den; have e2 := dl_absscaled z.b y.den; have e3 := dl_mul z.den (y.a * y.a + y.b * y.b).natAbs
    refine T_skip ?_
    refine T_seq ?_
    refine D_start (m := 12) ?_
    refine D_step (Ei := [(3, _)]) rfl rfl (Srcs.cons (Src.pre rfl rfl) Srcs.nil) (S_plain rfl (op_fldB fa_49_0 (Has.t rfl) rfl)) ?_
    refine D_step (Ei := [(12, _)]) rfl rfl (Srcs.cons (Src.op 0 rfl rfl) Srcs.nil) (S_plain rfl (op_ldBA Tryz.isAgg47 Tryz.sizeOf47 (Has.t rfl) (i := 1) rfl rfl rfl)) ?_
    refine D_step (Ei := [(3, _)]) rfl rfl (Srcs.cons (Src.pre rfl rfl) Srcs.nil) (S_plain rfl (op_fldB fa_49_0 (Has.t rfl) rfl)) ?_
    refine D_step (Ei := [(14, _)]) rfl rfl (Srcs.cons (Src.op 2 rfl rfl) Srcs.nil) (S_plain rfl (op_ldBA Tryz.isAgg47 Tryz.sizeOf47 (Has.t rfl) (i := 1) rfl rfl rfl)) ?_
    refine D_step (Ei := [(13, _), (15, _)]) rfl rfl (Srcs.cons (Src.op 1 rfl rfl) (Srcs.cons (Src.op 3 rfl rfl) Srcs.nil)) (S_plain rfl (op_call Tryz.call128 (c_times (by omega) (by omega)) ⟨(Has.t rfl), (Has.t rfl), trivial⟩)) ?_
    refine D_step (Ei := [(3, _)]) rfl rfl (Srcs.cons (Src.pre rfl rfl) Srcs.nil) (S_plain rfl (op_fldB fa_49_1 (Has.t rfl) rfl)) ?_
    refine D_step (Ei := [(17, _)]) rfl rfl (Srcs.cons (Src.op 5 rfl rfl) Srcs.nil) (S_plain rfl (op_ldBA Tryz.isAgg47 Tryz.sizeOf47 (Has.t rfl) (i := 1) rfl rfl rfl)) ?_
    refine D_step (Ei := [(3, _)]) rfl rfl (Srcs.cons (Src.pre rfl rfl) Srcs.nil) (S_plain rfl (op_fldB fa_49_1 (Has.t rfl) rfl)) ?_
    refine D_step (Ei := [(19, _)]) rfl rfl (Srcs.cons (Src.op 7 rfl rfl) Srcs.nil) (S_plain rfl (op_ldBA Tryz.isAgg47 Tryz.sizeOf47 (Has.t rfl) (i := 1) rfl rfl rfl)) ?_
    refine D_step (Ei := [(18, _), (20, _)]) rfl rfl (Srcs.cons (Src.op 6 rfl rfl) (Srcs.cons (Src.op 8 rfl rfl) Srcs.nil)) (S_plain rfl (op_call Tryz.call128 (c_times (by omega) (by omega)) ⟨(Has.t rfl), (Has.t rfl), trivial⟩)) ?_
    refine D_step (Ei := [(16, _), (21, _)]) rfl rfl (Srcs.cons (Src.op 4 rfl rfl) (Srcs.cons (Src.op 9 rfl rfl) Srcs.nil)) (S_plain rfl (op_call Tryz.call129 (c_plus (by omega) (by omega)) ⟨(Has.t rfl), (Has.t rfl), trivial⟩)) ?_
    refine D_new (Ei := []) rfl rfl rfl Srcs.nil (new_alloc (Ts := [Is (.bool false), Is (.slice none 0 0)]) Tryz.zeroValue47 rfl (fun V => Cells.cons' ⟨rfl, trivial⟩ (Cells.cons' ⟨rfl, trivial⟩ (Cells.nil)))) ?_
    refine D_done mixed rfl (by kernel_rfl) (F_val (F_val (F_val (F_val (F_val (F_val (F_val (F_val (F_val (F_val (F_val (F_new (fun B6 => F_nil ?_)))))))))))))
    refine R_stA Tryz.sizeOf47 (Has.t rfl) (Has.t rfl) rfl (i := 3) rfl (Nat.le_of_ble_eq_true rfl) rfl rfl ?_
    refine R_nil ?_
    refine T_seq ?_
    refine D_start (m := 10) ?_
    refine D_step (Ei := [(2, _)]) rfl rfl (Srcs.cons (Src.pre rfl rfl) Srcs.nil) (S_plain rfl (op_ldBA Tryz.isAgg49 Tryz.sizeOf49 (Has.t rfl) (i := 0) rfl rfl rfl)) ?_
    refine D_step (Ei := [(3, _)]) rfl rfl (Srcs.cons (Src.pre rfl rfl) Srcs.nil) (S_plain rfl (op_fldB fa_49_0 (Has.t rfl) rfl)) ?_
    refine D_step (Ei := [(24, _)]) rfl rfl (Srcs.cons (Src.op 1 rfl rfl) Srcs.nil) (S_plain rfl (op_ldBA Tryz.isAgg47 Tryz.sizeOf47 (Has.t rfl) (i := 1) rfl rfl rfl)) ?_
    refine D_step (Ei := [(3, _)]) rfl rfl (Srcs.cons (Src.pre rfl rfl) Srcs.nil) (S_plain rfl (op_fldB fa_49_1 (Has.t rfl) rfl)) ?_
    refine D_step (Ei := [(26, _)]) rfl rfl (Srcs.cons (Src.op 3 rfl rfl) Srcs.nil) (S_plain rfl (op_ldBA Tryz.isAgg47 Tryz.sizeOf47 (Has.t rfl) (i := 1) rfl rfl rfl)) ?_
    refine D_step (Ei := [(27, _)]) rfl rfl (Srcs.cons (Src.op 4 rfl rfl) Srcs.nil) (S_plain rfl (op_call Tryz.call130 c_minus ⟨(Has.t rfl), trivial⟩)) ?_
    refine D_step (Ei := []) rfl rfl Srcs.nil (S_plain rfl (OpTy.imp (op_bslice (xs := [_]) Tryz.runUnderlying45 Tryz.sizeOf97 Tryz.zeroValue97 (Elems.cons (Has.cN 1) Elems.nil) rfl rfl rfl) one_natT)) ?_
    refine D_step (Ei := [(25, _), (28, _), (29, _)]) rfl rfl (Srcs.cons (Src.op 2 rfl rfl) (Srcs.cons (Src.op 5 rfl rfl) (Srcs.cons (Src.op 6 rfl rfl) Srcs.nil))) (S_plain rfl (OpTy.imp (op_call Tryz.call131 (c_over (by first | assumption | omega) (by omega) (by omega) (by omega)) ⟨(Has.t rfl), (Has.t rfl), (Has.t rfl), trivial⟩) (num_of hc.symm))) ?_
    refine D_step (Ei := [(23, _), (30, _)]) rfl rfl (Srcs.cons (Src.op 0 rfl rfl) (Srcs.cons (Src.op 7 rfl rfl) Srcs.nil)) (S_plain rfl (OpTy.imp (op_call Tryz.call56 (c_Mul (by omega)) ⟨(Has.t rfl), (Has.t rfl), trivial⟩) (num_of hz.symm))) ?_
    refine D_new (Ei := []) rfl rfl rfl Srcs.nil (new_alloc (Ts := [Is (.bool false), Is (.slice none 0 0), Is (.bool false), Is (.slice none 0 0), Is (.slice none 0 0)]) Tryz.zeroValue49 rfl (fun V => Cells.cons' ⟨rfl, trivial⟩ (Cells.cons' ⟨rfl, trivial⟩ (Cells.cons' ⟨rfl, trivial⟩ (Cells.cons' ⟨rfl, trivial⟩ (Cells.cons' ⟨rfl, trivial⟩ (Cells.nil))))))) ?_
    refine D_done mixed rfl (by kernel_rfl) (F_val (F_val (F_val (F_val (F_val (F_val (F_val (F_val (F_val (F_new (fun B7 => F_nil ?_)))))))))))
    refine R_stA Tryz.sizeOf49 (Has.t rfl) (Has.t rfl) rfl (i := 4) rfl (Nat.le_of_ble_eq_true rfl) rfl rfl ?_
    refine R_nil ?_
    refine T_seq ?_
    refine D_start (m := 14) ?_
    refine D_step (Ei := [(7, _)]) rfl rfl (Srcs.cons (Src.pre rfl rfl) Srcs.nil) (S_plain rfl (op_fldB fa_49_0 (Has.t rfl) rfl)) ?_
    refine D_step (Ei := [(32, _)]) rfl rfl (Srcs.cons (Src.op 0 rfl rfl) Srcs.nil) (S_plain rfl (op_ldBA Tryz.isAgg47 Tryz.sizeOf47 (Has.t rfl) (i := 4) rfl rfl rfl)) ?_
    refine D_step (Ei := [(3, _)]) rfl rfl (Srcs.cons (Src.pre rfl rfl) Srcs.nil) (S_plain rfl (op_ldBA Tryz.isAgg49 Tryz.sizeOf49 (Has.t rfl) (i := 1) rfl rfl rfl)) ?_
    refine D_step (Ei := [(34, _)]) rfl rfl (Srcs.cons (Src.op 2 rfl rfl) Srcs.nil) (S_plain rfl (op_call Tryz.call108 c_den ⟨(Has.t rfl), trivial⟩)) ?_
    refine D_step (Ei := [(33, _), (35, _)]) rfl rfl (Srcs.cons (Src.op 1 rfl rfl) (Srcs.cons (Src.op 3 rfl rfl) Srcs.nil)) (S_plain rfl (op_call Tryz.call107 (c_scaled (by omega) (by omega)) ⟨(Has.t rfl), (Has.t rfl), trivial⟩)) ?_
    refine D_step (Ei := [(7, _)]) rfl rfl (Srcs.cons (Src.pre rfl rfl) Srcs.nil) (S_plain rfl (op_fldB fa_49_1 (Has.t rfl) rfl)) ?_
    refine D_step (Ei := [(37, _)]) rfl rfl (Srcs.cons (Src.op 5 rfl rfl) Srcs.nil) (S_plain rfl (op_ldBA Tryz.isAgg47 Tryz.sizeOf47 (Has.t rfl) (i := 4) rfl rfl rfl)) ?_
    refine D_step (Ei := [(3, _)]) rfl rfl (Srcs.cons (Src.pre rfl rfl) Srcs.nil) (S_plain rfl (op_ldBA Tryz.isAgg49 Tryz.sizeOf49 (Has.t rfl) (i := 1) rfl rfl rfl)) ?_
    refine D_step (Ei := [(39, _)]) rfl rfl (Srcs.cons (Src.op 7 rfl rfl) Srcs.nil) (S_plain rfl (op_call Tryz.call108 c_den ⟨(Has.t rfl), trivial⟩)) ?_
    refine D_step (Ei := [(38, _), (40, _)]) rfl rfl (Srcs.cons (Src.op 6 rfl rfl) (Srcs.cons (Src.op 8 rfl rfl) Srcs.nil)) (S_plain rfl (op_call Tryz.call107 (c_scaled (by omega) (by omega)) ⟨(Has.t rfl), (Has.t rfl), trivial⟩)) ?_
    refine D_step (Ei := [(7, _)]) rfl rfl (Srcs.cons (Src.pre rfl rfl) Srcs.nil) (S_plain rfl (op_ldBA Tryz.isAgg49 Tryz.sizeOf49 (Has.t rfl) (i := 4) rfl rfl rfl)) ?_
    refine D_step (Ei := [(42, _)]) rfl rfl (Srcs.cons (Src.op 10 rfl rfl) Srcs.nil) (S_plain rfl (op_call Tryz.call108 c_den ⟨(Has.t rfl), trivial⟩)) ?_
    refine D_step (Ei := [(6, _)]) rfl rfl (Srcs.cons (Src.pre rfl rfl) Srcs.nil) (S_plain rfl (op_fldB fa_47_1 (Has.t rfl) rfl)) ?_
    refine D_step (Ei := [(44, _)]) rfl rfl (Srcs.cons (Src.op 12 rfl rfl) Srcs.nil) (S_plain rfl (op_ldB Tryz.isAgg45 Tryz.sizeOf45 (Has.t rfl) (i := 3) rfl rfl)) ?_
    refine D_done mixed rfl (by kernel_rfl) (F_val (F_val (F_val (F_val (F_val (F_val (F_val (F_val (F_val (F_val (F_val (F_val (F_val (F_val (F_nil ?_)))))))))))))))
    refine R_op rfl rfl rfl (op_call Tryz.call132 (c_mul (by omega) (by omega)) ⟨(Has.t rfl), (Has.t rfl), trivial⟩) ?_
    refine R_op rfl rfl rfl (op_call Tryz.call131 (c_over (by first | assumption | omega) (by omega) (by omega) (by omega)) ⟨(Has.t rfl), (Has.t rfl), (Has.t rfl), trivial⟩) ?_
    refine R_stA Tryz.sizeOf49 (Has.t rfl) (Has.t rfl) rfl (i := 2) rfl (Nat.le_of_ble_eq_true rfl) rfl rfl ?_
    refine R_op rfl rfl rfl (op_assign (Has.cN 0)) ?_
    refine R_nil ?_
    refine T_ret2 rfl (rv_to (rv_cell Tryz.isAgg49 Tryz.sizeOf49 rfl (i := 2) rfl rfl) ?_) (rv_to (rv_tmp rfl) ?_)
    · exact (num_of (Qi.mk_divP x h0 (hc ▸ hz) hm))
    · exact (int_of (by rw [if_neg h0]; rfl))
set_option maxRecDepth 20000 in
theorem c_rhalf {a : Int} {d : Nat} (hd : 0 < d) (ha : (dg a.natAbs).length ≤ 8796093022208) (hd2 : (dg d).length ≤ 8796093022208) : Fun Tryz.prog 166 [WholeT a, NatT d] (StrT (ptxt a d)) := by
  have hg := dl_gcd ha hd2
  have hg0 : Nat.gcd a.natAbs d ≠ 0 := fun e => by have := Nat.gcd_eq_zero_iff.1 e; omega
  have h1 := dl_div a.natAbs (Nat.gcd a.natAbs d); have h2 := dl_div d (Nat.gcd a.natAbs d)
  rw [ptxt_eq a hd]
  obtain ⟨u, hu⟩ : ∃ u, u = a.natAbs / Nat.gcd a.natAbs d := ⟨_, rfl⟩
  obtain ⟨v, hv⟩ : ∃ v, v = d / Nat.gcd a.natAbs d := ⟨_, rfl⟩
  rw [← hu, ← hv]
  rw [← hu] at h1
  rw [← hv] at h2
  have h3 := dec_len u; have h4 := dec_len v
  refine Fun.intro Tryz.func166 rfl Tryz.ntmps166 rfl (fun cx => ?_)
  refine T_seq ?_
  refine T_region ?_
  refine R_new rfl rfl rfl (new_box (Has.t rfl)) (fun B2 => ?_)
  refine R_op rfl rfl rfl (op_assign (Has.cS (l := []) rfl)) ?_
  refine R_nil ?_
  refine T_seq ?_
  refine T_region ?_
  refine R_op rfl rfl rfl (op_fldB fa_55_1 (Has.t rfl) rfl) ?_
  refine R_op rfl rfl rfl (op_ldB Tryz.isAgg44 Tryz.sizeOf44 (Has.t rfl) (i := 0) rfl rfl) ?_
  refine R_op rfl rfl rfl (op_move (Has.t rfl)) ?_
  refine R_op rfl rfl rfl (op_call Tryz.call202 (c_rGcd (by omega) (by omega)) ⟨(Has.t rfl), (Has.t rfl), trivial⟩) ?_
  refine R_op rfl rfl rfl (op_assign (Has.t rfl)) ?_
  refine R_nil ?_
  refine T_seq ?_
  refine T_region ?_
  refine R_op rfl rfl rfl (op_fldB fa_55_1 (Has.t rfl) rfl) ?_
  refine R_op rfl rfl rfl (op_ldB Tryz.isAgg44 Tryz.sizeOf44 (Has.t rfl) (i := 0) rfl rfl) ?_
  refine R_op rfl rfl rfl (op_move (Has.t rfl)) ?_
  refine R_op rfl rfl rfl (op_call Tryz.call203 (c_rDiv (by omega) (by omega) (by omega)) ⟨(Has.t rfl), (Has.t rfl), trivial⟩) ?_
  refine R_op rfl rfl rfl (op_move (Has.t rfl)) ?_
  refine R_op rfl rfl rfl (OpTy.imp (op_extract (Has.t rfl) rfl) (natT_of hu.symm)) ?_
  refine R_op rfl rfl rfl (op_extract (Has.t rfl) rfl) ?_
  refine R_op rfl rfl rfl (op_assign (Has.t rfl)) ?_
  refine R_op rfl rfl rfl (op_assign (Has.t rfl)) ?_
  refine R_nil ?_
  refine T_seq ?_
  refine T_region ?_
  refine R_op rfl rfl rfl (op_move (Has.t rfl)) ?_
  refine R_op rfl rfl rfl (op_move (Has.t rfl)) ?_
  refine R_op rfl rfl rfl (op_call Tryz.call203 (c_rDiv (by omega) (by omega) (by omega)) ⟨(Has.t rfl), (Has.t rfl), trivial⟩) ?_
  refine R_op rfl rfl rfl (op_move (Has.t rfl)) ?_
  refine R_op rfl rfl rfl (OpTy.imp (op_extract (Has.t rfl) rfl) (natT_of hv.symm)) ?_
  refine R_op rfl rfl rfl (op_extract (Has.t rfl) rfl) ?_
  refine R_op rfl rfl rfl (op_assign (Has.t rfl)) ?_
  refine R_op rfl rfl rfl (op_assign (Has.t rfl)) ?_
  refine R_nil ?_
  refine T_seq ?_
  refine T_region ?_
  refine R_op rfl rfl rfl (op_move (Has.t rfl)) ?_
  refine R_op rfl rfl rfl (op_call Tryz.call208 (c_rText (by omega)) ⟨(Has.t rfl), trivial⟩) ?_
  refine R_op rfl rfl rfl (op_assign (Has.t rfl)) ?_
  refine R_nil ?_
  refine T_seq ?_
  refine T_join (fun (uu : Unit) => True) (fun (uu : Unit) => [(8, NatT v), (10, StrT (if a < 0 then 45 :: dec u else dec u))]) (fun (uu : Unit) => [box B2 55 [BoolT (decide (a < 0)), NatT (a).natAbs]]) ?_ (fun uu _ => ?_)
  · refine T_seq ?_
    refine T_region ?_
    refine R_op rfl rfl rfl (op_fldB fa_55_0 (Has.t rfl) rfl) ?_
    refine R_op rfl rfl rfl (op_ldB Tryz.isAgg4 Tryz.sizeOf4 (Has.t rfl) (i := 0) rfl rfl) ?_
    refine R_nil ?_
    refine T_cond (Has.t rfl) (fun hb => ?_) (fun hb => ?_)
    · simp only [decide_eq_true_eq] at hb
      refine T_region ?_
      refine R_op rfl rfl rfl (op_move (Has.t rfl)) ?_
      refine R_op rfl rfl rfl (op_addS (Has.cS (l := [45]) rfl) (Has.t rfl) (by first | omega | (simp; omega))) ?_
      refine R_op rfl rfl rfl (op_assign (Has.t rfl)) ?_
      refine R_nil ?_
      refine T_joined () trivial (Sub.cons rfl (Sub.to rfl (str_to (by rw [if_pos hb]; rfl)) Sub.nil)) (HSub.refl _)
    · simp only [decide_eq_false_iff_not] at hb
      refine T_skip ?_
      refine T_joined () trivial (Sub.cons rfl (Sub.to rfl (str_to (by rw [if_neg hb])) Sub.nil)) (HSub.refl _)
  · have h6 : (if a < 0 then 45 :: dec u else dec u).length ≤ (dec u).length + 1 := by split <;> simp
    refine T_seq ?_
    refine T_seq ?_
    refine T_region ?_
    refine R_op rfl rfl rfl (op_move (Has.t rfl)) ?_
    refine R_op rfl rfl rfl (op_len Tryz.runUnderlying44 (Has.t rfl) len_map) ?_
    refine R_op rfl rfl rfl (op_eqlN (Has.t rfl) (Has.cN 1)) ?_
    refine R_op rfl rfl rfl (op_move (Has.t rfl)) ?_
    refine R_step rfl rfl (S_when rfl rfl (Has.t rfl) (fun h => op_move (Has.t rfl))) ?_
    refine R_step rfl rfl (S_when rfl rfl (Has.t rfl) (fun h => op_idx Tryz.runUnderlying44 Tryz.sizeOf97 (Has.w rfl h) (Has.cN 0) rfl (map_get (get_some (by first | omega | (simp at h; omega)))))) ?_
    refine R_step rfl rfl (S_when rfl rfl (Has.t rfl) (fun h => op_ld Tryz.isAgg97 Tryz.sizeOf97 (Has.w rfl h))) ?_
    refine R_step rfl rfl (S_when rfl rfl (Has.t rfl) (fun h => op_eqlN (Has.w rfl h) (Has.cN 1))) ?_
    refine R_op rfl rfl rfl (op_and (Has.t rfl) (fun h => (Has.w rfl h))) ?_
    refine R_nil ?_
    refine T_cond (Has.t rfl) (fun hc => ?_) (fun hc => ?_)
    · rw [one_dg] at hc
      have hv1 : v = 1 := by simpa using hc
      refine T_seq ?_
      refine T_region ?_
      refine R_op rfl rfl rfl (op_move (Has.t rfl)) ?_
      refine R_op rfl rfl rfl (op_assign (Has.t rfl)) ?_
      refine R_nil ?_
      refine T_ret1 rfl (rv_to (rv_tmp rfl) ?_)
      exact (str_to (by rw [if_pos hv1, List.append_nil]))
    · rw [one_dg] at hc
      have hv1 : v ≠ 1 := by simpa using hc
      refine T_skip ?_
      refine T_seq ?_
      refine T_region ?_
      refine R_op rfl rfl rfl (op_move (Has.t rfl)) ?_
      refine R_op rfl rfl rfl (op_addS (Has.t rfl) (Has.cS (l := [47]) rfl) (by simp only [List.length_cons, List.length_nil]; omega)) ?_
      refine R_op rfl rfl rfl (op_move (Has.t rfl)) ?_
      refine R_op rfl rfl rfl (op_call Tryz.call208 (c_rText (by omega)) ⟨(Has.t rfl), trivial⟩) ?_
      refine R_op rfl rfl rfl (op_addS (Has.t rfl) (Has.t rfl) (by simp only [List.length_append, List.length_cons, List.length_nil]; omega)) ?_
      refine R_op rfl rfl rfl (op_assign (Has.t rfl)) ?_
      refine R_nil ?_
      refine T_ret1 rfl (rv_to (rv_tmp rfl) ?_)
      exact (str_to (by rw [if_neg hv1, List.append_assoc]; rfl))
set_option maxRecDepth 20000 in
theorem c_rTxt {x : Qi} {L : Nat} [hx : FitC x L] (h : L ≤ 8796093022208) : Fun Tryz.prog 94 [QT x] (StrT (txt x)) := by
  have hxa := Fit_a hx.fit; have hxb := Fit_b hx.fit; have hxd := Fit_d hx.fit
  have hdp := x.den_pos
  have l1 := ptxt_len x.a hdp; have l2 := ptxt_len x.b hdp
  refine Fun.intro Tryz.func94 rfl Tryz.ntmps94 rfl (fun cx => ?_)
  refine T_seq ?_
  refine T_region ?_
  refine R_new rfl rfl rfl (new_box (Has.t rfl)) (fun B1 => ?_)
  refine R_op rfl rfl rfl (op_assign (Has.cS (l := []) rfl)) ?_
  refine R_nil ?_
  refine T_seq ?_
  refine T_seq ?_
  refine T_region ?_
  refine R_op rfl rfl rfl (op_fldB fa_57_1 (Has.t rfl) rfl) ?_
  refine R_op rfl rfl rfl (op_fldB fa_55_1 (Has.t rfl) rfl) ?_
  refine R_op rfl rfl rfl (op_ldB Tryz.isAgg44 Tryz.sizeOf44 (Has.t rfl) (i := 0) rfl rfl) ?_
  refine R_op rfl rfl rfl (op_len Tryz.runUnderlying44 (Has.t rfl) len_map) ?_
  refine R_op rfl rfl rfl (op_eqlN (Has.t rfl) (Has.cN 0)) ?_
  refine R_nil ?_
  refine T_cond (Has.t rfl) (fun hb => ?_) (fun hb => ?_)
  · simp only [decide_eq_true_eq] at hb
    have h0 : x.b = 0 := by have := dg_length_zero.1 hb; omega
    refine T_seq ?_
    refine T_region ?_
    refine R_op rfl rfl rfl (op_fldB fa_57_0 (Has.t rfl) rfl) ?_
    refine R_op rfl rfl rfl (op_ldBA Tryz.isAgg55 Tryz.sizeOf55 (Has.t rfl) (i := 0) rfl rfl rfl) ?_
    refine R_op rfl rfl rfl (op_fldB fa_57_2 (Has.t rfl) rfl) ?_
    refine R_op rfl rfl rfl (op_ldB Tryz.isAgg44 Tryz.sizeOf44 (Has.t rfl) (i := 0) rfl rfl) ?_
    refine R_op rfl rfl rfl (op_call Tryz.call166 (c_rhalf (by assumption) (by omega) (by omega)) ⟨(Has.t rfl), (Has.t rfl), trivial⟩) ?_
    refine R_op rfl rfl rfl (op_assign (Has.t rfl)) ?_
    refine R_nil ?_
    refine T_ret1 rfl (rv_to (rv_tmp rfl) ?_)
    exact (str_to (by rw [txt, if_pos h0]))
  · simp only [decide_eq_false_iff_not] at hb
    have h0 : x.b ≠ 0 := fun e => hb (by rw [e]; exact dg_length_zero.2 rfl)
    refine T_skip ?_
    refine T_seq ?_
    refine T_seq ?_
    refine T_region ?_
    refine R_op rfl rfl rfl (op_fldB fa_57_0 (Has.t rfl) rfl) ?_
    refine R_op rfl rfl rfl (op_fldB fa_55_1 (Has.t rfl) rfl) ?_
    refine R_op rfl rfl rfl (op_ldB Tryz.isAgg44 Tryz.sizeOf44 (Has.t rfl) (i := 0) rfl rfl) ?_
    refine R_op rfl rfl rfl (op_len Tryz.runUnderlying44 (Has.t rfl) len_map) ?_
    refine R_op rfl rfl rfl (op_eqlN (Has.t rfl) (Has.cN 0)) ?_
    refine R_nil ?_
    refine T_cond (Has.t rfl) (fun hc => ?_) (fun hc => ?_)
    · simp only [decide_eq_true_eq] at hc
      have h1 : x.a = 0 := by have := dg_length_zero.1 hc; omega
      refine T_seq ?_
      refine T_region ?_
      refine R_op rfl rfl rfl (op_fldB fa_57_1 (Has.t rfl) rfl) ?_
      refine R_op rfl rfl rfl (op_ldBA Tryz.isAgg55 Tryz.sizeOf55 (Has.t rfl) (i := 0) rfl rfl rfl) ?_
      refine R_op rfl rfl rfl (op_fldB fa_57_2 (Has.t rfl) rfl) ?_
      refine R_op rfl rfl rfl (op_ldB Tryz.isAgg44 Tryz.sizeOf44 (Has.t rfl) (i := 0) rfl rfl) ?_
      refine R_op rfl rfl rfl (op_call Tryz.call166 (c_rhalf (by assumption) (by omega) (by omega)) ⟨(Has.t rfl), (Has.t rfl), trivial⟩) ?_
      refine R_op rfl rfl rfl (op_addS (Has.t rfl) (Has.cS (l := [105]) rfl) (by first | omega | (simp only [List.length_append, List.length_cons, List.length_nil]; omega))) ?_
      refine R_op rfl rfl rfl (op_assign (Has.t rfl)) ?_
      refine R_nil ?_
      refine T_ret1 rfl (rv_to (rv_tmp rfl) ?_)
      exact (str_to (by rw [txt, if_neg h0, if_pos h1]))
    · simp only [decide_eq_false_iff_not] at hc
      have h1 : x.a ≠ 0 := fun e => hc (by rw [e]; exact dg_length_zero.2 rfl)
      refine T_skip ?_
      refine T_seq ?_
      refine T_seq ?_
      refine T_region ?_
      refine R_op rfl rfl rfl (op_fldB fa_57_1 (Has.t rfl) rfl) ?_
      refine R_op rfl rfl rfl (op_fldB fa_55_0 (Has.t rfl) rfl) ?_
      refine R_op rfl rfl rfl (op_ldB Tryz.isAgg4 Tryz.sizeOf4 (Has.t rfl) (i := 0) rfl rfl) ?_
      refine R_nil ?_
      refine T_cond (Has.t rfl) (fun hd => ?_) (fun hd => ?_)
      · simp only [decide_eq_true_eq] at hd
        refine T_seq ?_
        refine D_start (m := 9) ?_
        refine D_step (Ei := [(1, _)]) rfl rfl (Srcs.cons (Src.pre rfl rfl) Srcs.nil) (S_plain rfl (op_fldB fa_57_0 (Has.t rfl) rfl)) ?_
        refine D_step (Ei := [(27, _)]) rfl rfl (Srcs.cons (Src.op 0 rfl rfl) Srcs.nil) (S_plain rfl (op_ldBA Tryz.isAgg55 Tryz.sizeOf55 (Has.t rfl) (i := 0) rfl rfl rfl)) ?_
        refine D_step (Ei := [(1, _)]) rfl rfl (Srcs.cons (Src.pre rfl rfl) Srcs.nil) (S_plain rfl (op_fldB fa_57_2 (Has.t rfl) rfl)) ?_
        refine D_step (Ei := [(29, _)]) rfl rfl (Srcs.cons (Src.op 2 rfl rfl) Srcs.nil) (S_plain rfl (op_ldB Tryz.isAgg44 Tryz.sizeOf44 (Has.t rfl) (i := 0) rfl rfl)) ?_
        refine D_step (Ei := [(28, _), (30, _)]) rfl rfl (Srcs.cons (Src.op 1 rfl rfl) (Srcs.cons (Src.op 3 rfl rfl) Srcs.nil)) (S_plain rfl (op_call Tryz.call166 (c_rhalf (by assumption) (by omega) (by omega)) ⟨(Has.t rfl), (Has.t rfl), trivial⟩)) ?_
        refine D_step (Ei := [(1, _)]) rfl rfl (Srcs.cons (Src.pre rfl rfl) Srcs.nil) (S_plain rfl (op_fldB fa_57_1 (Has.t rfl) rfl)) ?_
        refine D_step (Ei := [(32, _)]) rfl rfl (Srcs.cons (Src.op 5 rfl rfl) Srcs.nil) (S_plain rfl (op_ldBA Tryz.isAgg55 Tryz.sizeOf55 (Has.t rfl) (i := 0) rfl rfl rfl)) ?_
        refine D_step (Ei := [(1, _)]) rfl rfl (Srcs.cons (Src.pre rfl rfl) Srcs.nil) (S_plain rfl (op_fldB fa_57_2 (Has.t rfl) rfl)) ?_
        refine D_step (Ei := [(34, _)]) rfl rfl (Srcs.cons (Src.op 7 rfl rfl) Srcs.nil) (S_plain rfl (op_ldB Tryz.isAgg44 Tryz.sizeOf44 (Has.t rfl) (i := 0) rfl rfl)) ?_
        refine D_done mixed rfl (by kernel_rfl) (F_val (F_val (F_val (F_val (F_val (F_val (F_val (F_val (F_val (F_nil ?_))))))))))
        refine R_op rfl rfl rfl (op_call Tryz.call166 (c_rhalf (by assumption) (by omega) (by omega)) ⟨(Has.t rfl), (Has.t rfl), trivial⟩) ?_
        refine R_op rfl rfl rfl (op_addS (Has.t rfl) (Has.t rfl) (by first | omega | (simp only [List.length_append, List.length_cons, List.length_nil]; omega))) ?_
        refine R_op rfl rfl rfl (op_addS (Has.t rfl) (Has.cS (l := [105]) rfl) (by first | omega | (simp only [List.length_append, List.length_cons, List.length_nil]; omega))) ?_
        refine R_op rfl rfl rfl (op_assign (Has.t rfl)) ?_
        refine R_nil ?_
        refine T_ret1 rfl (rv_to (rv_tmp rfl) ?_)
        exact (str_to (by rw [txt, if_neg h0, if_neg h1, if_pos hd, List.append_assoc]))
      · simp only [decide_eq_false_iff_not] at hd
        refine T_skip ?_
        refine T_seq ?_
        refine D_start (m := 11) ?_
        refine D_step (Ei := [(1, _)]) rfl rfl (Srcs.cons (Src.pre rfl rfl) Srcs.nil) (S_plain rfl (op_fldB fa_57_0 (Has.t rfl) rfl)) ?_
        refine D_step (Ei := [(39, _)]) rfl rfl (Srcs.cons (Src.op 0 rfl rfl) Srcs.nil) (S_plain rfl (op_ldBA Tryz.isAgg55 Tryz.sizeOf55 (Has.t rfl) (i := 0) rfl rfl rfl)) ?_
        refine D_step (Ei := [(1, _)]) rfl rfl (Srcs.cons (Src.pre rfl rfl) Srcs.nil) (S_plain rfl (op_fldB fa_57_2 (Has.t rfl) rfl)) ?_
        refine D_step (Ei := [(41, _)]) rfl rfl (Srcs.cons (Src.op 2 rfl rfl) Srcs.nil) (S_plain rfl (op_ldB Tryz.isAgg44 Tryz.sizeOf44 (Has.t rfl) (i := 0) rfl rfl)) ?_
        refine D_step (Ei := [(40, _), (42, _)]) rfl rfl (Srcs.cons (Src.op 1 rfl rfl) (Srcs.cons (Src.op 3 rfl rfl) Srcs.nil)) (S_plain rfl (op_call Tryz.call166 (c_rhalf (by assumption) (by omega) (by omega)) ⟨(Has.t rfl), (Has.t rfl), trivial⟩)) ?_
        refine D_step (Ei := [(43, _)]) rfl rfl (Srcs.cons (Src.op 4 rfl rfl) Srcs.nil) (S_plain rfl (op_addS (Has.t rfl) (Has.cS (l := [43]) rfl) (by first | omega | (simp only [List.length_append, List.length_cons, List.length_nil]; omega)))) ?_
        refine D_step (Ei := [(1, _)]) rfl rfl (Srcs.cons (Src.pre rfl rfl) Srcs.nil) (S_plain rfl (op_fldB fa_57_1 (Has.t rfl) rfl)) ?_
        refine D_step (Ei := [(45, _)]) rfl rfl (Srcs.cons (Src.op 6 rfl rfl) Srcs.nil) (S_plain rfl (op_ldBA Tryz.isAgg55 Tryz.sizeOf55 (Has.t rfl) (i := 0) rfl rfl rfl)) ?_
        refine D_step (Ei := [(1, _)]) rfl rfl (Srcs.cons (Src.pre rfl rfl) Srcs.nil) (S_plain rfl (op_fldB fa_57_2 (Has.t rfl) rfl)) ?_
        refine D_step (Ei := [(47, _)]) rfl rfl (Srcs.cons (Src.op 8 rfl rfl) Srcs.nil) (S_plain rfl (op_ldB Tryz.isAgg44 Tryz.sizeOf44 (Has.t rfl) (i := 0) rfl rfl)) ?_
        refine D_step (Ei := [(46, _), (48, _)]) rfl rfl (Srcs.cons (Src.op 7 rfl rfl) (Srcs.cons (Src.op 9 rfl rfl) Srcs.nil)) (S_plain rfl (op_call Tryz.call166 (c_rhalf (by assumption) (by omega) (by omega)) ⟨(Has.t rfl), (Has.t rfl), trivial⟩)) ?_
        refine D_done mixed rfl (by kernel_rfl) (F_val (F_val (F_val (F_val (F_val (F_val (F_val (F_val (F_val (F_val (F_val (F_nil ?_))))))))))))
        refine R_op rfl rfl rfl (op_addS (Has.t rfl) (Has.t rfl) (by first | omega | (simp only [List.length_append, List.length_cons, List.length_nil]; omega))) ?_
        refine R_op rfl rfl rfl (op_addS (Has.t rfl) (Has.cS (l := [105]) rfl) (by first | omega | (simp only [List.length_append, List.length_cons, List.length_nil]; omega))) ?_
        refine R_op rfl rfl rfl (op_assign (Has.t rfl)) ?_
        refine R_nil ?_
        refine T_ret1 rfl (rv_to (rv_tmp rfl) ?_)
        exact (str_to (by rw [txt, if_neg h0, if_neg h1, if_neg hd, List.append_assoc, List.append_assoc]; rfl))
set_option maxRecDepth 20000 in
theorem c_lawIs {x y : Qi} {L M : Nat} [hx : FitC x L] [hy : FitC y M] (h : L ≤ 8796093022208) (h2 : M ≤ 8796093022208) : Fun Tryz.prog 21 [NumT x, QT y] (BoolT (decide (txt x = txt y))) := by
  refine Fun.intro Tryz.func21 rfl Tryz.ntmps21 rfl (fun cx => ?_)
  refine T_seq ?_
  refine T_region ?_
  refine R_new rfl rfl rfl (new_box (Has.t rfl)) (fun B2 => ?_)
  refine R_new rfl rfl rfl (new_box (Has.t rfl)) (fun B3 => ?_)
  refine R_op rfl rfl rfl (op_assign Has.c) ?_
  refine R_nil ?_
  refine T_seq ?_
  refine D_start (m := 3) ?_
  refine D_step (Ei := [(2, _)]) rfl rfl (Srcs.cons (Src.pre rfl rfl) Srcs.nil) (S_plain rfl (op_ldBA Tryz.isAgg49 Tryz.sizeOf49 (Has.t rfl) (i := 0) rfl rfl rfl)) ?_
  refine D_step (Ei := [(5, _)]) rfl rfl (Srcs.cons (Src.op 0 rfl rfl) Srcs.nil) (S_plain rfl (op_call Tryz.call75 (c_Text (by omega)) ⟨(Has.t rfl), trivial⟩)) ?_
  refine D_step (Ei := [(3, _)]) rfl rfl (Srcs.cons (Src.pre rfl rfl) Srcs.nil) (S_plain rfl (op_ldBA Tryz.isAgg57 Tryz.sizeOf57 (Has.t rfl) (i := 1) rfl rfl rfl)) ?_
  refine D_done mixed rfl (by kernel_rfl) (F_val (F_val (F_val (F_nil ?_))))
  refine R_op rfl rfl rfl (op_call Tryz.call94 (c_rTxt (by omega)) ⟨(Has.t rfl), trivial⟩) ?_
  refine R_op rfl rfl rfl (op_eqS (Has.t rfl) (Has.t rfl)) ?_
  refine R_op rfl rfl rfl (op_assign (Has.t rfl)) ?_
  refine R_nil ?_
  exact T_ret1 rfl (rv_tmp rfl)
end Go.Proofs.YtppibhcfaahgpaaGreat
namespace Go.Proofs.YtppibhcfaahgpaaGreat
open Go Go.RowKit
theorem info_30 : Tryz.prog.info? 30 = some Tryz.t30 := by kernel_rfl
end Go.Proofs.YtppibhcfaahgpaaGreat
namespace Go.Proofs.YtppibhcfaahgpaaGreat
open Go Go.RowKit
set_option maxRecDepth 20000 in
theorem c_IndexNum {γ : Type} {l : List γ} {T : γ → Ty} {p : γ → Bool} [sh : ∀ x, Shape (T x) 5 true] (hl : l.length ≤ 1000000) : Fun Tryz.prog 210 [SlT 5 (l.map T), ClT Tryz.prog γ (fun x => [T x]) (fun x => BoolT (p x))] (IntT .i64 (idxZ p l)) := by
  refine Fun.intro Tryz.func210 rfl Tryz.ntmps210 rfl (fun cx => ?_)
  refine T_seq ?_
  refine T_region ?_
  refine R_op rfl rfl rfl (op_assign (Has.cN 0)) ?_
  refine R_nil ?_
  refine T_seq ?_
  refine T_seq ?_
  refine T_region ?_
  refine R_op rfl rfl rfl (op_move (Has.t rfl)) ?_
  refine R_op rfl rfl rfl (op_len Tryz.runUnderlying30 (Has.t rfl) len_map) ?_
  refine R_op rfl rfl rfl (op_move (Has.cN 0)) ?_
  refine R_nil ?_
  refine T_block ?_
  refine T_loop (fun (k : Nat) => k ≤ l.length ∧ ∀ (i : Nat) (x : γ), i < k → l[i]? = some x → p x = false) (fun (k : Nat) => l.length - k) (fun (k : Nat) => [(0, SlT 5 (l.map T)), (1, ClT Tryz.prog γ (fun x => [T x]) (fun x => BoolT (p x))), (7, NT .i64 l.length), (8, NT .i64 k)]) (fun (k : Nat) => []) 0 ⟨Nat.zero_le _, fun i x h => by omega⟩
    (Sub.cons rfl (Sub.cons rfl (Sub.cons rfl (Sub.cons rfl Sub.nil)))) HSub.nil (fun k ⟨hk, hn⟩ => ?_)
  refine T_seq ?_
  refine T_region ?_
  refine R_op rfl rfl rfl (op_lssN (Has.t rfl) (Has.t rfl)) ?_
  refine R_nil ?_
  refine T_seq ?_
  refine T_cond (Has.t rfl) (fun hb => ?_) (fun hb => ?_)
  · simp only [decide_eq_true_eq] at hb
    refine T_skip ?_
    refine T_seq ?_
    refine T_block ?_
    refine T_seq ?_
    refine T_region ?_
    refine R_op rfl rfl rfl (op_move (Has.t rfl)) ?_
    refine R_op rfl rfl rfl (op_assign (Has.t rfl)) ?_
    refine R_nil ?_
    refine T_seq ?_
    refine T_region ?_
    refine R_op rfl rfl rfl (op_move (Has.t rfl)) ?_
    refine R_op rfl rfl rfl (op_move (Has.t rfl)) ?_
    refine R_op rfl rfl rfl (op_move (Has.t rfl)) ?_
    refine R_op rfl rfl rfl (op_idx Tryz.runUnderlying30 Tryz.sizeOf49 (Has.t rfl) (Has.t rfl) rfl (map_get (getq hb))) ?_
    refine R_op rfl rfl rfl (op_ld Tryz.isAgg49 Tryz.sizeOf49 (Has.t rfl)) ?_
    refine R_op rfl rfl rfl (op_callV (l[k]) (Has.t rfl) ⟨(Has.t rfl), trivial⟩) ?_
    refine R_nil ?_
    refine T_cond (Has.t rfl) (fun hc => ?_) (fun hc => ?_)
    · have hp : p l[k] = true := hc
      refine T_seq ?_
      refine T_region ?_
      refine R_op rfl rfl rfl (op_move (Has.t rfl)) ?_
      refine R_op rfl rfl rfl (op_assign (Has.t rfl)) ?_
      refine R_nil ?_
      refine T_ret1 rfl (rv_to (rv_tmp rfl) ?_)
      exact (int_of (idxZ_at (getq hb) hp hn).symm)
    · have hp : p l[k] = false := hc
      refine T_skip ?_
      refine T_blk ?_
      refine T_region ?_
      refine R_op rfl rfl rfl (op_addN (Has.t rfl) (Has.cN 1) (by show _ < 9223372036854775808; first | omega | (simp only [lim]; omega))) ?_
      refine R_op rfl rfl rfl (op_move (Has.t rfl)) ?_
      refine R_nil ?_
      refine T_again (k + 1) ⟨hb, fun i x h1 h2 => by
          by_cases e : i = k
          · subst e; rw [getq hb] at h2; obtain rfl := Option.some.inj h2; exact hp
          · exact hn i x (by omega) h2⟩ (by omega) (Sub.cons rfl (Sub.cons rfl (Sub.cons rfl (Sub.cons rfl Sub.nil)))) HSub.nil
  · simp only [decide_eq_false_iff_not] at hb
    refine T_exit rfl ?_
    refine T_seq ?_
    refine T_region ?_
    refine R_op rfl rfl rfl (op_assign Has.c) ?_
    refine R_nil ?_
    refine T_ret1 rfl (rv_to (rv_tmp rfl) ?_)
    exact (int_of (idxZ_none (fun i x h => hn i x (by have := (List.getElem?_eq_some_iff.1 h).1; omega) h)).symm)
set_option maxRecDepth 20000 in
theorem c_ContainsNum {γ : Type} {l : List γ} {T : γ → Ty} {p : γ → Bool} [sh : ∀ x, Shape (T x) 5 true] (hl : l.length ≤ 1000000) : Fun Tryz.prog 170 [SlT 5 (l.map T), ClT Tryz.prog γ (fun x => [T x]) (fun x => BoolT (p x))] (BoolT (l.any p)) := by
  refine Fun.intro Tryz.func170 rfl Tryz.ntmps170 rfl (fun cx => ?_)
  refine T_seq ?_
  refine T_region ?_
  refine R_op rfl rfl rfl (op_assign Has.c) ?_
  refine R_nil ?_
  refine T_seq ?_
  refine T_region ?_
  refine R_op rfl rfl rfl (op_move (Has.t rfl)) ?_
  refine R_op rfl rfl rfl (op_move (Has.t rfl)) ?_
  refine R_op rfl rfl rfl (op_call Tryz.call210 (c_IndexNum (by omega)) ⟨(Has.t rfl), (Has.t rfl), trivial⟩) ?_
  refine R_op rfl rfl rfl (op_geq (Has.t rfl) Has.c) ?_
  refine R_op rfl rfl rfl (op_assign (Has.t rfl)) ?_
  refine R_nil ?_
  refine T_ret1 rfl (rv_to (rv_tmp rfl) ?_)
  exact (bool_of (idxZ_any p l))
set_option maxRecDepth 20000 in
theorem c_IndexRow {γ : Type} {l : List γ} {T : γ → Ty} {p : γ → Bool} [sh : ∀ x, Shape (T x) 1 false] (hl : l.length ≤ 1000000) : Fun Tryz.prog 199 [SlT 1 (l.map T), ClT Tryz.prog γ (fun x => [T x]) (fun x => BoolT (p x))] (IntT .i64 (idxZ p l)) := by
  refine Fun.intro Tryz.func199 rfl Tryz.ntmps199 rfl (fun cx => ?_)
  refine T_seq ?_
  refine T_region ?_
  refine R_op rfl rfl rfl (op_assign (Has.cN 0)) ?_
  refine R_nil ?_
  refine T_seq ?_
  refine T_seq ?_
  refine T_region ?_
  refine R_op rfl rfl rfl (op_move (Has.t rfl)) ?_
  refine R_op rfl rfl rfl (op_len Tryz.runUnderlying31 (Has.t rfl) len_map) ?_
  refine R_op rfl rfl rfl (op_move (Has.cN 0)) ?_
  refine R_nil ?_
  refine T_block ?_
  refine T_loop (fun (k : Nat) => k ≤ l.length ∧ ∀ (i : Nat) (x : γ), i < k → l[i]? = some x → p x = false) (fun (k : Nat) => l.length - k) (fun (k : Nat) => [(0, SlT 1 (l.map T)), (1, ClT Tryz.prog γ (fun x => [T x]) (fun x => BoolT (p x))), (7, NT .i64 l.length), (8, NT .i64 k)]) (fun (k : Nat) => []) 0 ⟨Nat.zero_le _, fun i x h => by omega⟩
    (Sub.cons rfl (Sub.cons rfl (Sub.cons rfl (Sub.cons rfl Sub.nil)))) HSub.nil (fun k ⟨hk, hn⟩ => ?_)
  refine T_seq ?_
  refine T_region ?_
  refine R_op rfl rfl rfl (op_lssN (Has.t rfl) (Has.t rfl)) ?_
  refine R_nil ?_
  refine T_seq ?_
  refine T_cond (Has.t rfl) (fun hb => ?_) (fun hb => ?_)
  · simp only [decide_eq_true_eq] at hb
    refine T_skip ?_
    refine T_seq ?_
    refine T_block ?_
    refine T_seq ?_
    refine T_region ?_
    refine R_op rfl rfl rfl (op_move (Has.t rfl)) ?_
    refine R_op rfl rfl rfl (op_assign (Has.t rfl)) ?_
    refine R_nil ?_
    refine T_seq ?_
    refine T_region ?_
    refine R_op rfl rfl rfl (op_move (Has.t rfl)) ?_
    refine R_op rfl rfl rfl (op_move (Has.t rfl)) ?_
    refine R_op rfl rfl rfl (op_move (Has.t rfl)) ?_
    refine R_op rfl rfl rfl (op_idx Tryz.runUnderlying31 Tryz.sizeOf30 (Has.t rfl) (Has.t rfl) rfl (map_get (getq hb))) ?_
    refine R_op rfl rfl rfl (op_ld Tryz.isAgg30 Tryz.sizeOf30 (Has.t rfl)) ?_
    refine R_op rfl rfl rfl (op_callV (l[k]) (Has.t rfl) ⟨(Has.t rfl), trivial⟩) ?_
    refine R_nil ?_
    refine T_cond (Has.t rfl) (fun hc => ?_) (fun hc => ?_)
    · have hp : p l[k] = true := hc
      refine T_seq ?_
      refine T_region ?_
      refine R_op rfl rfl rfl (op_move (Has.t rfl)) ?_
      refine R_op rfl rfl rfl (op_assign (Has.t rfl)) ?_
      refine R_nil ?_
      refine T_ret1 rfl (rv_to (rv_tmp rfl) ?_)
      exact (int_of (idxZ_at (getq hb) hp hn).symm)
    · have hp : p l[k] = false := hc
      refine T_skip ?_
      refine T_blk ?_
      refine T_region ?_
      refine R_op rfl rfl rfl (op_addN (Has.t rfl) (Has.cN 1) (by show _ < 9223372036854775808; first | omega | (simp only [lim]; omega))) ?_
      refine R_op rfl rfl rfl (op_move (Has.t rfl)) ?_
      refine R_nil ?_
      refine T_again (k + 1) ⟨hb, fun i x h1 h2 => by
          by_cases e : i = k
          · subst e; rw [getq hb] at h2; obtain rfl := Option.some.inj h2; exact hp
          · exact hn i x (by omega) h2⟩ (by omega) (Sub.cons rfl (Sub.cons rfl (Sub.cons rfl (Sub.cons rfl Sub.nil)))) HSub.nil
  · simp only [decide_eq_false_iff_not] at hb
    refine T_exit rfl ?_
    refine T_seq ?_
    refine T_region ?_
    refine R_op rfl rfl rfl (op_assign Has.c) ?_
    refine R_nil ?_
    refine T_ret1 rfl (rv_to (rv_tmp rfl) ?_)
    exact (int_of (idxZ_none (fun i x h => hn i x (by have := (List.getElem?_eq_some_iff.1 h).1; omega) h)).symm)
set_option maxRecDepth 20000 in
theorem c_ContainsRow {γ : Type} {l : List γ} {T : γ → Ty} {p : γ → Bool} [sh : ∀ x, Shape (T x) 1 false] (hl : l.length ≤ 1000000) : Fun Tryz.prog 151 [SlT 1 (l.map T), ClT Tryz.prog γ (fun x => [T x]) (fun x => BoolT (p x))] (BoolT (l.any p)) := by
  refine Fun.intro Tryz.func151 rfl Tryz.ntmps151 rfl (fun cx => ?_)
  refine T_seq ?_
  refine T_region ?_
  refine R_op rfl rfl rfl (op_assign Has.c) ?_
  refine R_nil ?_
  refine T_seq ?_
  refine T_region ?_
  refine R_op rfl rfl rfl (op_move (Has.t rfl)) ?_
  refine R_op rfl rfl rfl (op_move (Has.t rfl)) ?_
  refine R_op rfl rfl rfl (op_call Tryz.call199 (c_IndexRow (by omega)) ⟨(Has.t rfl), (Has.t rfl), trivial⟩) ?_
  refine R_op rfl rfl rfl (op_geq (Has.t rfl) Has.c) ?_
  refine R_op rfl rfl rfl (op_assign (Has.t rfl)) ?_
  refine R_nil ?_
  refine T_ret1 rfl (rv_to (rv_tmp rfl) ?_)
  exact (bool_of (idxZ_any p l))
set_option maxRecDepth 20000 in
theorem c_positive {x : Qi} {L : Nat} [hx : FitC x L] (h : L ≤ 8796093022208) : Fun Tryz.prog 172 [NumT x] (BoolT (posQ x)) := by
  haveI hz : FitC Qi.zero 1 := FitC.zero (Nat.le_refl 1)
  refine Fun.intro Tryz.func172 rfl Tryz.ntmps172 rfl (fun cx => ?_)
  refine T_seq ?_
  refine T_region ?_
  refine R_new rfl rfl rfl (new_box (Has.t rfl)) (fun B1 => ?_)
  refine R_op rfl rfl rfl (op_assign Has.c) ?_
  refine R_nil ?_
  refine T_seq ?_
  refine T_region ?_
  refine R_op rfl rfl rfl (op_ldBA Tryz.isAgg49 Tryz.sizeOf49 (Has.t rfl) (i := 0) rfl rfl rfl) ?_
  refine R_op rfl rfl rfl (op_call Tryz.call32 c_Real ⟨(Has.t rfl), trivial⟩) ?_
  refine R_op rfl rfl rfl (op_move (Has.t rfl)) ?_
  refine R_step rfl rfl (S_when rfl rfl (Has.t rfl) (fun h => op_ldBA Tryz.isAgg49 Tryz.sizeOf49 (Has.t rfl) (i := 0) rfl rfl rfl)) ?_
  refine R_step rfl rfl (S_when rfl rfl (Has.t rfl) (fun h => OpTy.imp (bld_49_ ) num_zero)) ?_
  refine R_step rfl rfl (S_when rfl rfl (Has.t rfl) (fun h => op_call Tryz.call33 (c_Cmp (by omega)) ⟨(Has.w rfl h), (Has.w rfl h), trivial⟩)) ?_
  refine R_step rfl rfl (S_when rfl rfl (Has.t rfl) (fun h => op_gtr (Has.w rfl h) Has.c)) ?_
  refine R_op rfl rfl rfl (op_and (Has.t rfl) (fun h => (Has.w rfl h))) ?_
  refine R_op rfl rfl rfl (op_assign (Has.t rfl)) ?_
  refine R_nil ?_
  refine T_ret1 rfl (rv_to (rv_tmp rfl) ?_)
  exact (bool_of (pos_eq x))
set_option maxRecDepth 20000 in
theorem c_positives1 {x : Qi} {L : Nat} [hx : FitC x L] (h : L ≤ 8796093022208) : Fun Tryz.prog 171 [NumT x] (BoolT (!posQ x)) := by
  refine Fun.intro Tryz.func171 rfl Tryz.ntmps171 rfl (fun cx => ?_)
  refine T_seq ?_
  refine T_region ?_
  refine R_new rfl rfl rfl (new_box (Has.t rfl)) (fun B1 => ?_)
  refine R_op rfl rfl rfl (op_assign Has.c) ?_
  refine R_nil ?_
  refine T_seq ?_
  refine T_region ?_
  refine R_op rfl rfl rfl (op_ldBA Tryz.isAgg49 Tryz.sizeOf49 (Has.t rfl) (i := 0) rfl rfl rfl) ?_
  refine R_op rfl rfl rfl (op_call Tryz.call172 (c_positive (by omega)) ⟨(Has.t rfl), trivial⟩) ?_
  refine R_op rfl rfl rfl (op_not (Has.t rfl)) ?_
  refine R_op rfl rfl rfl (op_assign (Has.t rfl)) ?_
  refine R_nil ?_
  exact T_ret1 rfl (rv_tmp rfl)
set_option maxRecDepth 20000 in
theorem c_positives {z : List Qi} {L : Nat} (hz : FitL z L) (h : L ≤ 8796093022208) (hl : z.length ≤ 1000) : Fun Tryz.prog 103 [NumsT z] (IntT .i64 (if z.all posQ then 0 else 1)) := by
  obtain ⟨l, hzl⟩ : ∃ l : List {x : Qi // FitC x L}, z = l.map Subtype.val := ⟨z.attach.map fun x => ⟨x.1, hz x.1 x.2⟩, by simp⟩
  subst hzl
  have hll : l.length ≤ 1000 := by simpa using hl
  refine Fun.intro Tryz.func103 rfl Tryz.ntmps103 rfl (fun cx => ?_)
  refine T_sub (E' := [(0, _)]) (Sub.to rfl (slT_of (Us := l.map fun x => NumT x.1) (by simp [List.map_map, Function.comp_def])) Sub.nil) ?_
  refine T_seq ?_
  refine T_region ?_
  refine R_op rfl rfl rfl (op_assign (Has.cN 0)) ?_
  refine R_nil ?_
  refine T_seq ?_
  refine T_seq ?_
  refine T_region ?_
  refine R_op rfl rfl rfl (op_move (Has.t rfl)) ?_
  refine R_op rfl rfl rfl (op_call Tryz.call170 (c_ContainsNum (l := l) (T := fun x => NumT x.1) (p := fun x => !posQ x.1) (by omega)) ⟨(Has.t rfl), (Has.fn Tryz.call171 (γ := {x : Qi // FitC x L}) (Ts := fun x => [NumT x.1]) (U := fun x => BoolT (!posQ x.1)) (fun x => haveI := x.2; c_positives1 h)), trivial⟩) ?_
  refine R_nil ?_
  refine T_cond (Has.t rfl) (fun hb => ?_) (fun hb => ?_)
  · have hn : ¬ (l.map Subtype.val).all posQ = true := by simp at hb ⊢; exact hb
    refine T_seq ?_
    refine T_region ?_
    refine R_op rfl rfl rfl (op_assign (Has.cN 1)) ?_
    refine R_nil ?_
    refine T_ret1 rfl (rv_to (rv_tmp rfl) ?_)
    exact (int_of (by rw [if_neg hn]; rfl))
  · have hn : (l.map Subtype.val).all posQ = true := by simp at hb ⊢; exact hb
    refine T_skip ?_
    refine T_seq ?_
    refine T_region ?_
    refine R_op rfl rfl rfl (op_assign (Has.cN 0)) ?_
    refine R_nil ?_
    refine T_ret1 rfl (rv_to (rv_tmp rfl) ?_)
    exact (int_of (by rw [if_pos hn]; rfl))
set_option maxRecDepth 20000 in
theorem c_CloneO {l : List Qi} (hl : l.length ≤ 1000) : FunO Tryz.prog 104 [NumsT l] [] (Value) (fun v => Is v) (fun v => [rowO 49 5 v (l.map NumT)]) (fun _ => True) := by
  refine FunO.intro Tryz.func104 rfl Tryz.ntmps104 rfl (fun cx Z => ?_)
  refine T_seq ?_
  refine T_region ?_
  refine R_op rfl rfl rfl (op_assign Has.c) ?_
  refine R_nil ?_
  refine T_seq ?_
  refine T_seq ?_
  refine T_region ?_
  refine R_op rfl rfl rfl (op_move (Has.t rfl)) ?_
  refine R_op rfl rfl rfl (op_eqnil Tryz.runUnderlying30 (Has.t rfl)) ?_
  refine R_nil ?_
  refine T_condE (Has.t rfl) (fun hb => ?_) (fun hb => ?_)
  · have hT : l.map NumT = [] := hb rfl
    refine T_seq ?_
    refine T_region ?_
    refine R_op rfl rfl rfl (op_assign Has.c) ?_
    refine R_nil ?_
    refine T_row 49 5 ?_
    exact T_retO (.slice none 0 0) trivial [0, 1] ⟨⟨_, rfl, fun _ _ _ h => h⟩, ⟨_, rfl, (rowO_of hT.symm)⟩, trivial⟩ (by decide) (rvs1 rfl (rv_tmp rfl))
  · refine T_skip ?_
    refine T_seq ?_
    refine T_region ?_
    refine R_new rfl rfl rfl (new_bslice0 Tryz.runUnderlying30 Tryz.sizeOf49 Tryz.zeroValue49) (fun B5 => ?_)
    refine R_op rfl rfl rfl (op_move (Has.t rfl)) ?_
    refine R_appendA (inf := Tryz.t49) und_30 info_49 rfl rfl rfl (Has.t rfl) (Has.t rfl) (i := 1) rfl (fun T hT => by obtain ⟨x, _, rfl⟩ := List.mem_map.1 hT; exact El.ag rfl) (by show _ * 88 ≤ _; simp only [List.length_map, List.length_nil]; omega) (by simp only [List.length_map, List.length_nil]; omega) rfl (fun v2 => ?_)
    refine R_op rfl rfl rfl (op_assign (Has.t rfl)) ?_
    refine R_nil ?_
    exact T_retO v2 trivial [0, 1] ⟨⟨_, rfl, fun _ _ _ h => h⟩, ⟨_, rfl, fun _ _ _ h => h⟩, trivial⟩ (by decide) (rvs1 rfl (rv_tmp rfl))
theorem c_Clone {l : List Qi} (hl : l.length ≤ 1000) : Fun Tryz.prog 104 [NumsT l] (NumsT l) := (c_CloneO hl).fun fun v _ => frz_row
set_option maxRecDepth 20000 in
theorem c_fillO {n : Nat} {f : Nat → Nat → Qi} (hn : n ≤ 1000) : FunO Tryz.prog 105 [NT .i64 n, ClT Tryz.prog (Fin n × Fin n) (fun x => [NT .i64 x.1.1, NT .i64 x.2.1]) (fun x => NumT (f x.1.1 x.2.1))] [] (Nat) (fun B => Is (.slice (some ⟨B, 0, none⟩) n n)) (fun B => [matO B 30 49 5 (FRow NumT (tab n fun i => tab n (f i)))]) (fun _ => True) := by
  refine FunO.intro Tryz.func105 rfl Tryz.ntmps105 rfl (fun cx Z => ?_)
  refine T_seq ?_
  refine T_region ?_
  refine R_op rfl rfl rfl (op_assign Has.c) ?_
  refine R_nil ?_
  refine T_seq ?_
  refine T_region ?_
  refine R_op rfl rfl rfl (op_move (Has.t rfl)) ?_
  refine R_new rfl rfl rfl (new_make (T := Is (.slice none 0 0)) (i := Tryz.t30) Tryz.underlying31 info_30 rfl rfl (Has.t rfl) rfl (fun _ => rfl) trivial (by show 24 * _ ≤ _; omega) (by omega)) (fun B9 => ?_)
  refine R_op rfl rfl rfl (op_assign (Has.t rfl)) ?_
  refine R_nil ?_
  refine T_seq ?_
  refine T_seq ?_
  refine T_region ?_
  refine R_op rfl rfl rfl (op_move (Has.t rfl)) ?_
  refine R_op rfl rfl rfl (op_lenI Tryz.runUnderlying31 (Has.t rfl)) ?_
  refine R_op rfl rfl rfl (op_move (Has.cN 0)) ?_
  refine R_nil ?_
  refine T_block ?_
  refine T_conv 1 rfl (mat_nil (e := 49) (s := 5)) ?_
  refine T_loop2 (fun (k : Nat) (m : List (List Qi)) => FillS (fun i => tab n (f i)) n m k) (fun (k : Nat) (m : List (List Qi)) => n - k) (fun (k : Nat) (m : List (List Qi)) => [(0, NT .i64 n), (1, ClT Tryz.prog (Fin n × Fin n) (fun x => [NT .i64 x.1.1, NT .i64 x.2.1]) (fun x => NumT (f x.1.1 x.2.1))), (5, Is (.slice (some ⟨B9, 0, none⟩) n n)), (11, NT .i64 n), (12, NT .i64 k)]) (fun (k : Nat) (m : List (List Qi)) => [Z, matO B9 30 49 5 (FRow NumT m)]) 0 (List.replicate n []) (FillS.start _ _ _)
    (Sub.cons rfl (Sub.cons rfl (Sub.cons rfl (Sub.cons rfl (Sub.cons rfl Sub.nil))))) (HSub.cons (fun _ _ _ h => h) (HSub.cons (matO_of (rep_FRow NumT n)) HSub.nil)) (fun k m hS => ?_)
  refine T_seq ?_
  refine T_region ?_
  refine R_op rfl rfl rfl (op_lssN (Has.t rfl) (Has.t rfl)) ?_
  refine R_nil ?_
  refine T_seq ?_
  refine T_cond (Has.t rfl) (fun hk => ?_) (fun hk => ?_)
  · simp only [decide_eq_true_eq] at hk
    have hlen := hS.len
    refine T_focus 1 (k) rfl (frow_get (m := m) (i := k) (by omega)) (fun v => ?_)
    refine T_skip ?_
    refine T_seq ?_
    refine T_block ?_
    refine T_seq ?_
    refine T_region ?_
    refine R_op rfl rfl rfl (op_move (Has.t rfl)) ?_
    refine R_op rfl rfl rfl (op_assign (Has.t rfl)) ?_
    refine R_nil ?_
    refine T_seq ?_
    refine T_region ?_
    refine R_op rfl rfl rfl (op_move (Has.t rfl)) ?_
    refine R_op rfl rfl rfl (op_move (Has.t rfl)) ?_
    refine R_op rfl rfl rfl (op_move (Has.t rfl)) ?_
    refine R_new rfl rfl rfl (new_makeO (T := NumT Qi.zero) (i := Tryz.t49) und_30 info_49 rfl rfl (Has.t rfl) rfl num_zero_p (El.ag rfl) (by show 88 * _ ≤ _; omega) (by omega)) (fun B18 => ?_)
    refine R_op rfl rfl rfl (op_idxB Tryz.runUnderlying31 Tryz.sizeOf30 (Has.t rfl) (Has.t rfl) rfl (by omega) (by rw [Nat.mul_one, Nat.zero_add])) ?_
    refine R_stH Tryz.sizeOf30 (Has.t rfl) (Has.t rfl) (by simp; omega) (j := 1) (l := 3) rfl rfl rfl ?_
    refine R_nil ?_
    refine T_seq ?_
    refine T_keep [0, 1, 3] rfl (by decide) ?_
    refine T_region ?_
    refine R_op rfl rfl rfl (op_move (Has.t rfl)) ?_
    refine R_op rfl rfl rfl (op_move (Has.t rfl)) ?_
    refine R_op rfl rfl rfl (op_idxB Tryz.runUnderlying31 Tryz.sizeOf30 (Has.t rfl) (Has.t rfl) rfl (by omega) (by rw [Nat.mul_one, Nat.zero_add])) ?_
    refine R_op rfl rfl rfl (op_ldH Tryz.isAgg30 Tryz.sizeOf30 (Has.t rfl) (j := 1) rfl) ?_
    refine R_op rfl rfl rfl (op_lenO Tryz.runUnderlying30 (Has.t rfl) (i := 2) rfl (show ((List.replicate n (NumT Qi.zero)).length : Int) = ((n : Nat) : Int) by simp)) ?_
    refine R_op rfl rfl rfl (op_move (Has.cN 0)) ?_
    refine R_nil ?_
    refine T_block ?_
    refine T_loop2 (fun (j : Nat) (out : List Qi) => FillS (f k) n out j) (fun (j : Nat) (out : List Qi) => n - j) (fun (j : Nat) (out : List Qi) => [(0, NT .i64 n), (1, ClT Tryz.prog (Fin n × Fin n) (fun x => [NT .i64 x.1.1, NT .i64 x.2.1]) (fun x => NumT (f x.1.1 x.2.1))), (5, Is (.slice (some ⟨B9, 0, none⟩) n n)), (6, NT .i64 k), (11, NT .i64 n), (12, NT .i64 k), (24, NT .i64 n), (25, NT .i64 j)]) (fun (j : Nat) (out : List Qi) => [Z, matH B9 30 49 5 (FRow NumT m) k B18, rowO 49 5 B18 (out.map NumT)]) 0 (List.replicate n Qi.zero) (FillS.start _ _ _)
      (Sub.cons rfl (Sub.cons rfl (Sub.cons rfl (Sub.cons rfl (Sub.cons rfl (Sub.cons rfl (Sub.cons rfl (Sub.cons rfl Sub.nil)))))))) (HSub.cons (fun _ _ _ h => h) (HSub.cons (fun _ _ _ h => h) (HSub.cons (rowO_of (rep_mapF NumT _ _)) HSub.nil))) (fun j out hT => ?_)
    refine T_seq ?_
    refine T_region ?_
    refine R_op rfl rfl rfl (op_lssN (Has.t rfl) (Has.t rfl)) ?_
    refine R_nil ?_
    refine T_seq ?_
    refine T_cond (Has.t rfl) (fun hj => ?_) (fun hj => ?_)
    · simp only [decide_eq_true_eq] at hj
      have hlen2 := hT.len
      refine T_skip ?_
      refine T_seq ?_
      refine T_block ?_
      refine T_seq ?_
      refine T_region ?_
      refine R_op rfl rfl rfl (op_move (Has.t rfl)) ?_
      refine R_op rfl rfl rfl (op_assign (Has.t rfl)) ?_
      refine R_nil ?_
      refine D_start (m := 9) ?_
      refine D_step (Ei := [(5, _)]) rfl rfl (Srcs.cons (Src.pre rfl rfl) Srcs.nil) (S_plain rfl (op_move (Has.t rfl))) ?_
      refine D_step (Ei := [(6, _)]) rfl rfl (Srcs.cons (Src.pre rfl rfl) Srcs.nil) (S_plain rfl (op_move (Has.t rfl))) ?_
      refine D_step (Ei := [(28, _), (29, _)]) rfl rfl (Srcs.cons (Src.op 0 rfl rfl) (Srcs.cons (Src.op 1 rfl rfl) Srcs.nil)) (S_plain rfl (op_idxB Tryz.runUnderlying31 Tryz.sizeOf30 (Has.t rfl) (Has.t rfl) rfl (by omega) (by rw [Nat.mul_one, Nat.zero_add]))) ?_
      refine D_step (Ei := [(30, _)]) rfl rfl (Srcs.cons (Src.op 2 rfl rfl) Srcs.nil) (S_plain rfl (op_ldH Tryz.isAgg30 Tryz.sizeOf30 (Has.t rfl) (j := 1) rfl)) ?_
      refine D_step (Ei := [(7, _)]) rfl rfl (Srcs.cons (Src.pre rfl rfl) Srcs.nil) (S_plain rfl (op_move (Has.t rfl))) ?_
      refine D_step (Ei := [(1, _)]) rfl rfl (Srcs.cons (Src.pre rfl rfl) Srcs.nil) (S_plain rfl (op_move (Has.t rfl))) ?_
      refine D_step (Ei := [(6, _)]) rfl rfl (Srcs.cons (Src.pre rfl rfl) Srcs.nil) (S_plain rfl (op_move (Has.t rfl))) ?_
      refine D_step (Ei := [(7, _)]) rfl rfl (Srcs.cons (Src.pre rfl rfl) Srcs.nil) (S_plain rfl (op_move (Has.t rfl))) ?_
      refine D_step (Ei := [(33, _), (34, _), (35, _)]) rfl rfl (Srcs.cons (Src.op 5 rfl rfl) (Srcs.cons (Src.op 6 rfl rfl) (Srcs.cons (Src.op 7 rfl rfl) Srcs.nil))) (S_plain rfl (op_callV ((⟨k, hk⟩, ⟨j, hj⟩) : Fin n × Fin n) (Has.t rfl) ⟨(Has.t rfl), (Has.t rfl), trivial⟩)) ?_
      refine D_done mixed rfl (by kernel_rfl) (F_val (F_val (F_val (F_val (F_val (F_val (F_val (F_val (F_val (F_nil ?_))))))))))
      refine R_op rfl rfl rfl (op_idxO Tryz.runUnderlying30 Tryz.sizeOf49 (Has.t rfl) (Has.t rfl) rfl (i := 2) rfl (by first | omega | (simp; omega)) rfl) ?_
      refine R_stO Tryz.sizeOf49 (Has.t rfl) (Has.t rfl) (El.ag rfl) (i := 2) rfl rfl (by first | omega | (simp; omega)) rfl ?_
      refine R_nil ?_
      refine T_blk ?_
      refine T_region ?_
      refine R_op rfl rfl rfl (op_addN (Has.t rfl) (Has.cN 1) (by show _ < 9223372036854775808; first | omega | (simp only [lim]; omega))) ?_
      refine R_op rfl rfl rfl (op_move (Has.t rfl)) ?_
      refine R_nil ?_
      refine T_again (j + 1, _) (hT.next hj rfl) (by dsimp only; omega) (Sub.cons rfl (Sub.cons rfl (Sub.cons rfl (Sub.cons rfl (Sub.cons rfl (Sub.cons rfl (Sub.cons rfl (Sub.cons rfl Sub.nil)))))))) (HSub.cons (fun _ _ _ h => h) (HSub.cons (fun _ _ _ h => h) (HSub.cons (rowO_of (set_mapF NumT _ _ _)) HSub.nil)))
    · simp only [decide_eq_false_iff_not] at hj
      obtain rfl : j = n := Nat.le_antisymm hT.kle (by omega)
      have hfin := hT.fin
      refine T_exit rfl ?_
      refine T_blk ?_
      refine T_unfocus 1 2 rfl rfl (by decide) (by simp; omega) ?_
      refine T_region ?_
      refine R_op rfl rfl rfl (op_addN (Has.t rfl) (Has.cN 1) (by show _ < 9223372036854775808; first | omega | (simp only [lim]; omega))) ?_
      refine R_op rfl rfl rfl (op_move (Has.t rfl)) ?_
      refine R_nil ?_
      refine T_keep [0, 1] rfl (by decide) ?_
      refine T_again (k + 1, _) (hS.next hk hfin) (by dsimp only; omega) (Sub.cons rfl (Sub.cons rfl (Sub.cons rfl (Sub.cons rfl (Sub.cons rfl Sub.nil))))) (HSub.cons (fun _ _ _ h => h) (HSub.cons (matO_of (set_FRow NumT _ _ _)) HSub.nil))
  · simp only [decide_eq_false_iff_not] at hk
    obtain rfl : k = n := Nat.le_antisymm hS.kle (by omega)
    have hfin := hS.fin
    refine T_exit rfl ?_
    refine T_seq ?_
    refine T_region ?_
    refine R_op rfl rfl rfl (op_move (Has.t rfl)) ?_
    refine R_op rfl rfl rfl (op_assign (Has.t rfl)) ?_
    refine R_nil ?_
    exact T_retO B9 trivial [0, 1] ⟨⟨_, rfl, fun _ _ _ h => h⟩, ⟨_, rfl, (matO_of (by rw [hfin]))⟩, trivial⟩ (by decide) (rvs1 rfl (rv_tmp rfl))
theorem c_fill {n : Nat} {f : Nat → Nat → Qi} (hn : n ≤ 1000) : Fun Tryz.prog 105 [NT .i64 n, ClT Tryz.prog (Fin n × Fin n) (fun x => [NT .i64 x.1.1, NT .i64 x.2.1]) (fun x => NumT (f x.1.1 x.2.1))] (NumM (tab n fun i => tab n (f i))) := (c_fillO hn).fun fun B _ v S V h1 h2 => slT_of (by simp [FRow, List.map_map, Function.comp_def]) v V (frz_mat (by simp [FRow, tab_len]) (Nat.le_refl _) v S V h1 h2)
end Go.Proofs.YtppibhcfaahgpaaGreat
namespace Go.Proofs.YtppibhcfaahgpaaGreat
open Go Go.RowKit
theorem bld_33_ {n : Nat} {E : Env} {H : Hp} {d : Option Tmp} {t : TypeId} {pos : String} {af : Array Edge} {g : Option (Nat × Bool)}  :
    OpTy Tryz.prog n E H ⟨d, .build 33 #[], t, pos, af, g⟩ (AggT [Is (.slice none 0 0), Is (.slice none 0 0)]) :=
  op_build (parts := []) fun a V w hs => by
    refine ⟨.agg #[(.slice none 0 0), (.slice none 0 0)], ?_, [(.slice none 0 0), (.slice none 0 0)], rfl, Cells.cons' (⟨rfl, trivial⟩) (Cells.cons' (⟨rfl, trivial⟩) (Cells.nil))⟩
    simp [Instr.build, Instr.fill, Sem.run_bind, Result.andThen, cells_agg, Tryz.zeroValue33, Tryz.runUnderlying33, Tryz.sizeOf30, Tryz.sizeOf31]
theorem bld_33_0_1 {n : Nat} {E : Env} {H : Hp} {d : Option Tmp} {t : TypeId} {pos : String} {af : Array Edge} {g : Option (Nat × Bool)} {x0 x1 : Operand} {T0 T1 : Ty} [s0 : Shape T0 1 false] (h0 : Has E x0 T0) [s1 : Shape T1 1 false] (h1 : Has E x1 T1) :
    OpTy Tryz.prog n E H ⟨d, .build 33 #[(0, x0), (1, x1)], t, pos, af, g⟩ (AggT [T0, T1]) :=
  op_build (parts := [(0, x0), (1, x1)]) fun a V w hs => by
    have p0 := h0 n V a hs
    generalize e0 : a.eval x0 = v0 at p0
    have q0 := (s0.ok v0 V p0).2.2 rfl
    have p1 := h1 n V a hs
    generalize e1 : a.eval x1 = v1 at p1
    have q1 := (s1.ok v1 V p1).2.2 rfl
    refine ⟨.agg #[v0, v1], ?_, [v0, v1], rfl, Cells.cons' (⟨p0, q0⟩) (Cells.cons' (⟨p1, q1⟩) (Cells.nil))⟩
    simp [e0, e1, Instr.build, Instr.fill, Sem.run_bind, Result.andThen, cells_agg, q0.cells, q1.cells, Tryz.zeroValue33, Tryz.runUnderlying33, Tryz.sizeOf30, Tryz.sizeOf31]
theorem fa_33_0 (a : Addr) (w : World) : (Instr.fieldAt 33 (.pointer (some a)) 0).run Tryz.prog w = .ok (.pointer (some (a.add 0))) w := by
  simp [Instr.fieldAt, Instr.sureAddr, fieldPlace, Sem.run_bind, Result.andThen, Tryz.runUnderlying33, Tryz.sizeOf30]
end Go.Proofs.YtppibhcfaahgpaaGreat
namespace Go.Proofs.YtppibhcfaahgpaaGreat
open Go Go.RowKit
set_option maxRecDepth 20000 in
theorem c_New1 {s : List (List Qi)} {n i j : Nat} (hs : Shp s n n) (hi : i < n) (hj : j < n) : Fun Tryz.prog 106 [NT .i64 i, NT .i64 j, PT (NumM s)] (NumT (gm s i j)) := by
  have h1 := hs.1; have h2 := hs.row hi
  refine Fun.intro Tryz.func106 rfl Tryz.ntmps106 rfl (fun cx => ?_)
  refine T_seq ?_
  refine T_region ?_
  refine R_new rfl rfl rfl (new_alloc (Ts := [Is (.bool false), Is (.slice none 0 0), Is (.bool false), Is (.slice none 0 0), Is (.slice none 0 0)]) Tryz.zeroValue49 rfl (fun V => Cells.cons' ⟨rfl, trivial⟩ (Cells.cons' ⟨rfl, trivial⟩ (Cells.cons' ⟨rfl, trivial⟩ (Cells.cons' ⟨rfl, trivial⟩ (Cells.cons' ⟨rfl, trivial⟩ (Cells.nil))))))) (fun B5 => ?_)
  refine R_nil ?_
  refine T_seq ?_
  refine T_region ?_
  refine R_op rfl rfl rfl (op_ld Tryz.isAgg31 Tryz.sizeOf31 (Has.t rfl)) ?_
  refine R_op rfl rfl rfl (op_move (Has.t rfl)) ?_
  refine R_op rfl rfl rfl (op_idx Tryz.runUnderlying31 Tryz.sizeOf30 (Has.t rfl) (Has.t rfl) rfl (map_get (getD_some (d := []) (by omega)))) ?_
  refine R_op rfl rfl rfl (op_ld Tryz.isAgg30 Tryz.sizeOf30 (Has.t rfl)) ?_
  refine R_op rfl rfl rfl (op_move (Has.t rfl)) ?_
  refine R_op rfl rfl rfl (op_idx Tryz.runUnderlying30 Tryz.sizeOf49 (Has.t rfl) (Has.t rfl) rfl (map_get (getD_some (d := Qi.zero) (by omega)))) ?_
  refine R_op rfl rfl rfl (op_ld Tryz.isAgg49 Tryz.sizeOf49 (Has.t rfl)) ?_
  refine R_stA Tryz.sizeOf49 (Has.t rfl) (Has.t rfl) rfl (i := 0) rfl (Nat.le_of_ble_eq_true rfl) rfl rfl ?_
  refine R_nil ?_
  exact T_ret1 rfl (rv_cell Tryz.isAgg49 Tryz.sizeOf49 rfl (i := 0) rfl rfl)
set_option maxRecDepth 20000 in
theorem c_netNew {z : List Qi} {s : List (List Qi)} {L : Nat} (hz : FitL z L) (h : L ≤ 8796093022208) (hl : z.length ≤ 1000) (hl2 : s.length ≤ 1000) : Fun Tryz.prog 29 [NumsT z, NumM s] (TupT [NetT (okL (netErr z s) z) (okL (netErr z s) s), IntT .i64 (netErr z s)]) := by
  refine Fun.intro Tryz.func29 rfl Tryz.ntmps29 rfl (fun cx => ?_)
  refine T_seq ?_
  refine T_region ?_
  refine R_new rfl rfl rfl (new_box1 (Has.t rfl)) (fun B3 => ?_)
  refine R_new rfl rfl rfl (new_alloc (Ts := [Is (.slice none 0 0), Is (.slice none 0 0)]) Tryz.zeroValue33 rfl (fun V => Cells.cons' ⟨rfl, trivial⟩ (Cells.cons' ⟨rfl, trivial⟩ (Cells.nil)))) (fun B4 => ?_)
  refine R_op rfl rfl rfl (op_assign (Has.cN 0)) ?_
  refine R_nil ?_
  refine T_seq ?_
  refine T_seq ?_
  refine T_freeze (i := 0) (tt := 3) rfl rfl frz_ptr1 ?_
  refine T_region ?_
  refine R_op rfl rfl rfl (op_move (Has.t rfl)) ?_
  refine R_op rfl rfl rfl (op_len Tryz.runUnderlying30 (Has.t rfl) len_map) ?_
  refine R_op rfl rfl rfl (op_lssN (Has.t rfl) (Has.cN 1)) ?_
  refine R_op rfl rfl rfl (op_move (Has.t rfl)) ?_
  refine R_step rfl rfl (S_when rfl rfl (Has.t rfl) (fun h => op_move (Has.t rfl))) ?_
  refine R_step rfl rfl (S_when rfl rfl (Has.t rfl) (fun h => op_len Tryz.runUnderlying30 (Has.w rfl h) len_map)) ?_
  refine R_step rfl rfl (S_when rfl rfl (Has.t rfl) (fun h => op_gtrN (Has.w rfl h) (Has.cN 8))) ?_
  refine R_op rfl rfl rfl (op_or (Has.t rfl) (fun h => (Has.w rfl h))) ?_
  refine R_op rfl rfl rfl (op_move (Has.t rfl)) ?_
  refine R_step rfl rfl (S_when rfl rfl (Has.t rfl) (fun h => op_ld Tryz.isAgg31 Tryz.sizeOf31 (Has.t rfl))) ?_
  refine R_step rfl rfl (S_when rfl rfl (Has.t rfl) (fun h => op_len Tryz.runUnderlying31 (Has.w rfl h) len_map)) ?_
  refine R_step rfl rfl (S_when rfl rfl (Has.t rfl) (fun h => op_move (Has.t rfl))) ?_
  refine R_step rfl rfl (S_when rfl rfl (Has.t rfl) (fun h => op_len Tryz.runUnderlying30 (Has.w rfl h) len_map)) ?_
  refine R_step rfl rfl (S_when rfl rfl (Has.t rfl) (fun h => op_neqN (Has.w rfl h) (Has.w rfl h))) ?_
  refine R_op rfl rfl rfl (op_or (Has.t rfl) (fun h => (Has.w rfl h))) ?_
  refine R_nil ?_
  refine T_cond (Has.t rfl) (fun hb => ?_) (fun hb => ?_)
  · have he := netErr_size hb
    refine T_seq ?_
    refine T_region ?_
    refine R_op rfl rfl rfl (OpTy.imp (bld_33_ ) net_nil) ?_
    refine R_stA Tryz.sizeOf33 (Has.t rfl) (Has.t rfl) rfl (i := 1) rfl (Nat.le_of_ble_eq_true rfl) rfl rfl ?_
    refine R_op rfl rfl rfl (op_assign (Has.cN 4)) ?_
    refine R_nil ?_
    refine T_ret2 rfl (rv_to (rv_cell Tryz.isAgg33 Tryz.sizeOf33 rfl (i := 1) rfl rfl) ?_) (rv_to (rv_tmp rfl) ?_)
    · exact (net_bad he (by decide))
    · exact (int_of he.symm)
  · refine T_skip ?_
    refine T_seq ?_
    refine T_seq ?_
    refine T_region ?_
    refine R_op rfl rfl rfl (op_ld Tryz.isAgg31 Tryz.sizeOf31 (Has.t rfl)) ?_
    refine R_op rfl rfl rfl (op_len Tryz.runUnderlying31 (Has.t rfl) len_map) ?_
    refine R_op rfl rfl rfl (op_move (Has.cN 0)) ?_
    refine R_nil ?_
    refine T_block ?_
    refine T_loop (fun (k : Nat) => k ≤ s.length ∧ ∀ (i : Nat) (r : List Qi), i < k → s[i]? = some r → r.length = z.length) (fun (k : Nat) => s.length - k) (fun (k : Nat) => [(0, NumsT z), (3, PT (NumM s)), (4, PtrB B4 0), (25, NumM s), (26, NT .i64 s.length), (27, NT .i64 k)]) (fun (k : Nat) => [SA.emp, box B4 33 [Is (.slice none 0 0), Is (.slice none 0 0)]]) 0 ⟨Nat.zero_le _, fun i r h => by omega⟩
      (Sub.cons rfl (Sub.cons rfl (Sub.cons rfl (Sub.cons rfl (Sub.cons rfl (Sub.cons rfl Sub.nil)))))) (HSub.refl _) (fun k ⟨hk, hr⟩ => ?_)
    refine T_seq ?_
    refine T_region ?_
    refine R_op rfl rfl rfl (op_lssN (Has.t rfl) (Has.t rfl)) ?_
    refine R_nil ?_
    refine T_seq ?_
    refine T_cond (Has.t rfl) (fun hc => ?_) (fun hc => ?_)
    · simp only [decide_eq_true_eq] at hc
      refine T_skip ?_
      refine T_seq ?_
      refine T_block ?_
      refine T_seq ?_
      refine T_region ?_
      refine R_op rfl rfl rfl (op_idx Tryz.runUnderlying31 Tryz.sizeOf30 (Has.t rfl) (Has.t rfl) rfl (map_get (getq hc))) ?_
      refine R_op rfl rfl rfl (op_ld Tryz.isAgg30 Tryz.sizeOf30 (Has.t rfl)) ?_
      refine R_op rfl rfl rfl (op_assign (Has.t rfl)) ?_
      refine R_nil ?_
      refine T_seq ?_
      refine T_region ?_
      refine R_op rfl rfl rfl (op_move (Has.t rfl)) ?_
      refine R_op rfl rfl rfl (op_len Tryz.runUnderlying30 (Has.t rfl) len_map) ?_
      refine R_op rfl rfl rfl (op_move (Has.t rfl)) ?_
      refine R_op rfl rfl rfl (op_len Tryz.runUnderlying30 (Has.t rfl) len_map) ?_
      refine R_op rfl rfl rfl (op_neqN (Has.t rfl) (Has.t rfl)) ?_
      refine R_nil ?_
      refine T_cond (Has.t rfl) (fun hd => ?_) (fun hd => ?_)
      · have hd2 : ¬ (s[k]).length = z.length := by simpa using hd
        have he := netErr_row (getq hc) hd2
        refine T_seq ?_
        refine T_region ?_
        refine R_op rfl rfl rfl (OpTy.imp (bld_33_ ) net_nil) ?_
        refine R_stA Tryz.sizeOf33 (Has.t rfl) (Has.t rfl) rfl (i := 1) rfl (Nat.le_of_ble_eq_true rfl) rfl rfl ?_
        refine R_op rfl rfl rfl (op_assign (Has.cN 4)) ?_
        refine R_nil ?_
        refine T_ret2 rfl (rv_to (rv_cell Tryz.isAgg33 Tryz.sizeOf33 rfl (i := 1) rfl rfl) ?_) (rv_to (rv_tmp rfl) ?_)
        · exact (net_bad he (by decide))
        · exact (int_of he.symm)
      · have hd2 : (s[k]).length = z.length := by simpa using hd
        refine T_skip ?_
        refine T_blk ?_
        refine T_region ?_
        refine R_op rfl rfl rfl (op_addN (Has.t rfl) (Has.cN 1) (by show _ < 9223372036854775808; first | omega | (simp only [lim]; omega))) ?_
        refine R_op rfl rfl rfl (op_move (Has.t rfl)) ?_
        refine R_nil ?_
        refine T_again (k + 1) ⟨hc, fun i r h1 h2 => by
            by_cases e : i = k
            · subst e; rw [getq hc] at h2; obtain rfl := Option.some.inj h2; exact hd2
            · exact hr i r (by omega) h2⟩ (by omega) (Sub.cons rfl (Sub.cons rfl (Sub.cons rfl (Sub.cons rfl (Sub.cons rfl (Sub.cons rfl Sub.nil)))))) (HSub.refl _)
    · simp only [decide_eq_false_iff_not] at hc
      have hall : ∀ (i : Nat) (r : List Qi), s[i]? = some r → r.length = z.length := fun i r h => hr i r (by have := (List.getElem?_eq_some_iff.1 h).1; omega) h
      have hpos := netErr_pos hb hall
      refine T_exit rfl ?_
      refine T_seq ?_
      refine T_seq ?_
      refine T_region ?_
      refine R_op rfl rfl rfl (op_move (Has.t rfl)) ?_
      refine R_op rfl rfl rfl (op_call Tryz.call103 (c_positives hz h (by omega)) ⟨(Has.t rfl), trivial⟩) ?_
      refine R_op rfl rfl rfl (op_assign (Has.t rfl)) ?_
      refine R_nil ?_
      refine T_seq ?_
      refine T_region ?_
      refine R_op rfl rfl rfl (op_move (Has.t rfl)) ?_
      refine R_op rfl rfl rfl (op_neq (Has.t rfl) Has.c) ?_
      refine R_nil ?_
      refine T_cond (Has.t rfl) (fun hd => ?_) (fun hd => ?_)
      · have hd2 : ¬ (if z.all posQ = true then (0 : Int) else 1) = 0 := by simpa using hd
        refine T_seq ?_
        refine T_region ?_
        refine R_op rfl rfl rfl (OpTy.imp (bld_33_ ) net_nil) ?_
        refine R_op rfl rfl rfl (op_move (Has.t rfl)) ?_
        refine R_stA Tryz.sizeOf33 (Has.t rfl) (Has.t rfl) rfl (i := 1) rfl (Nat.le_of_ble_eq_true rfl) rfl rfl ?_
        refine R_op rfl rfl rfl (op_assign (Has.t rfl)) ?_
        refine R_nil ?_
        refine T_ret2 rfl (rv_to (rv_cell Tryz.isAgg33 Tryz.sizeOf33 rfl (i := 1) rfl rfl) ?_) (rv_to (rv_tmp rfl) ?_)
        · exact (net_bad hpos hd2)
        · exact (int_of hpos.symm)
      · have hd2 : (if z.all posQ = true then (0 : Int) else 1) = 0 := by simpa using hd
        have he := hpos.trans hd2
        obtain ⟨h1, h2, hsh, _⟩ := netErr_ok he
        refine T_skip ?_
        refine T_seq ?_
        refine T_region ?_
        refine R_op rfl rfl rfl (op_move (Has.t rfl)) ?_
        refine R_op rfl rfl rfl (op_call Tryz.call104 (c_Clone (by omega)) ⟨(Has.t rfl), trivial⟩) ?_
        refine R_op rfl rfl rfl (op_move (Has.t rfl)) ?_
        refine R_op rfl rfl rfl (op_len Tryz.runUnderlying30 (Has.t rfl) len_map) ?_
        refine R_op rfl rfl rfl (op_clos (γ := Fin z.length × Fin z.length) (Ts := fun x => [NT .i64 x.1.1, NT .i64 x.2.1]) (U := fun x => NumT (gm s x.1.1 x.2.1)) Tryz.call106 (fun x => c_New1 hsh x.1.2 x.2.2) ⟨(Has.t rfl), trivial⟩) ?_
        refine R_op rfl rfl rfl (op_call Tryz.call105 (Fun.imp (c_fill (n := z.length) (f := gm s) (by omega)) (slT_of (by rw [← mat_tab hsh]))) ⟨(Has.t rfl), (Has.t rfl), trivial⟩) ?_
        refine R_op rfl rfl rfl (bld_33_0_1 (Has.t rfl) (Has.t rfl)) ?_
        refine R_stA Tryz.sizeOf33 (Has.t rfl) (Has.t rfl) rfl (i := 1) rfl (Nat.le_of_ble_eq_true rfl) rfl rfl ?_
        refine R_op rfl rfl rfl (op_assign (Has.cN 0)) ?_
        refine R_nil ?_
        refine T_ret2 rfl (rv_to (rv_cell Tryz.isAgg33 Tryz.sizeOf33 rfl (i := 1) rfl rfl) ?_) (rv_to (rv_tmp rfl) ?_)
        · exact (net_good he)
        · exact (int_of he.symm)
set_option maxRecDepth 20000 in
theorem c_Ports {z : List Qi} {s : List (List Qi)} : Fun Tryz.prog 74 [NetT z s] (NT .i64 z.length) := by
  refine Fun.intro Tryz.func74 rfl Tryz.ntmps74 rfl (fun cx => ?_)
  refine T_seq ?_
  refine T_region ?_
  refine R_new rfl rfl rfl (new_box (Has.t rfl)) (fun B1 => ?_)
  refine R_op rfl rfl rfl (op_assign (Has.cN 0)) ?_
  refine R_nil ?_
  refine T_seq ?_
  refine T_region ?_
  refine R_op rfl rfl rfl (op_fldB fa_33_0 (Has.t rfl) rfl) ?_
  refine R_op rfl rfl rfl (op_ldB Tryz.isAgg30 Tryz.sizeOf30 (Has.t rfl) (i := 0) rfl rfl) ?_
  refine R_op rfl rfl rfl (op_len Tryz.runUnderlying30 (Has.t rfl) len_map) ?_
  refine R_op rfl rfl rfl (op_assign (Has.t rfl)) ?_
  refine R_nil ?_
  exact T_ret1 rfl (rv_tmp rfl)
set_option maxRecDepth 20000 in
theorem c_has {z : List Qi} {s : List (List Qi)} {i : Int} : Fun Tryz.prog 137 [NetT z s, IntT .i64 i] (BoolT (decide (1 ≤ i ∧ i ≤ z.length))) := by
  refine Fun.intro Tryz.func137 rfl Tryz.ntmps137 rfl (fun cx => ?_)
  refine T_seq ?_
  refine T_region ?_
  refine R_new rfl rfl rfl (new_box (Has.t rfl)) (fun B2 => ?_)
  refine R_op rfl rfl rfl (op_assign Has.c) ?_
  refine R_nil ?_
  refine T_seq ?_
  refine T_region ?_
  refine R_op rfl rfl rfl (op_move (Has.t rfl)) ?_
  refine R_op rfl rfl rfl (op_geq (Has.t rfl) Has.c) ?_
  refine R_op rfl rfl rfl (op_move (Has.t rfl)) ?_
  refine R_step rfl rfl (S_when rfl rfl (Has.t rfl) (fun h => op_move (Has.t rfl))) ?_
  refine R_step rfl rfl (S_when rfl rfl (Has.t rfl) (fun h => op_fldB fa_33_0 (Has.t rfl) rfl)) ?_
  refine R_step rfl rfl (S_when rfl rfl (Has.t rfl) (fun h => op_ldB Tryz.isAgg30 Tryz.sizeOf30 (Has.w rfl h) (i := 0) rfl rfl)) ?_
  refine R_step rfl rfl (S_when rfl rfl (Has.t rfl) (fun h => op_len Tryz.runUnderlying30 (Has.w rfl h) len_map)) ?_
  refine R_step rfl rfl (S_when rfl rfl (Has.t rfl) (fun h => op_leq (Has.w rfl h) (Has.w rfl h))) ?_
  refine R_op rfl rfl rfl (op_and (Has.t rfl) (fun h => (Has.w rfl h))) ?_
  refine R_op rfl rfl rfl (op_assign (Has.t rfl)) ?_
  refine R_nil ?_
  refine T_ret1 rfl (rv_to (rv_tmp rfl) ?_)
  exact (bool_of (by rw [Bool.eq_iff_iff]; simp))
end Go.Proofs.YtppibhcfaahgpaaGreat
namespace Go.Proofs.YtppibhcfaahgpaaGreat
open Go Go.RowKit
theorem fa_33_1 (a : Addr) (w : World) : (Instr.fieldAt 33 (.pointer (some a)) 1).run Tryz.prog w = .ok (.pointer (some (a.add 1))) w := by
  simp [Instr.fieldAt, Instr.sureAddr, fieldPlace, Sem.run_bind, Result.andThen, Tryz.runUnderlying33, Tryz.sizeOf31]
end Go.Proofs.YtppibhcfaahgpaaGreat
namespace Go.Proofs.YtppibhcfaahgpaaGreat
open Go Go.RowKit
set_option maxRecDepth 20000 in
theorem c_Ref {z : List Qi} {s : List (List Qi)} {i : Int} (hl : z.length ≤ 1000) : Fun Tryz.prog 71 [NetT z s, IntT .i64 i] (TupT [NumT (pkv z i), IntT .i64 (if 1 ≤ i ∧ i ≤ z.length then 0 else 1)]) := by
  refine Fun.intro Tryz.func71 rfl Tryz.ntmps71 rfl (fun cx => ?_)
  refine T_seq ?_
  refine T_region ?_
  refine R_new rfl rfl rfl (new_box (Has.t rfl)) (fun B2 => ?_)
  refine R_new rfl rfl rfl (new_alloc (Ts := [Is (.bool false), Is (.slice none 0 0), Is (.bool false), Is (.slice none 0 0), Is (.slice none 0 0)]) Tryz.zeroValue49 rfl (fun V => Cells.cons' ⟨rfl, trivial⟩ (Cells.cons' ⟨rfl, trivial⟩ (Cells.cons' ⟨rfl, trivial⟩ (Cells.cons' ⟨rfl, trivial⟩ (Cells.cons' ⟨rfl, trivial⟩ (Cells.nil))))))) (fun B4 => ?_)
  refine R_op rfl rfl rfl (op_assign (Has.cN 0)) ?_
  refine R_nil ?_
  refine T_seq ?_
  refine T_seq ?_
  refine T_region ?_
  refine R_op rfl rfl rfl (op_ldBA Tryz.isAgg33 Tryz.sizeOf33 (Has.t rfl) (i := 0) rfl rfl rfl) ?_
  refine R_op rfl rfl rfl (op_move (Has.t rfl)) ?_
  refine R_op rfl rfl rfl (op_call Tryz.call137 c_has ⟨(Has.t rfl), (Has.t rfl), trivial⟩) ?_
  refine R_op rfl rfl rfl (op_not (Has.t rfl)) ?_
  refine R_nil ?_
  refine T_cond (Has.t rfl) (fun hb => ?_) (fun hb => ?_)
  · have hn : ¬ (1 ≤ i ∧ i ≤ (z.length : Int)) := by simpa only [Bool.not_eq_true', decide_eq_false_iff_not] using hb
    refine T_seq ?_
    refine T_region ?_
    refine R_op rfl rfl rfl (OpTy.imp (bld_49_ ) num_zero) ?_
    refine R_stA Tryz.sizeOf49 (Has.t rfl) (Has.t rfl) rfl (i := 1) rfl (Nat.le_of_ble_eq_true rfl) rfl rfl ?_
    refine R_op rfl rfl rfl (op_assign (Has.cN 1)) ?_
    refine R_nil ?_
    refine T_ret2 rfl (rv_to (rv_cell Tryz.isAgg49 Tryz.sizeOf49 rfl (i := 1) rfl rfl) ?_) (rv_to (rv_tmp rfl) ?_)
    · exact (num_of (by rw [pkv, if_neg hn]))
    · exact (int_of (by rw [if_neg hn]; rfl))
  · have hp : 1 ≤ i ∧ i ≤ (z.length : Int) := by simpa only [Bool.not_eq_false', decide_eq_true_eq] using hb
    have hq : (i - 1).toNat < z.length := by omega
    refine T_skip ?_
    refine T_seq ?_
    refine T_region ?_
    refine R_op rfl rfl rfl (op_fldB fa_33_0 (Has.t rfl) rfl) ?_
    refine R_op rfl rfl rfl (op_ldB Tryz.isAgg30 Tryz.sizeOf30 (Has.t rfl) (i := 0) rfl rfl) ?_
    refine R_op rfl rfl rfl (op_move (Has.t rfl)) ?_
    refine R_op rfl rfl rfl (op_sub (Has.t rfl) Has.c (w64 (by omega))) ?_
    refine R_op rfl rfl rfl (op_idx Tryz.runUnderlying30 Tryz.sizeOf49 (Has.t rfl) (Has.t rfl) (by omega : i - 1 = (((i - 1).toNat : Nat) : Int)) (map_get (getD_some (d := Qi.zero) hq))) ?_
    refine R_op rfl rfl rfl (op_ld Tryz.isAgg49 Tryz.sizeOf49 (Has.t rfl)) ?_
    refine R_stA Tryz.sizeOf49 (Has.t rfl) (Has.t rfl) rfl (i := 1) rfl (Nat.le_of_ble_eq_true rfl) rfl rfl ?_
    refine R_op rfl rfl rfl (op_assign (Has.cN 0)) ?_
    refine R_nil ?_
    refine T_ret2 rfl (rv_to (rv_cell Tryz.isAgg49 Tryz.sizeOf49 rfl (i := 1) rfl rfl) ?_) (rv_to (rv_tmp rfl) ?_)
    · exact (num_of (by rw [pkv, if_pos hp]))
    · exact (int_of (by rw [if_pos hp]; rfl))
set_option maxRecDepth 20000 in
theorem c_At {z : List Qi} {s : List (List Qi)} {i j : Int} (hs : Shp s z.length z.length) (hl : z.length ≤ 1000) : Fun Tryz.prog 72 [NetT z s, IntT .i64 i, IntT .i64 j] (TupT [NumT (pkm z.length s i j), IntT .i64 (if (1 ≤ i ∧ i ≤ z.length) ∧ 1 ≤ j ∧ j ≤ z.length then 0 else 1)]) := by
  have hs1 := hs.1
  refine Fun.intro Tryz.func72 rfl Tryz.ntmps72 rfl (fun cx => ?_)
  refine T_seq ?_
  refine T_region ?_
  refine R_new rfl rfl rfl (new_box (Has.t rfl)) (fun B3 => ?_)
  refine R_new rfl rfl rfl (new_alloc (Ts := [Is (.bool false), Is (.slice none 0 0), Is (.bool false), Is (.slice none 0 0), Is (.slice none 0 0)]) Tryz.zeroValue49 rfl (fun V => Cells.cons' ⟨rfl, trivial⟩ (Cells.cons' ⟨rfl, trivial⟩ (Cells.cons' ⟨rfl, trivial⟩ (Cells.cons' ⟨rfl, trivial⟩ (Cells.cons' ⟨rfl, trivial⟩ (Cells.nil))))))) (fun B6 => ?_)
  refine R_op rfl rfl rfl (op_assign (Has.cN 0)) ?_
  refine R_nil ?_
  refine T_seq ?_
  refine T_seq ?_
  refine T_region ?_
  refine R_op rfl rfl rfl (op_ldBA Tryz.isAgg33 Tryz.sizeOf33 (Has.t rfl) (i := 0) rfl rfl rfl) ?_
  refine R_op rfl rfl rfl (op_move (Has.t rfl)) ?_
  refine R_op rfl rfl rfl (op_call Tryz.call137 c_has ⟨(Has.t rfl), (Has.t rfl), trivial⟩) ?_
  refine R_op rfl rfl rfl (op_not (Has.t rfl)) ?_
  refine R_op rfl rfl rfl (op_move (Has.t rfl)) ?_
  refine R_step rfl rfl (S_when rfl rfl (Has.t rfl) (fun h => op_ldBA Tryz.isAgg33 Tryz.sizeOf33 (Has.t rfl) (i := 0) rfl rfl rfl)) ?_
  refine R_step rfl rfl (S_when rfl rfl (Has.t rfl) (fun h => op_move (Has.t rfl))) ?_
  refine R_step rfl rfl (S_when rfl rfl (Has.t rfl) (fun h => op_call Tryz.call137 c_has ⟨(Has.w rfl h), (Has.w rfl h), trivial⟩)) ?_
  refine R_step rfl rfl (S_when rfl rfl (Has.t rfl) (fun h => op_not (Has.w rfl h))) ?_
  refine R_op rfl rfl rfl (op_or (Has.t rfl) (fun h => (Has.w rfl h))) ?_
  refine R_nil ?_
  refine T_cond (Has.t rfl) (fun hb => ?_) (fun hb => ?_)
  · have hn : ¬ ((1 ≤ i ∧ i ≤ (z.length : Int)) ∧ 1 ≤ j ∧ j ≤ (z.length : Int)) := by simp only [Bool.or_eq_true, Bool.not_eq_true', decide_eq_false_iff_not] at hb; exact fun k => hb.elim (fun h => h k.1) (fun h => h k.2)
    refine T_seq ?_
    refine T_region ?_
    refine R_new rfl rfl rfl (new_alloc (Ts := [Is (.bool false), Is (.slice none 0 0), Is (.bool false), Is (.slice none 0 0), Is (.slice none 0 0)]) Tryz.zeroValue49 rfl (fun V => Cells.cons' ⟨rfl, trivial⟩ (Cells.cons' ⟨rfl, trivial⟩ (Cells.cons' ⟨rfl, trivial⟩ (Cells.cons' ⟨rfl, trivial⟩ (Cells.cons' ⟨rfl, trivial⟩ (Cells.nil))))))) (fun B8 => ?_)
    refine R_nil ?_
    refine T_seq ?_
    refine T_region ?_
    refine R_op rfl rfl rfl (op_ldBA Tryz.isAgg49 Tryz.sizeOf49 (Has.t rfl) (i := 2) rfl rfl rfl) ?_
    refine R_stA Tryz.sizeOf49 (Has.t rfl) (Has.t rfl) rfl (i := 1) rfl (Nat.le_of_ble_eq_true rfl) rfl rfl ?_
    refine R_op rfl rfl rfl (op_assign (Has.cN 1)) ?_
    refine R_nil ?_
    refine T_ret2 rfl (rv_to (rv_cell Tryz.isAgg49 Tryz.sizeOf49 rfl (i := 1) rfl rfl) ?_) (rv_to (rv_tmp rfl) ?_)
    · exact (fun v V k => by rw [pkm, if_neg hn]; exact num_zero v V k)
    · exact (int_of (by rw [if_neg hn]; rfl))
  · have hp : (1 ≤ i ∧ i ≤ (z.length : Int)) ∧ 1 ≤ j ∧ j ≤ (z.length : Int) := by simpa only [Bool.or_eq_false_iff, Bool.not_eq_false', decide_eq_true_eq] using hb
    have hq : (i - 1).toNat < s.length := by omega
    have hq2 : (j - 1).toNat < (s.getD (i - 1).toNat []).length := by rw [hs.row (by omega)]; omega
    refine T_skip ?_
    refine T_seq ?_
    refine T_region ?_
    refine R_op rfl rfl rfl (op_fldB fa_33_1 (Has.t rfl) rfl) ?_
    refine R_op rfl rfl rfl (op_ldB Tryz.isAgg31 Tryz.sizeOf31 (Has.t rfl) (i := 0) rfl rfl) ?_
    refine R_op rfl rfl rfl (op_move (Has.t rfl)) ?_
    refine R_op rfl rfl rfl (op_sub (Has.t rfl) Has.c (w64 (by omega))) ?_
    refine R_op rfl rfl rfl (op_idx Tryz.runUnderlying31 Tryz.sizeOf30 (Has.t rfl) (Has.t rfl) (by omega : i - 1 = (((i - 1).toNat : Nat) : Int)) (map_get (getD_some (d := []) hq))) ?_
    refine R_op rfl rfl rfl (op_ld Tryz.isAgg30 Tryz.sizeOf30 (Has.t rfl)) ?_
    refine R_op rfl rfl rfl (op_move (Has.t rfl)) ?_
    refine R_op rfl rfl rfl (op_sub (Has.t rfl) Has.c (w64 (by omega))) ?_
    refine R_op rfl rfl rfl (op_idx Tryz.runUnderlying30 Tryz.sizeOf49 (Has.t rfl) (Has.t rfl) (by omega : j - 1 = (((j - 1).toNat : Nat) : Int)) (map_get (getD_some (d := Qi.zero) hq2))) ?_
    refine R_op rfl rfl rfl (op_ld Tryz.isAgg49 Tryz.sizeOf49 (Has.t rfl)) ?_
    refine R_stA Tryz.sizeOf49 (Has.t rfl) (Has.t rfl) rfl (i := 1) rfl (Nat.le_of_ble_eq_true rfl) rfl rfl ?_
    refine R_op rfl rfl rfl (op_assign (Has.cN 0)) ?_
    refine R_nil ?_
    refine T_ret2 rfl (rv_to (rv_cell Tryz.isAgg49 Tryz.sizeOf49 rfl (i := 1) rfl rfl) ?_) (rv_to (rv_tmp rfl) ?_)
    · exact (num_of (by rw [pkm, if_pos hp]))
    · exact (int_of (by rw [if_pos hp]; rfl))
end Go.Proofs.YtppibhcfaahgpaaGreat
namespace Go.Proofs.YtppibhcfaahgpaaGreat
open Go Go.RowKit
theorem info_36 : Tryz.prog.info? 36 = some Tryz.t36 := by kernel_rfl
theorem info_57 : Tryz.prog.info? 57 = some Tryz.t57 := by kernel_rfl
theorem und_31 : Tryz.prog.underlying 31 = some (.slice 30) := by kernel_rfl
theorem und_36 : Tryz.prog.underlying 36 = some (.slice 57) := by kernel_rfl
theorem und_37 : Tryz.prog.underlying 37 = some (.slice 36) := by kernel_rfl
end Go.Proofs.YtppibhcfaahgpaaGreat
namespace Go.Proofs.YtppibhcfaahgpaaGreat
open Go Go.RowKit
set_option maxRecDepth 20000 in
theorem c_lawRows {m : List (List Rt)} (hm : m.length ≤ 1000) (hr : ∀ r, r ∈ m → r.length ≤ 1000) : Fun Tryz.prog 31 [RatM m] (NumM (rq m)) := by
  refine Fun.intro Tryz.func31 rfl Tryz.ntmps31 rfl (fun cx => ?_)
  refine T_seq ?_
  refine T_region ?_
  refine R_op rfl rfl rfl (op_assign Has.c) ?_
  refine R_nil ?_
  refine T_seq ?_
  refine T_region ?_
  refine R_op rfl rfl rfl (op_move (Has.t rfl)) ?_
  refine R_op rfl rfl rfl (op_len Tryz.runUnderlying23 (Has.t rfl) len_map) ?_
  refine R_new rfl rfl rfl (new_makeO (T := NumsT []) (i := Tryz.t30) und_31 info_30 rfl rfl (Has.t rfl) rfl nums_zero_p El.one (by show 24 * _ ≤ _; omega) (by omega)) (fun B8 => ?_)
  refine R_op rfl rfl rfl (op_assign (Has.t rfl)) ?_
  refine R_nil ?_
  refine T_seq ?_
  refine T_seq ?_
  refine T_region ?_
  refine R_op rfl rfl rfl (op_move (Has.t rfl)) ?_
  refine R_op rfl rfl rfl (op_len Tryz.runUnderlying23 (Has.t rfl) len_map) ?_
  refine R_op rfl rfl rfl (op_move (Has.cN 0)) ?_
  refine R_nil ?_
  refine T_block ?_
  refine T_loop2 (fun (k : Nat) (out : List (List Qi)) => FillS (fun i => (m.getD i default).map Rt.q) m.length out k) (fun (k : Nat) (out : List (List Qi)) => m.length - k) (fun (k : Nat) (out : List (List Qi)) => [(3, Is B8), (9, RatM m), (10, NT .i64 m.length), (11, NT .i64 k)]) (fun (k : Nat) (out : List (List Qi)) => [rowO 30 1 B8 (out.map NumsT)]) 0 (List.replicate m.length []) (FillS.start _ _ _)
    (Sub.cons rfl (Sub.cons rfl (Sub.cons rfl (Sub.cons rfl Sub.nil)))) (HSub.cons (rowO_of (rep_mapF NumsT _ _)) HSub.nil) (fun k out hS => ?_)
  refine T_seq ?_
  refine T_region ?_
  refine R_op rfl rfl rfl (op_lssN (Has.t rfl) (Has.t rfl)) ?_
  refine R_nil ?_
  refine T_seq ?_
  refine T_cond (Has.t rfl) (fun hk => ?_) (fun hk => ?_)
  · simp only [decide_eq_true_eq] at hk
    have hlen := hS.len
    have hrk : (m.getD k default).length ≤ 1000 := by
      have e : m.getD k default = m[k] := by simp [List.getD, hk]
      rw [e]; exact hr _ (List.getElem_mem hk)
    refine T_skip ?_
    refine T_seq ?_
    refine T_block ?_
    refine T_seq ?_
    refine T_region ?_
    refine R_op rfl rfl rfl (op_move (Has.t rfl)) ?_
    refine R_op rfl rfl rfl (op_idx Tryz.runUnderlying23 Tryz.sizeOf22 (Has.t rfl) (Has.t rfl) rfl (map_get (getD_some (d := default) hk))) ?_
    refine R_op rfl rfl rfl (op_ld Tryz.isAgg22 Tryz.sizeOf22 (Has.t rfl)) ?_
    refine R_op rfl rfl rfl (op_assign (Has.t rfl)) ?_
    refine R_op rfl rfl rfl (op_assign (Has.t rfl)) ?_
    refine R_nil ?_
    refine T_region ?_
    refine R_op rfl rfl rfl (op_move (Has.t rfl)) ?_
    refine R_op rfl rfl rfl (op_move (Has.t rfl)) ?_
    refine R_op rfl rfl rfl (op_move (Has.t rfl)) ?_
    refine R_op rfl rfl rfl (op_call Tryz.call30 (c_lawList (by omega)) ⟨(Has.t rfl), trivial⟩) ?_
    refine R_op rfl rfl rfl (op_idxO Tryz.runUnderlying31 Tryz.sizeOf30 (Has.t rfl) (Has.t rfl) rfl (i := 0) rfl (by first | omega | (simp; omega)) rfl) ?_
    refine R_stO Tryz.sizeOf30 (Has.t rfl) (Has.t rfl) El.one (i := 0) rfl rfl (by first | omega | (simp; omega)) rfl ?_
    refine R_nil ?_
    refine T_blk ?_
    refine T_region ?_
    refine R_op rfl rfl rfl (op_addN (Has.t rfl) (Has.cN 1) (by show _ < 9223372036854775808; first | omega | (simp only [lim]; omega))) ?_
    refine R_op rfl rfl rfl (op_move (Has.t rfl)) ?_
    refine R_nil ?_
    refine T_again (k + 1, _) (hS.next hk rfl) (by dsimp only; omega) (Sub.cons rfl (Sub.cons rfl (Sub.cons rfl (Sub.cons rfl Sub.nil)))) (HSub.cons (rowO_of (set_mapF NumsT _ _ _)) HSub.nil)
  · simp only [decide_eq_false_iff_not] at hk
    obtain rfl : k = m.length := Nat.le_antisymm hS.kle (by omega)
    have hfin := hS.fin
    rw [tab_list m (fun r => r.map Rt.q)] at hfin
    refine T_exit rfl ?_
    refine T_freeze (i := 0) (tt := 3) rfl rfl frz_row ?_
    refine T_seq ?_
    refine T_region ?_
    refine R_op rfl rfl rfl (op_move (Has.t rfl)) ?_
    refine R_op rfl rfl rfl (op_assign (Has.t rfl)) ?_
    refine R_nil ?_
    refine T_ret1 rfl (rv_to (rv_tmp rfl) ?_)
    exact (slT_of (by rw [hfin]))
end Go.Proofs.YtppibhcfaahgpaaGreat
namespace Go.Proofs.YtppibhcfaahgpaaGreat
open Go Go.RowKit
theorem bld_39_ {n : Nat} {E : Env} {H : Hp} {d : Option Tmp} {t : TypeId} {pos : String} {af : Array Edge} {g : Option (Nat × Bool)}  :
    OpTy Tryz.prog n E H ⟨d, .build 39 #[], t, pos, af, g⟩ (AggT [Is (.slice none 0 0), Is (.slice none 0 0)]) :=
  op_build (parts := []) fun a V w hs => by
    refine ⟨.agg #[(.slice none 0 0), (.slice none 0 0)], ?_, [(.slice none 0 0), (.slice none 0 0)], rfl, Cells.cons' (⟨rfl, trivial⟩) (Cells.cons' (⟨rfl, trivial⟩) (Cells.nil))⟩
    simp [Instr.build, Instr.fill, Sem.run_bind, Result.andThen, cells_agg, Tryz.zeroValue39, Tryz.runUnderlying39, Tryz.sizeOf36, Tryz.sizeOf37]
theorem bld_39_0_1 {n : Nat} {E : Env} {H : Hp} {d : Option Tmp} {t : TypeId} {pos : String} {af : Array Edge} {g : Option (Nat × Bool)} {x0 x1 : Operand} {T0 T1 : Ty} [s0 : Shape T0 1 false] (h0 : Has E x0 T0) [s1 : Shape T1 1 false] (h1 : Has E x1 T1) :
    OpTy Tryz.prog n E H ⟨d, .build 39 #[(0, x0), (1, x1)], t, pos, af, g⟩ (AggT [T0, T1]) :=
  op_build (parts := [(0, x0), (1, x1)]) fun a V w hs => by
    have p0 := h0 n V a hs
    generalize e0 : a.eval x0 = v0 at p0
    have q0 := (s0.ok v0 V p0).2.2 rfl
    have p1 := h1 n V a hs
    generalize e1 : a.eval x1 = v1 at p1
    have q1 := (s1.ok v1 V p1).2.2 rfl
    refine ⟨.agg #[v0, v1], ?_, [v0, v1], rfl, Cells.cons' (⟨p0, q0⟩) (Cells.cons' (⟨p1, q1⟩) (Cells.nil))⟩
    simp [e0, e1, Instr.build, Instr.fill, Sem.run_bind, Result.andThen, cells_agg, q0.cells, q1.cells, Tryz.zeroValue39, Tryz.runUnderlying39, Tryz.sizeOf36, Tryz.sizeOf37]
theorem fa_39_0 (a : Addr) (w : World) : (Instr.fieldAt 39 (.pointer (some a)) 0).run Tryz.prog w = .ok (.pointer (some (a.add 0))) w := by
  simp [Instr.fieldAt, Instr.sureAddr, fieldPlace, Sem.run_bind, Result.andThen, Tryz.runUnderlying39, Tryz.sizeOf36]
end Go.Proofs.YtppibhcfaahgpaaGreat
namespace Go.Proofs.YtppibhcfaahgpaaGreat
open Go Go.RowKit
set_option maxRecDepth 20000 in
theorem c_rPositive {x : Qi} {L : Nat} [hx : FitC x L] (h : L ≤ 17592186044415) : Fun Tryz.prog 113 [QT x] (BoolT (posQ x)) := by
  refine Fun.intro Tryz.func113 rfl Tryz.ntmps113 rfl (fun cx => ?_)
  refine T_seq ?_
  refine T_region ?_
  refine R_new rfl rfl rfl (new_box (Has.t rfl)) (fun B1 => ?_)
  refine R_op rfl rfl rfl (op_assign Has.c) ?_
  refine R_nil ?_
  refine T_seq ?_
  refine T_region ?_
  refine R_op rfl rfl rfl (op_ldBA Tryz.isAgg57 Tryz.sizeOf57 (Has.t rfl) (i := 0) rfl rfl rfl) ?_
  refine R_op rfl rfl rfl (op_call Tryz.call84 (c_rSide (by omega)) ⟨(Has.t rfl), trivial⟩) ?_
  refine R_op rfl rfl rfl (op_eql (Has.t rfl) Has.c) ?_
  refine R_op rfl rfl rfl (op_move (Has.t rfl)) ?_
  refine R_step rfl rfl (S_when rfl rfl (Has.t rfl) (fun h => op_ldBA Tryz.isAgg57 Tryz.sizeOf57 (Has.t rfl) (i := 0) rfl rfl rfl)) ?_
  refine R_step rfl rfl (S_when rfl rfl (Has.t rfl) (fun h => op_call Tryz.call85 c_rSign ⟨(Has.w rfl h), trivial⟩)) ?_
  refine R_step rfl rfl (S_when rfl rfl (Has.t rfl) (fun h => op_gtr (Has.w rfl h) Has.c)) ?_
  refine R_op rfl rfl rfl (op_and (Has.t rfl) (fun h => (Has.w rfl h))) ?_
  refine R_op rfl rfl rfl (op_assign (Has.t rfl)) ?_
  refine R_nil ?_
  refine T_ret1 rfl (rv_to (rv_tmp rfl) ?_)
  exact (bool_of (rpos_eq x))
set_option maxRecDepth 20000 in
theorem c_shaped {z : List Qi} {s : List (List Qi)} (hz : z.length ≤ 100000) (hs : s.length ≤ 100000) : Fun Tryz.prog 146 [QsT z, QM s] (BoolT (shpB z s)) := by
  refine Fun.intro Tryz.func146 rfl Tryz.ntmps146 rfl (fun cx => ?_)
  refine T_seq ?_
  refine T_region ?_
  refine R_op rfl rfl rfl (op_assign Has.c) ?_
  refine R_nil ?_
  refine T_seq ?_
  refine T_seq ?_
  refine T_region ?_
  refine R_op rfl rfl rfl (op_move (Has.t rfl)) ?_
  refine R_op rfl rfl rfl (op_len Tryz.runUnderlying36 (Has.t rfl) len_map) ?_
  refine R_op rfl rfl rfl (op_lssN (Has.t rfl) (Has.cN 1)) ?_
  refine R_op rfl rfl rfl (op_move (Has.t rfl)) ?_
  refine R_step rfl rfl (S_when rfl rfl (Has.t rfl) (fun h => op_move (Has.t rfl))) ?_
  refine R_step rfl rfl (S_when rfl rfl (Has.t rfl) (fun h => op_len Tryz.runUnderlying36 (Has.w rfl h) len_map)) ?_
  refine R_step rfl rfl (S_when rfl rfl (Has.t rfl) (fun h => op_gtrN (Has.w rfl h) (Has.cN 8))) ?_
  refine R_op rfl rfl rfl (op_or (Has.t rfl) (fun h => (Has.w rfl h))) ?_
  refine R_op rfl rfl rfl (op_move (Has.t rfl)) ?_
  refine R_step rfl rfl (S_when rfl rfl (Has.t rfl) (fun h => op_move (Has.t rfl))) ?_
  refine R_step rfl rfl (S_when rfl rfl (Has.t rfl) (fun h => op_len Tryz.runUnderlying37 (Has.w rfl h) len_map)) ?_
  refine R_step rfl rfl (S_when rfl rfl (Has.t rfl) (fun h => op_move (Has.t rfl))) ?_
  refine R_step rfl rfl (S_when rfl rfl (Has.t rfl) (fun h => op_len Tryz.runUnderlying36 (Has.w rfl h) len_map)) ?_
  refine R_step rfl rfl (S_when rfl rfl (Has.t rfl) (fun h => op_neqN (Has.w rfl h) (Has.w rfl h))) ?_
  refine R_op rfl rfl rfl (op_or (Has.t rfl) (fun h => (Has.w rfl h))) ?_
  refine R_nil ?_
  refine T_cond (Has.t rfl) (fun hb => ?_) (fun hb => ?_)
  · refine T_seq ?_
    refine T_region ?_
    refine R_op rfl rfl rfl (op_assign Has.c) ?_
    refine R_nil ?_
    refine T_ret1 rfl (rv_to (rv_tmp rfl) ?_)
    exact (bool_of (by rw [shpB, hb]; rfl))
  · refine T_skip ?_
    refine T_seq ?_
    refine T_seq ?_
    refine T_region ?_
    refine R_op rfl rfl rfl (op_assign (Has.cN 0)) ?_
    refine R_nil ?_
    refine T_block ?_
    refine T_loop (fun (k : Nat) => k ≤ s.length ∧ ∀ (i : Nat) (r : List Qi), i < k → s[i]? = some r → r.length = z.length) (fun (k : Nat) => s.length - k) (fun (k : Nat) => [(0, QsT z), (1, QM s), (5, NT .i64 k)]) (fun (k : Nat) => []) 0 ⟨Nat.zero_le _, fun i r h => by omega⟩
      (Sub.cons rfl (Sub.cons rfl (Sub.cons rfl Sub.nil))) HSub.nil (fun k ⟨hk, hr⟩ => ?_)
    refine T_seq ?_
    refine T_seq ?_
    refine T_region ?_
    refine R_op rfl rfl rfl (op_move (Has.t rfl)) ?_
    refine R_op rfl rfl rfl (op_move (Has.t rfl)) ?_
    refine R_op rfl rfl rfl (op_len Tryz.runUnderlying37 (Has.t rfl) len_map) ?_
    refine R_op rfl rfl rfl (op_lssN (Has.t rfl) (Has.t rfl)) ?_
    refine R_nil ?_
    refine T_cond (Has.t rfl) (fun hc => ?_) (fun hc => ?_)
    · simp only [decide_eq_true_eq] at hc
      refine T_skip ?_
      refine T_seq ?_
      refine T_block ?_
      refine T_seq ?_
      refine T_region ?_
      refine R_op rfl rfl rfl (op_move (Has.t rfl)) ?_
      refine R_op rfl rfl rfl (op_move (Has.t rfl)) ?_
      refine R_op rfl rfl rfl (op_idx Tryz.runUnderlying37 Tryz.sizeOf36 (Has.t rfl) (Has.t rfl) rfl (map_get (getq hc))) ?_
      refine R_op rfl rfl rfl (op_ld Tryz.isAgg36 Tryz.sizeOf36 (Has.t rfl)) ?_
      refine R_op rfl rfl rfl (op_len Tryz.runUnderlying36 (Has.t rfl) len_map) ?_
      refine R_op rfl rfl rfl (op_move (Has.t rfl)) ?_
      refine R_op rfl rfl rfl (op_len Tryz.runUnderlying36 (Has.t rfl) len_map) ?_
      refine R_op rfl rfl rfl (op_neqN (Has.t rfl) (Has.t rfl)) ?_
      refine R_nil ?_
      refine T_cond (Has.t rfl) (fun hd => ?_) (fun hd => ?_)
      · have hd2 : ¬ (s[k]).length = z.length := by simpa using hd
        refine T_seq ?_
        refine T_region ?_
        refine R_op rfl rfl rfl (op_assign Has.c) ?_
        refine R_nil ?_
        refine T_ret1 rfl (rv_to (rv_tmp rfl) ?_)
        exact (bool_of (by rw [shpB, any_row (getq hc) hd2, Bool.or_true]; rfl))
      · have hd2 : (s[k]).length = z.length := by simpa using hd
        refine T_skip ?_
        refine T_blk ?_
        refine T_region ?_
        refine R_op rfl rfl rfl (op_move (Has.t rfl)) ?_
        refine R_op rfl rfl rfl (op_addN (Has.t rfl) (Has.cN 1) (by show _ < 9223372036854775808; first | omega | (simp only [lim]; omega))) ?_
        refine R_op rfl rfl rfl (op_assign (Has.t rfl)) ?_
        refine R_nil ?_
        refine T_again (k + 1) ⟨hc, fun i r h1 h2 => by
            by_cases e : i = k
            · subst e; rw [getq hc] at h2; obtain rfl := Option.some.inj h2; exact hd2
            · exact hr i r (by omega) h2⟩ (by omega) (Sub.cons rfl (Sub.cons rfl (Sub.cons rfl Sub.nil))) HSub.nil
    · simp only [decide_eq_false_iff_not] at hc
      have hall : ∀ (i : Nat) (r : List Qi), s[i]? = some r → r.length = z.length := fun i r h => hr i r (by have := (List.getElem?_eq_some_iff.1 h).1; omega) h
      refine T_exit rfl ?_
      refine T_seq ?_
      refine T_region ?_
      refine R_op rfl rfl rfl (op_assign Has.c) ?_
      refine R_nil ?_
      refine T_ret1 rfl (rv_to (rv_tmp rfl) ?_)
      exact (bool_of (by rw [shpB, any_none hall, hb]; rfl))
set_option maxRecDepth 20000 in
theorem c_allPositive {z : List Qi} {L : Nat} (hz : FitL z L) (h : L ≤ 17592186044415) (hl : z.length ≤ 100000) : Fun Tryz.prog 147 [QsT z] (BoolT (z.all posQ)) := by
  refine Fun.intro Tryz.func147 rfl Tryz.ntmps147 rfl (fun cx => ?_)
  refine T_seq ?_
  refine T_region ?_
  refine R_op rfl rfl rfl (op_assign Has.c) ?_
  refine R_nil ?_
  refine T_seq ?_
  refine T_seq ?_
  refine T_region ?_
  refine R_op rfl rfl rfl (op_assign (Has.cN 0)) ?_
  refine R_nil ?_
  refine T_block ?_
  refine T_loop (fun (k : Nat) => k ≤ z.length ∧ ∀ (i : Nat) (r : Qi), i < k → z[i]? = some r → posQ r = true) (fun (k : Nat) => z.length - k) (fun (k : Nat) => [(0, QsT z), (3, NT .i64 k)]) (fun (k : Nat) => []) 0 ⟨Nat.zero_le _, fun i r h => by omega⟩
    (Sub.cons rfl (Sub.cons rfl Sub.nil)) HSub.nil (fun k ⟨hk, hr⟩ => ?_)
  refine T_seq ?_
  refine T_seq ?_
  refine T_region ?_
  refine R_op rfl rfl rfl (op_move (Has.t rfl)) ?_
  refine R_op rfl rfl rfl (op_move (Has.t rfl)) ?_
  refine R_op rfl rfl rfl (op_len Tryz.runUnderlying36 (Has.t rfl) len_map) ?_
  refine R_op rfl rfl rfl (op_lssN (Has.t rfl) (Has.t rfl)) ?_
  refine R_nil ?_
  refine T_cond (Has.t rfl) (fun hc => ?_) (fun hc => ?_)
  · simp only [decide_eq_true_eq] at hc
    haveI hf : FitC z[k] L := hz _ (List.getElem_mem hc)
    refine T_skip ?_
    refine T_seq ?_
    refine T_block ?_
    refine T_seq ?_
    refine T_region ?_
    refine R_op rfl rfl rfl (op_move (Has.t rfl)) ?_
    refine R_op rfl rfl rfl (op_move (Has.t rfl)) ?_
    refine R_op rfl rfl rfl (op_idx Tryz.runUnderlying36 Tryz.sizeOf57 (Has.t rfl) (Has.t rfl) rfl (map_get (getq hc))) ?_
    refine R_op rfl rfl rfl (op_ld Tryz.isAgg57 Tryz.sizeOf57 (Has.t rfl)) ?_
    refine R_op rfl rfl rfl (op_call Tryz.call113 (c_rPositive (L := L) h) ⟨(Has.t rfl), trivial⟩) ?_
    refine R_op rfl rfl rfl (op_not (Has.t rfl)) ?_
    refine R_nil ?_
    refine T_cond (Has.t rfl) (fun hd => ?_) (fun hd => ?_)
    · have hd2 : posQ z[k] = false := by simpa using hd
      refine T_seq ?_
      refine T_region ?_
      refine R_op rfl rfl rfl (op_assign Has.c) ?_
      refine R_nil ?_
      refine T_ret1 rfl (rv_to (rv_tmp rfl) ?_)
      exact (bool_of (all_at (getq hc) hd2).symm)
    · have hd2 : posQ z[k] = true := by simpa using hd
      refine T_skip ?_
      refine T_blk ?_
      refine T_region ?_
      refine R_op rfl rfl rfl (op_move (Has.t rfl)) ?_
      refine R_op rfl rfl rfl (op_addN (Has.t rfl) (Has.cN 1) (by show _ < 9223372036854775808; first | omega | (simp only [lim]; omega))) ?_
      refine R_op rfl rfl rfl (op_assign (Has.t rfl)) ?_
      refine R_nil ?_
      refine T_again (k + 1) ⟨hc, fun i r h1 h2 => by
          by_cases e : i = k
          · subst e; rw [getq hc] at h2; obtain rfl := Option.some.inj h2; exact hd2
          · exact hr i r (by omega) h2⟩ (by omega) (Sub.cons rfl (Sub.cons rfl Sub.nil)) HSub.nil
  · simp only [decide_eq_false_iff_not] at hc
    have hall : ∀ (i : Nat) (r : Qi), z[i]? = some r → posQ r = true := fun i r h => hr i r (by have := (List.getElem?_eq_some_iff.1 h).1; omega) h
    refine T_exit rfl ?_
    refine T_seq ?_
    refine T_region ?_
    refine R_op rfl rfl rfl (op_assign Has.c) ?_
    refine R_nil ?_
    refine T_ret1 rfl (rv_to (rv_tmp rfl) ?_)
    exact (bool_of (all_all hall).symm)
set_option maxRecDepth 20000 in
theorem c_rnetNew {z : List Qi} {s : List (List Qi)} {L : Nat} (hz : FitL z L) (h : L ≤ 17592186044415) (hl : z.length ≤ 1000) (hl2 : s.length ≤ 1000) : Fun Tryz.prog 69 [QsT z, QM s] (TupT [RNetT (okL (netErr z s) z) (okL (netErr z s) s), IntT .i64 (netErr z s)]) := by
  refine Fun.intro Tryz.func69 rfl Tryz.ntmps69 rfl (fun cx => ?_)
  refine T_seq ?_
  refine T_region ?_
  refine R_new rfl rfl rfl (new_alloc (Ts := [Is (.slice none 0 0), Is (.slice none 0 0)]) Tryz.zeroValue39 rfl (fun V => Cells.cons' ⟨rfl, trivial⟩ (Cells.cons' ⟨rfl, trivial⟩ (Cells.nil)))) (fun B4 => ?_)
  refine R_op rfl rfl rfl (op_assign (Has.cN 0)) ?_
  refine R_nil ?_
  refine T_seq ?_
  refine T_seq ?_
  refine T_region ?_
  refine R_op rfl rfl rfl (op_move (Has.t rfl)) ?_
  refine R_op rfl rfl rfl (op_move (Has.t rfl)) ?_
  refine R_op rfl rfl rfl (op_call Tryz.call146 (c_shaped (by omega) (by omega)) ⟨(Has.t rfl), (Has.t rfl), trivial⟩) ?_
  refine R_op rfl rfl rfl (op_not (Has.t rfl)) ?_
  refine R_nil ?_
  refine T_cond (Has.t rfl) (fun hb => ?_) (fun hb => ?_)
  · have hb2 : ¬ shpB z s = true := by simpa using hb
    have he : netErr z s = 4 := by rw [netErr_if, if_neg hb2]
    refine T_seq ?_
    refine T_region ?_
    refine R_op rfl rfl rfl (OpTy.imp (bld_39_ ) rnet_nil) ?_
    refine R_stA Tryz.sizeOf39 (Has.t rfl) (Has.t rfl) rfl (i := 0) rfl (Nat.le_of_ble_eq_true rfl) rfl rfl ?_
    refine R_op rfl rfl rfl (op_assign (Has.cN 4)) ?_
    refine R_nil ?_
    refine T_ret2 rfl (rv_to (rv_cell Tryz.isAgg39 Tryz.sizeOf39 rfl (i := 0) rfl rfl) ?_) (rv_to (rv_tmp rfl) ?_)
    · exact (rnet_bad he (by decide))
    · exact (int_of he.symm)
  · have hb2 : shpB z s = true := by simpa using hb
    refine T_skip ?_
    refine T_seq ?_
    refine T_seq ?_
    refine T_region ?_
    refine R_op rfl rfl rfl (op_move (Has.t rfl)) ?_
    refine R_op rfl rfl rfl (op_call Tryz.call147 (c_allPositive (by assumption) (by assumption) (by omega)) ⟨(Has.t rfl), trivial⟩) ?_
    refine R_op rfl rfl rfl (op_not (Has.t rfl)) ?_
    refine R_nil ?_
    refine T_cond (Has.t rfl) (fun hc => ?_) (fun hc => ?_)
    · have hc2 : ¬ z.all posQ = true := by simp only [Bool.not_eq_true'] at hc; rw [hc]; exact Bool.noConfusion
      have he : netErr z s = 1 := by rw [netErr_if, if_pos hb2, if_neg hc2]
      refine T_seq ?_
      refine T_region ?_
      refine R_op rfl rfl rfl (OpTy.imp (bld_39_ ) rnet_nil) ?_
      refine R_stA Tryz.sizeOf39 (Has.t rfl) (Has.t rfl) rfl (i := 0) rfl (Nat.le_of_ble_eq_true rfl) rfl rfl ?_
      refine R_op rfl rfl rfl (op_assign (Has.cN 1)) ?_
      refine R_nil ?_
      refine T_ret2 rfl (rv_to (rv_cell Tryz.isAgg39 Tryz.sizeOf39 rfl (i := 0) rfl rfl) ?_) (rv_to (rv_tmp rfl) ?_)
      · exact (rnet_bad he (by decide))
      · exact (int_of he.symm)
    · have hc2 : z.all posQ = true := by simp only [Bool.not_eq_false'] at hc; exact hc
      have he : netErr z s = 0 := by rw [netErr_if, if_pos hb2, if_pos hc2]
      refine T_skip ?_
      refine T_seq ?_
      refine T_region ?_
      refine R_op rfl rfl rfl (op_move (Has.t rfl)) ?_
      refine R_op rfl rfl rfl (op_move (Has.t rfl)) ?_
      refine R_op rfl rfl rfl (bld_39_0_1 (Has.t rfl) (Has.t rfl)) ?_
      refine R_stA Tryz.sizeOf39 (Has.t rfl) (Has.t rfl) rfl (i := 0) rfl (Nat.le_of_ble_eq_true rfl) rfl rfl ?_
      refine R_op rfl rfl rfl (op_assign (Has.cN 0)) ?_
      refine R_nil ?_
      refine T_ret2 rfl (rv_to (rv_cell Tryz.isAgg39 Tryz.sizeOf39 rfl (i := 0) rfl rfl) ?_) (rv_to (rv_tmp rfl) ?_)
      · exact (rnet_good he)
      · exact (int_of he.symm)
end Go.Proofs.YtppibhcfaahgpaaGreat
namespace Go.Proofs.YtppibhcfaahgpaaGreat
open Go Go.RowKit
theorem fa_39_1 (a : Addr) (w : World) : (Instr.fieldAt 39 (.pointer (some a)) 1).run Tryz.prog w = .ok (.pointer (some (a.add 1))) w := by
  simp [Instr.fieldAt, Instr.sureAddr, fieldPlace, Sem.run_bind, Result.andThen, Tryz.runUnderlying39, Tryz.sizeOf37]
end Go.Proofs.YtppibhcfaahgpaaGreat
namespace Go.Proofs.YtppibhcfaahgpaaGreat
open Go Go.RowKit
theorem meth_49_Of (v : Value) (w : World) : (method (Tryz.prog.types.size + Made.depth) 49 v "Of").run Tryz.prog w = .ok (264, v) w := by kernel_rfl
theorem mkif_49 (v : Value) (w : World) : (Instr.makeInterface 49 v).run Tryz.prog w = .ok (.iface 49 v) w := by
  simp [Instr.makeInterface, Sem.run_bind, Result.andThen, Tryz.runUnderlying49]
end Go.Proofs.YtppibhcfaahgpaaGreat
namespace Go.Proofs.YtppibhcfaahgpaaGreat
open Go Go.RowKit
set_option maxRecDepth 20000 in
theorem c_OfZ {y : Qi} : Fun Tryz.prog 264 [AggT [Is (.bool false), Is (.slice none 0 0), Is (.bool false), Is (.slice none 0 0), Is (.slice none 0 0)], NumT y] (NumT y) := by
  refine Fun.intro Tryz.func264 rfl Tryz.ntmps264 rfl (fun cx => ?_)
  refine T_seq ?_
  refine T_region ?_
  refine R_new rfl rfl rfl (new_box (Has.t rfl)) (fun B2 => ?_)
  refine R_new rfl rfl rfl (new_box (Has.t rfl)) (fun B3 => ?_)
  refine R_new rfl rfl rfl (new_alloc (Ts := [Is (.bool false), Is (.slice none 0 0), Is (.bool false), Is (.slice none 0 0), Is (.slice none 0 0)]) Tryz.zeroValue49 rfl (fun V => Cells.cons' ⟨rfl, trivial⟩ (Cells.cons' ⟨rfl, trivial⟩ (Cells.cons' ⟨rfl, trivial⟩ (Cells.cons' ⟨rfl, trivial⟩ (Cells.cons' ⟨rfl, trivial⟩ (Cells.nil))))))) (fun B4 => ?_)
  refine R_nil ?_
  refine T_seq ?_
  refine T_region ?_
  refine R_op rfl rfl rfl (op_ldBA Tryz.isAgg49 Tryz.sizeOf49 (Has.t rfl) (i := 1) rfl rfl rfl) ?_
  refine R_stA Tryz.sizeOf49 (Has.t rfl) (Has.t rfl) rfl (i := 2) rfl (Nat.le_of_ble_eq_true rfl) rfl rfl ?_
  refine R_nil ?_
  exact T_ret1 rfl (rv_cell Tryz.isAgg49 Tryz.sizeOf49 rfl (i := 2) rfl rfl)
set_option maxRecDepth 20000 in
theorem c_columns1 {r : List Qi} {k : Nat} : Fun Tryz.prog 228 [NumsT r, PT (NT .i64 k)] (BoolT (!decide (r.length = k))) := by
  refine Fun.intro Tryz.func228 rfl Tryz.ntmps228 rfl (fun cx => ?_)
  refine T_seq ?_
  refine T_region ?_
  refine R_op rfl rfl rfl (op_assign Has.c) ?_
  refine R_nil ?_
  refine T_seq ?_
  refine T_region ?_
  refine R_op rfl rfl rfl (op_move (Has.t rfl)) ?_
  refine R_op rfl rfl rfl (op_len Tryz.runUnderlying30 (Has.t rfl) len_map) ?_
  refine R_op rfl rfl rfl (op_ld Tryz.isAgg3 Tryz.sizeOf3 (Has.t rfl)) ?_
  refine R_op rfl rfl rfl (op_neqN (Has.t rfl) (Has.t rfl)) ?_
  refine R_op rfl rfl rfl (op_assign (Has.t rfl)) ?_
  refine R_nil ?_
  exact T_ret1 rfl (rv_tmp rfl)
set_option maxRecDepth 20000 in
theorem c_columns {a : List (List Qi)} {n k : Nat} (h : Shp a n k) (h1 : 1 ≤ n) (hn : n ≤ 32) (hk : k ≤ 32) : Fun Tryz.prog 200 [NumM a] (TupT [NT .i64 k, BoolT true]) := by
  obtain ⟨rfl, h2⟩ := h
  have hr0 : (a.getD 0 []).length = k := Shp.row ⟨rfl, h2⟩ (by omega)
  refine Fun.intro Tryz.func200 rfl Tryz.ntmps200 rfl (fun cx => ?_)
  refine T_seq ?_
  refine T_region ?_
  refine R_op rfl rfl rfl (op_assign (Has.cN 0)) ?_
  refine R_op rfl rfl rfl (op_assign Has.c) ?_
  refine R_nil ?_
  refine T_seq ?_
  refine T_seq ?_
  refine T_region ?_
  refine R_op rfl rfl rfl (op_move (Has.t rfl)) ?_
  refine R_op rfl rfl rfl (op_len Tryz.runUnderlying31 (Has.t rfl) len_map) ?_
  refine R_op rfl rfl rfl (op_eqlN (Has.t rfl) (Has.cN 0)) ?_
  refine R_nil ?_
  refine T_cond (Has.t rfl) (fun hb => ?_) (fun hb => ?_)
  · simp only [decide_eq_true_eq] at hb
    omega
  · refine T_skip ?_
    refine T_seq ?_
    refine T_region ?_
    refine R_op rfl rfl rfl (op_move (Has.t rfl)) ?_
    refine R_op rfl rfl rfl (op_idx Tryz.runUnderlying31 Tryz.sizeOf30 (Has.t rfl) (Has.cN 0) rfl (map_get (getD_some (d := []) (by omega)))) ?_
    refine R_op rfl rfl rfl (op_ld Tryz.isAgg30 Tryz.sizeOf30 (Has.t rfl)) ?_
    refine R_op rfl rfl rfl (op_len Tryz.runUnderlying30 (Has.t rfl) len_map) ?_
    refine R_new rfl rfl rfl (new_alloc (Ts := [Is (.int .i64 0)]) Tryz.zeroValue3 rfl (fun V => Cells.cons' ⟨rfl, trivial⟩ (Cells.nil))) (fun B4 => ?_)
    refine R_st Tryz.sizeOf3 (Has.t rfl) (Has.t rfl) (i := 0) rfl (Nat.le_of_ble_eq_true rfl) rfl ?_
    refine R_nil ?_
    refine T_seq ?_
    refine T_freeze (i := 0) (tt := 4) rfl rfl frz_ptr1 ?_
    refine D_start (m := 15) ?_
    refine D_step (Ei := [(4, _)]) rfl rfl (Srcs.cons (Src.pre rfl rfl) Srcs.nil) (S_plain rfl (op_ld Tryz.isAgg3 Tryz.sizeOf3 (Has.t rfl))) ?_
    refine D_step (Ei := [(0, _)]) rfl rfl (Srcs.cons (Src.pre rfl rfl) Srcs.nil) (S_plain rfl (op_move (Has.t rfl))) ?_
    refine D_step (Ei := [(13, _)]) rfl rfl (Srcs.cons (Src.op 1 rfl rfl) Srcs.nil) (S_plain rfl (op_len Tryz.runUnderlying31 (Has.t rfl) len_map)) ?_
    refine D_step (Ei := [(14, _)]) rfl rfl (Srcs.cons (Src.op 2 rfl rfl) Srcs.nil) (S_plain rfl (op_leqN (Has.t rfl) (Has.cN 32))) ?_
    refine D_step (Ei := [(15, _)]) rfl rfl (Srcs.cons (Src.op 3 rfl rfl) Srcs.nil) (S_plain rfl (op_move (Has.t rfl))) ?_
    refine D_step (Ei := [(4, _), (16, _)]) rfl rfl (Srcs.cons (Src.pre rfl rfl) (Srcs.cons (Src.op 4 rfl rfl) Srcs.nil)) (S_when rfl rfl (Has.t rfl) (fun h => op_ld Tryz.isAgg3 Tryz.sizeOf3 (Has.t rfl))) ?_
    refine D_step (Ei := [(17, _), (16, _)]) rfl rfl (Srcs.cons (Src.op 5 rfl rfl) (Srcs.cons (Src.op 4 rfl rfl) Srcs.nil)) (S_when rfl rfl (Has.t rfl) (fun h => op_leqN (Has.w rfl h) (Has.cN 32))) ?_
    refine D_step (Ei := [(16, _), (18, _)]) rfl rfl (Srcs.cons (Src.op 4 rfl rfl) (Srcs.cons (Src.op 6 rfl rfl) Srcs.nil)) (S_plain rfl (op_and (Has.t rfl) (fun h => (Has.w rfl h)))) ?_
    refine D_step (Ei := [(19, _)]) rfl rfl (Srcs.cons (Src.op 7 rfl rfl) Srcs.nil) (S_plain rfl (op_move (Has.t rfl))) ?_
    refine D_step (Ei := [(0, _), (20, _)]) rfl rfl (Srcs.cons (Src.pre rfl rfl) (Srcs.cons (Src.op 8 rfl rfl) Srcs.nil)) (S_when rfl rfl (Has.t rfl) (fun h => op_move (Has.t rfl))) ?_
    refine D_step (Ei := [(4, _), (20, _)]) rfl rfl (Srcs.cons (Src.pre rfl rfl) (Srcs.cons (Src.op 8 rfl rfl) Srcs.nil)) (S_when rfl rfl (Has.t rfl) (fun h => op_clos (γ := List Qi) (Ts := fun r => [NumsT r]) (U := fun r => BoolT (!decide (r.length = (a.getD 0 []).length))) Tryz.call228 (fun r => c_columns1) ⟨(Has.t rfl), trivial⟩)) ?_
    refine D_step (Ei := [(21, _), (22, _), (20, _)]) rfl rfl (Srcs.cons (Src.op 9 rfl rfl) (Srcs.cons (Src.op 10 rfl rfl) (Srcs.cons (Src.op 8 rfl rfl) Srcs.nil))) (S_when rfl rfl (Has.t rfl) (fun h => op_call Tryz.call151 (c_ContainsRow (l := a) (T := NumsT) (p := fun r => !decide (r.length = (a.getD 0 []).length)) (by omega)) ⟨(Has.w rfl h), (Has.w rfl h), trivial⟩)) ?_
    refine D_step (Ei := [(23, _), (20, _)]) rfl rfl (Srcs.cons (Src.op 11 rfl rfl) (Srcs.cons (Src.op 8 rfl rfl) Srcs.nil)) (S_when rfl rfl (Has.t rfl) (fun h => op_not (Has.w rfl h))) ?_
    refine D_step (Ei := [(20, _), (24, _)]) rfl rfl (Srcs.cons (Src.op 8 rfl rfl) (Srcs.cons (Src.op 12 rfl rfl) Srcs.nil)) (S_plain rfl (op_and (Has.t rfl) (fun h => (Has.w rfl h)))) ?_
    refine D_step (Ei := [(12, _)]) rfl rfl (Srcs.cons (Src.op 0 rfl rfl) Srcs.nil) (S_plain rfl (op_assign (Has.t rfl))) ?_
    refine D_done mixed rfl (by kernel_rfl) (F_val (F_val (F_val (F_val (F_val (F_val (F_val (F_val (F_val (F_val (F_val (F_val (F_val (F_val (F_val (F_nil ?_))))))))))))))))
    refine R_op rfl rfl rfl (op_assign (Has.t rfl)) ?_
    refine R_nil ?_
    refine T_ret2 rfl (rv_to (rv_tmp rfl) ?_) (rv_to (rv_tmp rfl) ?_)
    · exact (nt_of hr0)
    · exact (bool_of (by rw [hr0, cols_ok ⟨rfl, h2⟩]; simp; omega))
end Go.Proofs.YtppibhcfaahgpaaGreat
namespace Go.Proofs.YtppibhcfaahgpaaGreat
open Go Go.RowKit
theorem meth_49_Add (v : Value) (w : World) : (method (Tryz.prog.types.size + Made.depth) 49 v "Add").run Tryz.prog w = .ok (59, v) w := by kernel_rfl
theorem meth_49_Mul (v : Value) (w : World) : (method (Tryz.prog.types.size + Made.depth) 49 v "Mul").run Tryz.prog w = .ok (56, v) w := by kernel_rfl
end Go.Proofs.YtppibhcfaahgpaaGreat
namespace Go.Proofs.YtppibhcfaahgpaaGreat
open Go Go.RowKit
theorem meth_49_Div (v : Value) (w : World) : (method (Tryz.prog.types.size + Made.depth) 49 v "Div").run Tryz.prog w = .ok (174, v) w := by kernel_rfl
theorem meth_49_Sub (v : Value) (w : World) : (method (Tryz.prog.types.size + Made.depth) 49 v "Sub").run Tryz.prog w = .ok (58, v) w := by kernel_rfl
end Go.Proofs.YtppibhcfaahgpaaGreat
namespace Go.Proofs.YtppibhcfaahgpaaGreat
open Go Go.RowKit
theorem flat_app (a b : List Value) : flat (a ++ b) = flat a ++ flat b := by simp [flat]
theorem flat_tk {s : Nat} {xs : List Value} (h : ∀ x, x ∈ xs → x.cells.size = s) (k : Nat) (hk : k ≤ xs.length) : flat (xs.take k) = (flat xs).take (k * s) := by
  have h1 : (flat (xs.take k)).length = k * s := by rw [flat_len _ (fun x hx => h x (List.mem_of_mem_take hx))]; simp [Nat.min_eq_left hk]
  have h2 : flat xs = flat (xs.take k) ++ flat (xs.drop k) := by rw [← flat_app, List.take_append_drop]
  rw [h2, List.take_left' h1]
theorem flat_dr {s : Nat} {xs : List Value} (h : ∀ x, x ∈ xs → x.cells.size = s) (k : Nat) (hk : k ≤ xs.length) : flat (xs.drop k) = (flat xs).drop (k * s) := by
  have h1 : (flat (xs.take k)).length = k * s := by rw [flat_len _ (fun x hx => h x (List.mem_of_mem_take hx))]; simp [Nat.min_eq_left hk]
  have h2 : flat xs = flat (xs.take k) ++ flat (xs.drop k) := by rw [← flat_app, List.take_append_drop]
  rw [h2, List.drop_left' h1]
theorem all_rep {T : Ty} {V : View} : ∀ {xs : List Value} {m : Nat}, (∀ x, x ∈ xs → T.p x V) → xs.length = m → AllT (List.replicate m T) xs V
  | [], 0, _, _ => trivial
  | x :: xs, m + 1, h, hl => ⟨h x (by simp), all_rep (fun y hy => h y (by simp [hy])) (by simpa using hl)⟩
theorem rep_all {T : Ty} {V : View} {xs : List Value} {m : Nat} (h : AllT (List.replicate m T) xs V) : ∀ x, x ∈ xs → T.p x V := fun x hx => by
  obtain ⟨U, h1, h2⟩ := h.mem x hx
  rw [(List.mem_replicate.1 h1).2] at h2; exact h2
def SecT (s : Nat) (v : Value) (lo len : Nat) : Ty := ⟨fun u _ => ∃ g l0 cap, v = .slice (some ⟨g, 0, none⟩) l0 cap ∧ lo + len ≤ l0 ∧ l0 ≤ cap ∧ u = .slice (some ⟨g, lo * s, none⟩) len (cap - lo), fun h _ => h⟩
instance shSec (s : Nat) (v : Value) (lo len : Nat) : Shape (SecT s v lo len) 1 false := shape_one fun u V h => by obtain ⟨_, _, _, _, _, _, rfl⟩ := h; trivial
section
variable {P : Program} {R : Post} {cx : Cx} {n : Nat} {k : List It} {E : Env} {H : Hp} {ops : Array Oper} {o : Oper} {rest : List Oper}
variable {d : Option Tmp} {t : TypeId} {pos : String} {af : Array Edge} {g : Option (Nat × Bool)}
theorem op_secLo {x lo : Operand} {i e e' s q : Nat} {v : Value} {Ts : List Ty} {kd : IntKind} {j : Int} (hU : ∀ w, (underlying t).run P w = .ok (.slice e) w) (hS : ∀ w, (sizeOf e).run P w = .ok s w)
    (hx : Has E x (Is v)) (hlo : Has E lo (IntT kd j)) (hj : j = (q : Int)) (hH : H[i]? = some (rowO e' s v Ts)) (hq : q < Ts.length) {t' : TypeId} : OpTy P n E H ⟨d, .slice t x (some lo) none none, t', pos, af, g⟩ (SecT s v q (Ts.length - q)) :=
  op_readO hH fun a V w S hA _ hs => by
    have e1 : a.eval x = v := hx n V a hs
    have e2 : a.eval lo = .int kd j := hlo n V a hs
    subst hj
    obtain ⟨xs, _, h2⟩ := hA
    rcases h2 with ⟨_, h0, _⟩ | ⟨g1, cap, cur, rfl, _, _, hle, _⟩
    · subst h0; simp at hq
    · refine ⟨.slice (some ⟨g1, q * s, none⟩) (Ts.length - q) (cap - q), ?_, g1, Ts.length, cap, rfl, by omega, hle, rfl⟩
      have hne : ¬ cap = q := by omega
      have hb : q ≤ Ts.length := by omega
      simp [execOp, e1, e2, Instr.sliceAt, Instr.slice, Instr.sliceBounds, Instr.sliceBound, asIntOf, Sem.run_bind, hU, hS, Result.andThen, hb, hne, Addr.add, hle]
      try exact fun h => h.symm
theorem op_secHi {x hi : Operand} {i e e' s q : Nat} {v : Value} {Ts : List Ty} {kd : IntKind} {j : Int} (hU : ∀ w, (underlying t).run P w = .ok (.slice e) w) (hS : ∀ w, (sizeOf e).run P w = .ok s w)
    (hx : Has E x (Is v)) (hhi : Has E hi (IntT kd j)) (hj : j = (q : Int)) (hH : H[i]? = some (rowO e' s v Ts)) (hq : q ≤ Ts.length) (h0 : 0 < Ts.length) {t' : TypeId} : OpTy P n E H ⟨d, .slice t x none (some hi) none, t', pos, af, g⟩ (SecT s v 0 q) :=
  op_readO hH fun a V w S hA _ hs => by
    have e1 : a.eval x = v := hx n V a hs
    have e2 : a.eval hi = .int kd j := hhi n V a hs
    subst hj
    obtain ⟨xs, _, h2⟩ := hA
    rcases h2 with ⟨_, h1, _⟩ | ⟨g1, cap, cur, rfl, _, _, hle, _⟩
    · subst h1; simp at h0
    · refine ⟨.slice (some ⟨g1, 0, none⟩) q cap, ?_, g1, Ts.length, cap, rfl, by omega, hle, by simp⟩
      have hb : q ≤ cap := by omega
      simp [execOp, e1, e2, Instr.sliceAt, Instr.slice, Instr.sliceBounds, Instr.sliceBound, asIntOf, Sem.run_bind, hU, hS, Result.andThen, hb, Addr.add]
theorem copy_core {x y : Operand} {i e e' s m lo p q : Nat} {ta tb : TypeId} {v : Value} {T : Ty} {a : Act} {w : World} {V : View} {b0 o0 cp dd : Nat} {ys : List Value} {t' : TypeId} (hU : ∀ w, (underlying ta).run P w = .ok (.slice e) w) (hS : ∀ w, (sizeOf e).run P w = .ok s w)
    (hinv : Inv cx V H w) (hH : H[i]? = some (rowO e' s v (List.replicate m T))) (hxv : (SecT s v lo p).p (a.eval x) V) (ey : a.eval y = .slice (some ⟨b0, o0, none⟩) q cp)
    (hrow : Row s (List.replicate q T) ys V) (hcells : ∀ (j : Nat) u, (flat ys)[j]? = some u → w.cell? ((⟨b0, o0, none⟩ : Addr).add j) = some u) :
    ∃ w', (execOp a.eval ⟨some dd, .call ⟨.builtin .copy, #[x, y], #[ta, tb]⟩, t', pos, af, g⟩).run P w = .ok (.value (goInt (Nat.min q p))) w' ∧ Inv cx V H w' := by
  obtain ⟨S, hR⟩ := (show HH cx.w0.heap.size w V (H ++ []) by simpa using hinv.hp).get hH
  obtain ⟨xs, hrx, h2⟩ := hR
  obtain ⟨g1, l0, cap0, hv, hlo, hlc, ex⟩ := hxv
  rcases h2 with ⟨h0, _⟩ | ⟨g2, cap, cur, h3, hS', hg, hle, hcm, hcs, htake⟩
  · rw [hv] at h0; cases h0
  rw [hv] at h3
  simp only [Value.slice.injEq, Option.some.injEq, Addr.mk.injEq, List.length_replicate] at h3
  obtain ⟨⟨rfl, _⟩, rfl, rfl⟩ := h3
  simp only [List.length_replicate] at hle htake
  have hk1 : Nat.min q p ≤ q := Nat.min_le_left _ _
  have hk2 : Nat.min q p ≤ p := Nat.min_le_right _ _
  generalize hkk : Nat.min q p = k at hk1 hk2
  have hyl : ys.length = q := by rw [hrow.all.length]; simp
  have hxl : xs.length = l0 := by rw [hrx.all.length]; simp
  have hyk : ∀ z, z ∈ ys.take k → z.cells.size = s := fun z hz => hrow.size z (List.mem_of_mem_take hz)
  have hfl : (flat (ys.take k)).length = k * s := by rw [flat_len _ hyk]; simp [Nat.min_eq_left (show k ≤ ys.length by omega)]
  have hg' : w.heap[g1]? = some (.cells cur e' (0, 0)) := hg
  have h1s : (lo + k) * s ≤ l0 * s := Nat.mul_le_mul_right _ (by omega)
  have h2s : l0 * s ≤ cap0 * s := Nat.mul_le_mul_right _ hle
  have h3s : (lo + k) * s = lo * s + k * s := Nat.add_mul _ _ _
  have hpl : ∀ u, u ∈ flat (ys.take k) → Plain u := fun u hu => by
    obtain ⟨z, hz, hu'⟩ := flat_mem.1 hu
    exact hrow.plain u (flat_mem.2 ⟨z, List.mem_of_mem_take hz, hu'⟩)
  obtain ⟨w', q1, ⟨c', q2, q2'⟩, q3, q4, q5, q6, q7⟩ := run_stores (P := P) (flat (ys.take k)) (lo * s) 0 w cur hg' (by rw [hfl]; omega) hpl
  have hf := run_firstCells_some (P := P) w s k ⟨b0, o0, none⟩ q cp (flat (ys.take k)) hfl (fun j u hu => hcells j u (by
    rw [flat_tk hrow.size k (by omega), List.getElem?_take] at hu
    split at hu
    · exact hu
    · cases hu))
  refine ⟨w', ?_, ?_⟩
  · simp [execOp, resolve, invoke, builtin, ex, ey, Builtin.copy_, Builtin.lenOf, Sem.run_bind, hU, hS, Result.andThen, hkk, hf, q1]
  · have hset : H.set i (rowO e' s v (List.replicate l0 T)) = H := by
      apply List.ext_getElem?
      intro j
      by_cases c : i = j
      · subst c; rw [List.getElem?_set_self (List.getElem?_eq_some_iff.1 hH).1, hH]
      · rw [List.getElem?_set_ne c]
    rw [← hset]
    refine hinv.upd hH q4 q5 q6 q7 (fun S2 hS2 => ?_)
    obtain ⟨xs2, hrx2, h4⟩ := hS2
    rcases h4 with ⟨h0, _⟩ | ⟨g3, cap3, cur3, h5, hS3, hg3, hle3, hcm3, hcs3, htake3⟩
    · rw [hv] at h0; cases h0
    rw [hv] at h5
    simp only [Value.slice.injEq, Option.some.injEq, Addr.mk.injEq] at h5
    obtain ⟨⟨rfl, _⟩, _, rfl⟩ := h5
    have hg4 : w.heap[g1]? = some (.cells cur3 e' (0, 0)) := hg3
    rw [hg'] at hg4; simp at hg4; subst hg4
    subst hS3
    have hx2l : xs2.length = l0 := by rw [hrx2.all.length]; simp
    simp only [List.length_replicate] at htake3
    refine ⟨fun b hb => q3 b (by simpa using hb), xs2.take lo ++ ys.take k ++ xs2.drop (lo + k), ⟨all_rep (fun z hz => ?_) ?_, fun z hz => ?_, fun u hu => ?_⟩, .inr ⟨g1, cap0, c', by rw [hv]; simp, rfl, q2, by simpa using hle, hcm, ?_, ?_⟩⟩
    · simp only [List.mem_append] at hz
      rcases hz with (hz | hz) | hz
      · exact rep_all hrx2.all z (List.mem_of_mem_take hz)
      · exact rep_all hrow.all z (List.mem_of_mem_take hz)
      · exact rep_all hrx2.all z (List.mem_of_mem_drop hz)
    · simp only [List.length_append, List.length_take, List.length_drop]; omega
    · simp only [List.mem_append] at hz
      rcases hz with (hz | hz) | hz
      · exact hrx2.size z (List.mem_of_mem_take hz)
      · exact hrow.size z (List.mem_of_mem_take hz)
      · exact hrx2.size z (List.mem_of_mem_drop hz)
    · obtain ⟨z, hz, hu'⟩ := flat_mem.1 hu
      simp only [List.mem_append] at hz
      rcases hz with (hz | hz) | hz
      · exact hrx2.plain u (flat_mem.2 ⟨z, List.mem_of_mem_take hz, hu'⟩)
      · exact hrow.plain u (flat_mem.2 ⟨z, List.mem_of_mem_take hz, hu'⟩)
      · exact hrx2.plain u (flat_mem.2 ⟨z, List.mem_of_mem_drop hz, hu'⟩)
    · have : c'.toList.length = cur.toList.length := by
        rw [q2']; simp only [List.length_append, List.length_take, List.length_drop, Array.length_toList, hfl]; omega
      simpa [hcs] using this
    · rw [q2', flat_app, flat_app, flat_tk hrx2.size lo (by omega), flat_dr hrx2.size (lo + k) (by omega), ← htake3, List.length_replicate, h3s]
      simp only [Nat.add_zero, hfl]
      exact take_put _ _ _ _ _ hfl (by omega) (by simp only [Array.length_toList]; omega)
theorem op_copySec {x y : Operand} {i e e' s m lo p q : Nat} {ta tb : TypeId} {v : Value} {T : Ty} {dd : Nat} (hU : ∀ w, (underlying ta).run P w = .ok (.slice e) w) (hS : ∀ w, (sizeOf e).run P w = .ok s w)
    (hH : H[i]? = some (rowO e' s v (List.replicate m T))) (hx : Has E x (SecT s v lo p)) (hy : Has E y (SecT s v 0 q)) {t' : TypeId} :
    OpTy P n E H ⟨some dd, .call ⟨.builtin .copy, #[x, y], #[ta, tb]⟩, t', pos, af, g⟩ (NT .i64 (Nat.min q p)) := fun cx X a w V hi hs K Q hK => by
  have hil := (List.getElem?_eq_some_iff.1 hH).1
  have hH' : (H ++ X)[i]? = some (rowO e' s v (List.replicate m T)) := by rw [List.getElem?_append_left hil]; exact hH
  obtain ⟨S, hR⟩ := (show HH cx.w0.heap.size w V ((H ++ X) ++ []) by simpa using hi.hp).get hH'
  obtain ⟨xs, hrx, h2⟩ := hR
  obtain ⟨g1, l0, cap0, hv, hlo, hlc, ey⟩ := hy n V a hs
  rcases h2 with ⟨h0, _⟩ | ⟨g2, cap, cur, h3, _, hg, hle, hcm, hcs, htake⟩
  · rw [hv] at h0; cases h0
  rw [hv] at h3
  simp only [Value.slice.injEq, Option.some.injEq, Addr.mk.injEq, List.length_replicate] at h3
  obtain ⟨⟨rfl, _⟩, rfl, rfl⟩ := h3
  have hxl : xs.length = l0 := by rw [hrx.all.length]; simp
  rw [Nat.zero_mul] at ey
  have hrow : Row s (List.replicate q T) (xs.take q) V := ⟨all_rep (fun z hz => rep_all hrx.all z (List.mem_of_mem_take hz)) (by simp; omega), fun z hz => hrx.size z (List.mem_of_mem_take hz), fun u hu => by
    obtain ⟨z, hz, hu'⟩ := flat_mem.1 hu; exact hrx.plain u (flat_mem.2 ⟨z, List.mem_of_mem_take hz, hu'⟩)⟩
  obtain ⟨w', h1, h4⟩ := copy_core (dd := dd) (pos := pos) (af := af) (g := g) (t' := t') (tb := tb) hU hS hi hH' (hx n V a hs) ey hrow (fun j u hu => by
    rw [flat_tk hrx.size q (by omega), ← htake, List.getElem?_take, List.getElem?_take] at hu
    split at hu
    · split at hu
      · rw [add_plain, cell_of_heap (show w.heap[g1]? = some (.cells cur e' (0, 0)) from hg), Nat.zero_add]; simpa using hu
      · cases hu
    · cases hu)
  simp only [Oper.wp, h1, Oper.upon_value]
  exact hK _ w' V h4 (VLe.refl V) rfl
theorem op_copyV {x y : Operand} {i e e' s m q : Nat} {ta tb : TypeId} {v : Value} {T : Ty} {dd : Nat} (hU : ∀ w, (underlying ta).run P w = .ok (.slice e) w) (hS : ∀ w, (sizeOf e).run P w = .ok s w)
    (hH : H[i]? = some (rowO e' s v (List.replicate m T))) (hx : Has E x (Is v)) (hy : Has E y (SlT s (List.replicate q T))) (hq : 0 < q) (hEl : El s T) (hm : 0 < m) {t' : TypeId} :
    OpTy P n E H ⟨some dd, .call ⟨.builtin .copy, #[x, y], #[ta, tb]⟩, t', pos, af, g⟩ (NT .i64 (Nat.min q m)) := fun cx X a w V hi hs K Q hK => by
  obtain ⟨b0, o0, cp, ys, ey, _, hrow, hcells⟩ := SlT.row (hy n V a hs) (by intro h; have := congrArg List.length h; simp at this; omega) (fun U hU => by rw [(List.mem_replicate.1 hU).2]; exact hEl)
  simp only [List.length_replicate] at ey
  have hil := (List.getElem?_eq_some_iff.1 hH).1
  have hH' : (H ++ X)[i]? = some (rowO e' s v (List.replicate m T)) := by rw [List.getElem?_append_left hil]; exact hH
  obtain ⟨S, hR⟩ := (show HH cx.w0.heap.size w V ((H ++ X) ++ []) by simpa using hi.hp).get hH'
  have hxv : (SecT s v 0 m).p (a.eval x) V := by
    obtain ⟨xs, _, h2⟩ := hR
    rcases h2 with ⟨_, h0, _⟩ | ⟨g1, cap, cur, hv, _, _, hle, _⟩
    · have := congrArg List.length h0; simp at this; omega
    · simp only [List.length_replicate] at hv hle
      have ex : a.eval x = v := hx n V a hs
      exact ⟨g1, m, cap, hv, by omega, hle, by rw [ex, hv]; simp⟩
  obtain ⟨w', h1, h2⟩ := copy_core (dd := dd) (pos := pos) (af := af) (g := g) (t' := t') (tb := tb) hU hS hi hH' hxv ey hrow (hcells w hi.on)
  simp only [Oper.wp, h1, Oper.upon_value]
  exact hK _ w' V h2 (VLe.refl V) rfl
end
end Go.Proofs.YtppibhcfaahgpaaGreat
