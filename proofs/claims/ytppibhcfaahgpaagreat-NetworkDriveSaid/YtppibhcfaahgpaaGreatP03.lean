/- What functions of the program compute, proved by walks over their code, and the plain mathematics of it; a part of the proof in the last text. -/
import Derived.Test.YtppibhcfaahgpaaGreatP02
set_option linter.unusedVariables false
set_option linter.unusedSimpArgs false
namespace Go.Proofs.YtppibhcfaahgpaaGreat
open Go Go.RowKit
set_option maxRecDepth 200000 in
theorem c_len32 {v : Nat} (hv : v < 4294967296) : Fun Tryz.prog 238 [U32T v] (NT .i64 (bl v)) := by
  refine Fun.intro Tryz.func238 rfl Tryz.ntmps238 rfl (fun cx => ?_)
  refine T_seq ?_
  refine T_region ?_
  refine R_op rfl rfl rfl (op_assign (Has.cN 0)) ?_
  refine R_nil ?_
  refine T_seq ?_
  refine T_join2 (fun (q : Nat) (x : Nat) => bl v = q + bl x ∧ x < 65536 ∧ q ≤ 16) (fun (q : Nat) (x : Nat) => [(0, U32T x), (2, NT .i64 q)]) (fun (q : Nat) (x : Nat) => []) ?_ (fun q x ⟨hq1, hq2, hq3⟩ => ?_)
  · refine T_seq ?_
    refine T_region ?_
    refine R_op rfl rfl rfl (op_move (Has.t rfl)) ?_
    refine R_op rfl rfl rfl (op_geqN (Has.t rfl) (Has.cN 65536)) ?_
    refine R_nil ?_
    refine T_cond (Has.t rfl) (fun hb => ?_) (fun hb => ?_)
    · simp at hb
      refine T_seq ?_
      refine T_region ?_
      refine R_op rfl rfl rfl (op_move (Has.t rfl)) ?_
      refine R_op rfl rfl rfl (op_shrN (Has.t rfl) (Has.cN 16) (by decide)) ?_
      refine R_op rfl rfl rfl (op_assign (Has.t rfl)) ?_
      refine R_nil ?_
      refine T_region ?_
      refine R_op rfl rfl rfl (op_assign (Has.cN 16)) ?_
      refine R_nil ?_
      refine T_joined (16, v / 2 ^ 16) ⟨bl16 hb, by dsimp only; omega, Nat.le_refl _⟩ (Sub.cons rfl (Sub.cons rfl Sub.nil)) HSub.nil
    · simp at hb
      refine T_skip ?_
      refine T_joined (0, v) ⟨(Nat.zero_add _).symm, hb, by dsimp only; omega⟩ (Sub.cons rfl (Sub.cons rfl Sub.nil)) HSub.nil
  · refine T_seq ?_
    refine T_join2 (fun (r : Nat) (z : Nat) => bl v = r + bl z ∧ z < 256 ∧ r ≤ 24) (fun (r : Nat) (z : Nat) => [(0, U32T z), (2, NT .i64 r)]) (fun (r : Nat) (z : Nat) => []) ?_ (fun r z ⟨hr1, hr2, hr3⟩ => ?_)
    · refine T_seq ?_
      refine T_region ?_
      refine R_op rfl rfl rfl (op_move (Has.t rfl)) ?_
      refine R_op rfl rfl rfl (op_geqN (Has.t rfl) (Has.cN 256)) ?_
      refine R_nil ?_
      refine T_cond (Has.t rfl) (fun hb => ?_) (fun hb => ?_)
      · simp at hb
        refine T_seq ?_
        refine T_region ?_
        refine R_op rfl rfl rfl (op_move (Has.t rfl)) ?_
        refine R_op rfl rfl rfl (op_shrN (Has.t rfl) (Has.cN 8) (by decide)) ?_
        refine R_op rfl rfl rfl (op_assign (Has.t rfl)) ?_
        refine R_nil ?_
        refine T_region ?_
        refine R_op rfl rfl rfl (op_move (Has.t rfl)) ?_
        refine R_op rfl rfl rfl (op_addN (Has.t rfl) (Has.cN 8) (by show _ < 9223372036854775808; first | omega | (simp only [lim]; omega))) ?_
        refine R_op rfl rfl rfl (op_assign (Has.t rfl)) ?_
        refine R_nil ?_
        refine T_joined (q + 8, x / 2 ^ 8) ⟨by have := bl8 hb; dsimp only; omega, by dsimp only; omega, by dsimp only; omega⟩ (Sub.cons rfl (Sub.cons rfl Sub.nil)) HSub.nil
      · simp at hb
        refine T_skip ?_
        refine T_joined (q, x) ⟨hq1, hb, by dsimp only; omega⟩ (Sub.cons rfl (Sub.cons rfl Sub.nil)) HSub.nil
    · have hbl := bl_le_of_lt (k := 8) hr2
      refine T_seq ?_
      refine T_region ?_
      refine R_op rfl rfl rfl (op_move (Has.t rfl)) ?_
      refine R_op rfl rfl rfl (op_move (Has.t rfl)) ?_
      refine R_op rfl rfl rfl (op_convN Tryz.runUnderlying97 Tryz.runUnderlying5 (Has.t rfl) (by show _ < 256; first | omega | (simp only [lim]; omega))) ?_
      refine R_op rfl rfl rfl (op_sidx Tryz.runUnderlying9 Has.c (Has.t rfl) (len8 hr2 (by kernel_rfl))) ?_
      refine R_op rfl rfl rfl (op_convN Tryz.runUnderlying5 Tryz.runUnderlying3 (Has.t rfl) (by show _ < 9223372036854775808; first | omega | (simp only [lim]; omega))) ?_
      refine R_op rfl rfl rfl (op_addN (Has.t rfl) (Has.t rfl) (by show _ < 9223372036854775808; first | omega | (simp only [lim]; omega))) ?_
      refine R_op rfl rfl rfl (op_assign (Has.t rfl)) ?_
      refine R_nil ?_
      refine T_ret1 rfl (rv_to (rv_tmp rfl) ?_)
      exact (nt_of (by omega))
set_option maxRecDepth 20000 in
theorem c_lz32 {v : Nat} (hv : v < 4294967296) : Fun Tryz.prog 215 [U32T v] (NT .i64 (32 - bl v)) := by
  refine Fun.intro Tryz.func215 rfl Tryz.ntmps215 rfl (fun cx => ?_)
  refine T_seq ?_
  refine T_region ?_
  refine R_op rfl rfl rfl (op_assign (Has.cN 0)) ?_
  refine R_nil ?_
  refine T_seq ?_
  refine T_region ?_
  refine R_op rfl rfl rfl (op_move (Has.t rfl)) ?_
  refine R_op rfl rfl rfl (op_call Tryz.call238 (c_len32 hv) ⟨(Has.t rfl), trivial⟩) ?_
  refine R_op rfl rfl rfl (op_subN (Has.cN 32) (Has.t rfl) (bl_le_of_lt hv) (by show _ < 9223372036854775808; first | omega | (simp only [lim]; omega))) ?_
  refine R_op rfl rfl rfl (op_assign (Has.t rfl)) ?_
  refine R_nil ?_
  exact T_ret1 rfl (rv_tmp rfl)
set_option maxRecDepth 20000 in
theorem c_div32 {hi lo y : Nat} (hy : hi < y) (hl : lo < BB) (hyb : y < BB) : Fun Tryz.prog 237 [U32T hi, U32T lo, U32T y] (TupT [U32T ((hi * BB + lo) / y), U32T ((hi * BB + lo) % y)]) := by
  have hq := short_lt' hy hl; have hm := Nat.mod_lt (hi * BB + lo) (by omega : y > 0); have hz : hi * BB + lo < 18446744073709551616 := by simp only [BB] at *; omega
  have hsh : hi * 2 ^ 32 < 18446744073709551616 := by
    have h1 : hi < BB := by omega
    show hi * BB < _
    simp only [BB] at h1 ⊢; omega
  refine Fun.intro Tryz.func237 rfl Tryz.ntmps237 rfl (fun cx => ?_)
  refine T_seq ?_
  refine T_region ?_
  refine R_op rfl rfl rfl (op_assign (Has.cN 0)) ?_
  refine R_op rfl rfl rfl (op_assign (Has.cN 0)) ?_
  refine R_nil ?_
  refine T_seq ?_
  refine T_seq ?_
  refine T_region ?_
  refine R_op rfl rfl rfl (op_move (Has.t rfl)) ?_
  refine R_op rfl rfl rfl (op_neqN (Has.t rfl) (Has.cN 0)) ?_
  refine R_op rfl rfl rfl (op_move (Has.t rfl)) ?_
  refine R_step rfl rfl (S_when rfl rfl (Has.t rfl) (fun h => op_move (Has.t rfl))) ?_
  refine R_step rfl rfl (S_when rfl rfl (Has.t rfl) (fun h => op_move (Has.t rfl))) ?_
  refine R_step rfl rfl (S_when rfl rfl (Has.t rfl) (fun h => op_leqN (Has.w rfl h) (Has.w rfl h))) ?_
  refine R_op rfl rfl rfl (op_and (Has.t rfl) (fun h => (Has.w rfl h))) ?_
  refine R_nil ?_
  refine T_condF (Has.t rfl) (by simp; omega) ?_
  have hl2 : lo < 18446744073709551616 := by simp only [BB] at hl; omega
  have hy2 : y < 18446744073709551616 := by simp only [BB] at hyb; omega
  refine T_skip ?_
  refine T_seq ?_
  refine T_region ?_
  refine R_op rfl rfl rfl (op_move (Has.t rfl)) ?_
  refine R_op rfl rfl rfl (op_convN Tryz.runUnderlying97 Tryz.runUnderlying235 (Has.t rfl) (by show _ < 18446744073709551616; simp only [BB] at *; omega)) ?_
  refine R_op rfl rfl rfl (op_shlN (Has.t rfl) (Has.cN 32) (by decide) hsh) ?_
  refine R_op rfl rfl rfl (op_move (Has.t rfl)) ?_
  refine R_op rfl rfl rfl (op_convN Tryz.runUnderlying97 Tryz.runUnderlying235 (Has.t rfl) (by show _ < 18446744073709551616; simp only [BB] at *; omega)) ?_
  refine R_op rfl rfl rfl (OpTy.nat (op_orN rfl (Has.t rfl) (Has.t rfl) (by show _ < 18446744073709551616; first | omega | (simp only [lim]; omega)) (by show _ < 18446744073709551616; first | omega | (simp only [lim]; omega))) (or_add hl)) ?_
  refine R_op rfl rfl rfl (op_assign (Has.t rfl)) ?_
  refine R_nil ?_
  refine T_seq ?_
  refine D_start (m := 11) ?_
  refine D_step (Ei := [(8, _)]) rfl rfl (Srcs.cons (Src.pre rfl rfl) Srcs.nil) (S_plain rfl (op_move (Has.t rfl))) ?_
  refine D_step (Ei := [(2, _)]) rfl rfl (Srcs.cons (Src.pre rfl rfl) Srcs.nil) (S_plain rfl (op_move (Has.t rfl))) ?_
  refine D_step (Ei := [(24, _)]) rfl rfl (Srcs.cons (Src.op 1 rfl rfl) Srcs.nil) (S_plain rfl (op_convN Tryz.runUnderlying97 Tryz.runUnderlying235 (Has.t rfl) (by show _ < 18446744073709551616; simp only [BB] at *; omega))) ?_
  refine D_step (Ei := [(23, _), (25, _)]) rfl rfl (Srcs.cons (Src.op 0 rfl rfl) (Srcs.cons (Src.op 2 rfl rfl) Srcs.nil)) (S_plain rfl (op_quoN (Has.t rfl) (Has.t rfl) (by omega) (by show _ < 18446744073709551616; exact hz))) ?_
  refine D_step (Ei := [(26, _)]) rfl rfl (Srcs.cons (Src.op 3 rfl rfl) Srcs.nil) (S_plain rfl (op_convN Tryz.runUnderlying235 Tryz.runUnderlying97 (Has.t rfl) (by show _ < 4294967296; exact hq))) ?_
  refine D_step (Ei := [(8, _)]) rfl rfl (Srcs.cons (Src.pre rfl rfl) Srcs.nil) (S_plain rfl (op_move (Has.t rfl))) ?_
  refine D_step (Ei := [(2, _)]) rfl rfl (Srcs.cons (Src.pre rfl rfl) Srcs.nil) (S_plain rfl (op_move (Has.t rfl))) ?_
  refine D_step (Ei := [(29, _)]) rfl rfl (Srcs.cons (Src.op 6 rfl rfl) Srcs.nil) (S_plain rfl (op_convN Tryz.runUnderlying97 Tryz.runUnderlying235 (Has.t rfl) (by show _ < 18446744073709551616; simp only [BB] at *; omega))) ?_
  refine D_step (Ei := [(28, _), (30, _)]) rfl rfl (Srcs.cons (Src.op 5 rfl rfl) (Srcs.cons (Src.op 7 rfl rfl) Srcs.nil)) (S_plain rfl (op_remN (Has.t rfl) (Has.t rfl) (by omega))) ?_
  refine D_step (Ei := [(31, _)]) rfl rfl (Srcs.cons (Src.op 8 rfl rfl) Srcs.nil) (S_plain rfl (op_convN Tryz.runUnderlying235 Tryz.runUnderlying97 (Has.t rfl) (by show _ < 4294967296; simp only [BB] at *; omega))) ?_
  refine D_step (Ei := [(27, _)]) rfl rfl (Srcs.cons (Src.op 4 rfl rfl) Srcs.nil) (S_plain rfl (op_assign (Has.t rfl))) ?_
  refine D_done mixed rfl (by kernel_rfl) (F_val (F_val (F_val (F_val (F_val (F_val (F_val (F_val (F_val (F_val (F_val (F_nil ?_))))))))))))
  refine R_op rfl rfl rfl (op_assign (Has.t rfl)) ?_
  refine R_nil ?_
  exact T_ret2 rfl (rv_tmp rfl) (rv_tmp rfl)
set_option maxRecDepth 20000 in
theorem c_shl {m k : Nat} (hm : (dg m).length ≤ 17592186044416) (hk : k ≤ 562949953421312) : Fun Tryz.prog 184 [NatT m, NT .i64 k] (NatT (m * 2 ^ k)) := by
  refine Fun.intro Tryz.func184 rfl Tryz.ntmps184 rfl (fun cx => ?_)
  refine T_seq ?_
  refine T_region ?_
  refine R_op rfl rfl rfl (op_assign Has.c) ?_
  refine R_nil ?_
  refine T_seq ?_
  refine T_seq ?_
  refine T_region ?_
  refine R_op rfl rfl rfl (op_move (Has.t rfl)) ?_
  refine R_op rfl rfl rfl (op_len Tryz.runUnderlying45 (Has.t rfl) len_map) ?_
  refine R_op rfl rfl rfl (op_eqlN (Has.t rfl) (Has.cN 0)) ?_
  refine R_op rfl rfl rfl (op_move (Has.t rfl)) ?_
  refine R_step rfl rfl (S_when rfl rfl (Has.t rfl) (fun h => op_move (Has.t rfl))) ?_
  refine R_step rfl rfl (S_when rfl rfl (Has.t rfl) (fun h => op_eqlN (Has.w rfl h) (Has.cN 0))) ?_
  refine R_op rfl rfl rfl (op_or (Has.t rfl) (fun h => (Has.w rfl h))) ?_
  refine R_nil ?_
  refine T_cond (Has.t rfl) (fun hb => ?_) (fun hb => ?_)
  · simp [dg_length_zero] at hb
    have h0 : m * 2 ^ k = m := by
      rcases hb with h | h
      · simp_all [dg_eq_nil]
      · rw [h, Nat.pow_zero, Nat.mul_one]
    refine T_seq ?_
    refine T_region ?_
    refine R_op rfl rfl rfl (op_move (Has.t rfl)) ?_
    refine R_op rfl rfl rfl (op_assign (Has.t rfl)) ?_
    refine R_nil ?_
    refine T_ret1 rfl (rv_to (rv_tmp rfl) ?_)
    exact (natT_of h0.symm)
  · clear hb
    have hr := Nat.mod_lt k (by decide : 32 > 0)
    refine T_skip ?_
    refine T_seq ?_
    refine T_region ?_
    refine R_op rfl rfl rfl (op_move (Has.t rfl)) ?_
    refine R_op rfl rfl rfl (op_quoN (Has.t rfl) (Has.cN 32) (by omega) (by show _ < 9223372036854775808; first | omega | (simp only [lim]; omega))) ?_
    refine R_op rfl rfl rfl (op_move (Has.t rfl)) ?_
    refine R_op rfl rfl rfl (op_remN (Has.t rfl) (Has.cN 32) (by omega)) ?_
    refine R_op rfl rfl rfl (op_convN Tryz.runUnderlying3 Tryz.runUnderlying241 (Has.t rfl) (by show _ < 18446744073709551616; first | omega | (simp only [lim]; omega))) ?_
    refine R_op rfl rfl rfl (op_assign (Has.t rfl)) ?_
    refine R_op rfl rfl rfl (op_assign (Has.t rfl)) ?_
    refine R_nil ?_
    refine T_seq ?_
    refine T_region ?_
    refine R_op rfl rfl rfl (op_move (Has.t rfl)) ?_
    refine R_op rfl rfl rfl (op_len Tryz.runUnderlying45 (Has.t rfl) len_map) ?_
    refine R_op rfl rfl rfl (op_move (Has.t rfl)) ?_
    refine R_op rfl rfl rfl (op_addN (Has.t rfl) (Has.t rfl) (by show _ < 9223372036854775808; first | omega | (simp only [lim]; omega))) ?_
    refine R_op rfl rfl rfl (op_addN (Has.t rfl) (Has.cN 1) (by show _ < 9223372036854775808; first | omega | (simp only [lim]; omega))) ?_
    refine R_new rfl rfl rfl (new_make (T := U32T 0) (i := Tryz.t97) Tryz.underlying45 info_97 rfl rfl (Has.t rfl) rfl (fun _ => rfl) trivial (by show 4 * _ ≤ _; omega) (by omega)) (fun B29 => ?_)
    refine R_op rfl rfl rfl (op_assign (Has.t rfl)) ?_
    refine R_nil ?_
    refine T_seq ?_
    refine T_seq ?_
    refine T_region ?_
    refine R_op rfl rfl rfl (op_move (Has.t rfl)) ?_
    refine R_op rfl rfl rfl (op_len Tryz.runUnderlying45 (Has.t rfl) len_map) ?_
    refine R_op rfl rfl rfl (op_move (Has.cN 0)) ?_
    refine R_nil ?_
    refine T_block ?_
    refine T_loop2 (fun (i : Nat) (out : List Nat) => ShlS (dg m) (k / 32) (k % 32) out i) (fun (i : Nat) (out : List Nat) => (dg m).length - i) (fun (i : Nat) (out : List Nat) => [(5, NT .i64 (k / 32)), (6, NT .u64 (k % 32)), (7, Is (.slice (some ⟨B29, 0, none⟩) ((dg m).length + k / 32 + 1) ((dg m).length + k / 32 + 1))), (30, NatT m), (31, NT .i64 (dg m).length), (32, NT .i64 i)]) (fun (i : Nat) (out : List Nat) => [box B29 97 (out.map U32T)]) 0 (List.replicate ((dg m).length + k / 32 + 1) 0) (ShlS.start _ _ _)
      (Sub.cons rfl (Sub.cons rfl (Sub.cons rfl (Sub.cons rfl (Sub.cons rfl (Sub.cons rfl Sub.nil)))))) (HSub.cons (box_of (rep_map _)) HSub.nil) (fun i out hS => ?_)
    refine T_seq ?_
    refine T_region ?_
    refine R_op rfl rfl rfl (op_lssN (Has.t rfl) (Has.t rfl)) ?_
    refine R_nil ?_
    refine T_seq ?_
    refine T_cond (Has.t rfl) (fun hb => ?_) (fun hb => ?_)
    · simp at hb
      have hlen := hS.len; have hxi := getD_lt (dig_dg m) i; have hok := getD_lt hS.dig (i + k / 32)
      have hv := shl_bound hxi hr
      have hd : (dg m).getD i 0 * 2 ^ (k % 32) / 2 ^ 32 < 4294967296 := Nat.div_lt_of_lt_mul hv
      simp only [BB] at hxi hok
      refine T_skip ?_
      refine T_seq ?_
      refine T_block ?_
      refine T_seq ?_
      refine T_region ?_
      refine R_op rfl rfl rfl (op_move (Has.t rfl)) ?_
      refine R_op rfl rfl rfl (op_idx Tryz.runUnderlying45 Tryz.sizeOf97 (Has.t rfl) (Has.t rfl) rfl (map_get (get_some (by omega)))) ?_
      refine R_op rfl rfl rfl (op_ld Tryz.isAgg97 Tryz.sizeOf97 (Has.t rfl)) ?_
      refine R_op rfl rfl rfl (op_assign (Has.t rfl)) ?_
      refine R_op rfl rfl rfl (op_assign (Has.t rfl)) ?_
      refine R_nil ?_
      refine T_seq ?_
      refine T_region ?_
      refine R_op rfl rfl rfl (op_move (Has.t rfl)) ?_
      refine R_op rfl rfl rfl (op_convN Tryz.runUnderlying97 Tryz.runUnderlying235 (Has.t rfl) (by show _ < 18446744073709551616; first | omega | (simp only [lim]; omega))) ?_
      refine R_op rfl rfl rfl (op_move (Has.t rfl)) ?_
      refine R_op rfl rfl rfl (op_shlN (Has.t rfl) (Has.t rfl) (by show _ ≤ _; simp [IntKind.bits]; omega) (by show _ < 18446744073709551616; exact hv)) ?_
      refine R_op rfl rfl rfl (op_assign (Has.t rfl)) ?_
      refine R_nil ?_
      refine T_seq ?_
      refine T_region ?_
      refine R_op rfl rfl rfl (op_move (Has.t rfl)) ?_
      refine R_op rfl rfl rfl (op_move (Has.t rfl)) ?_
      refine R_op rfl rfl rfl (op_move (Has.t rfl)) ?_
      refine R_op rfl rfl rfl (op_addN (Has.t rfl) (Has.t rfl) (by show _ < 9223372036854775808; first | omega | (simp only [lim]; omega))) ?_
      refine R_op rfl rfl rfl (op_idxB Tryz.runUnderlying45 Tryz.sizeOf97 (Has.t rfl) (Has.t rfl) rfl (by omega) (by rw [Nat.mul_one, Nat.zero_add])) ?_
      refine R_op rfl rfl rfl (op_ldB Tryz.isAgg97 Tryz.sizeOf97 (Has.t rfl) (i := 0) rfl (map_get (get_some (by omega)))) ?_
      refine R_op rfl rfl rfl (op_move (Has.t rfl)) ?_
      refine R_op rfl rfl rfl (op_convU rfl Tryz.runUnderlying235 Tryz.runUnderlying97 (Has.t rfl)) ?_
      refine R_op rfl rfl rfl (op_orN rfl (Has.t rfl) (Has.t rfl) (by show _ < 4294967296; omega) (by show _ % 4294967296 < 4294967296; omega)) ?_
      refine R_op rfl rfl rfl (op_idxB Tryz.runUnderlying45 Tryz.sizeOf97 (Has.t rfl) (Has.t rfl) rfl (by omega) (by rw [Nat.mul_one, Nat.zero_add])) ?_
      refine R_st Tryz.sizeOf97 (Has.t rfl) (Has.t rfl) (i := 0) rfl (by first | omega | (simp; omega)) rfl ?_
      refine R_nil ?_
      refine T_region ?_
      refine R_op rfl rfl rfl (op_move (Has.t rfl)) ?_
      refine R_op rfl rfl rfl (op_move (Has.t rfl)) ?_
      refine R_op rfl rfl rfl (op_move (Has.t rfl)) ?_
      refine R_op rfl rfl rfl (op_addN (Has.t rfl) (Has.t rfl) (by show _ < 9223372036854775808; first | omega | (simp only [lim]; omega))) ?_
      refine R_op rfl rfl rfl (op_addN (Has.t rfl) (Has.cN 1) (by show _ < 9223372036854775808; first | omega | (simp only [lim]; omega))) ?_
      refine R_op rfl rfl rfl (op_move (Has.t rfl)) ?_
      refine R_op rfl rfl rfl (op_shrN (Has.t rfl) (Has.cN 32) (by decide)) ?_
      refine R_op rfl rfl rfl (op_convN Tryz.runUnderlying235 Tryz.runUnderlying97 (Has.t rfl) (by show _ < 4294967296; exact hd)) ?_
      refine R_op rfl rfl rfl (op_idxB Tryz.runUnderlying45 Tryz.sizeOf97 (Has.t rfl) (Has.t rfl) rfl (by omega) (by rw [Nat.mul_one, Nat.zero_add])) ?_
      refine R_st Tryz.sizeOf97 (Has.t rfl) (Has.t rfl) (i := 0) rfl (by first | omega | (simp; omega)) rfl ?_
      refine R_nil ?_
      refine T_blk ?_
      refine T_region ?_
      refine R_op rfl rfl rfl (op_addN (Has.t rfl) (Has.cN 1) (by show _ < 9223372036854775808; first | omega | (simp only [lim]; omega))) ?_
      refine R_op rfl rfl rfl (op_move (Has.t rfl)) ?_
      refine R_nil ?_
      refine T_again (i + 1, _) (hS.next (dig_dg m) hr hb rfl rfl) (by dsimp only; omega) (Sub.cons rfl (Sub.cons rfl (Sub.cons rfl (Sub.cons rfl (Sub.cons rfl (Sub.cons rfl Sub.nil)))))) (HSub.cons (box_of (set_map2 _ _ _ _ _)) HSub.nil)
    · simp at hb
      have hkl : i = (dg m).length := Nat.le_antisymm hS.kle hb
      subst hkl
      have hlen := hS.len
      have hfin := hS.fin
      rw [val_dg, shift_split] at hfin
      refine T_exit rfl ?_
      refine T_freeze (i := 0) (tt := 7) rfl rfl (frz_ds rfl hlen.symm (Nat.le_refl _)) ?_
      refine T_seq ?_
      refine T_region ?_
      refine R_op rfl rfl rfl (op_move (Has.t rfl)) ?_
      refine R_op rfl rfl rfl (op_call Tryz.call181 (c_trim _ hS.dig (by omega)) ⟨(Has.t rfl), trivial⟩) ?_
      refine R_op rfl rfl rfl (op_assign (Has.t rfl)) ?_
      refine R_nil ?_
      refine T_ret1 rfl (rv_to (rv_tmp rfl) ?_)
      exact (natT_of hfin)
set_option maxRecDepth 20000 in
theorem c_shr {m k : Nat} (hm : (dg m).length ≤ 17592186044416) (hk : k ≤ 562949953421312) : Fun Tryz.prog 217 [NatT m, NT .i64 k] (NatT (m / 2 ^ k)) := by
  refine Fun.intro Tryz.func217 rfl Tryz.ntmps217 rfl (fun cx => ?_)
  have hr := Nat.mod_lt k (by decide : 32 > 0)
  refine T_seq ?_
  refine T_region ?_
  refine R_op rfl rfl rfl (op_assign Has.c) ?_
  refine R_nil ?_
  refine T_seq ?_
  refine T_region ?_
  refine R_op rfl rfl rfl (op_move (Has.t rfl)) ?_
  refine R_op rfl rfl rfl (op_quoN (Has.t rfl) (Has.cN 32) (by omega) (by show _ < 9223372036854775808; first | omega | (simp only [lim]; omega))) ?_
  refine R_op rfl rfl rfl (op_move (Has.t rfl)) ?_
  refine R_op rfl rfl rfl (op_remN (Has.t rfl) (Has.cN 32) (by omega)) ?_
  refine R_op rfl rfl rfl (op_convN Tryz.runUnderlying3 Tryz.runUnderlying241 (Has.t rfl) (by show _ < 18446744073709551616; first | omega | (simp only [lim]; omega))) ?_
  refine R_op rfl rfl rfl (op_assign (Has.t rfl)) ?_
  refine R_op rfl rfl rfl (op_assign (Has.t rfl)) ?_
  refine R_nil ?_
  refine T_seq ?_
  refine T_seq ?_
  refine T_region ?_
  refine R_op rfl rfl rfl (op_move (Has.t rfl)) ?_
  refine R_op rfl rfl rfl (op_move (Has.t rfl)) ?_
  refine R_op rfl rfl rfl (op_len Tryz.runUnderlying45 (Has.t rfl) len_map) ?_
  refine R_op rfl rfl rfl (op_geqN (Has.t rfl) (Has.t rfl)) ?_
  refine R_nil ?_
  refine T_cond (Has.t rfl) (fun hb => ?_) (fun hb => ?_)
  · simp at hb
    have h0 := shr_none (dig_dg m) hb (r := k % 32)
    rw [val_dg, shift_split] at h0
    refine T_seq ?_
    refine T_region ?_
    refine R_op rfl rfl rfl (op_assign Has.c) ?_
    refine R_nil ?_
    refine T_ret1 rfl (rv_to (rv_tmp rfl) ?_)
    exact (fun v V h => natT_of h0.symm v V (nil_natT v V h))
  · simp at hb
    refine T_skip ?_
    refine T_seq ?_
    refine T_region ?_
    refine R_op rfl rfl rfl (op_move (Has.t rfl)) ?_
    refine R_op rfl rfl rfl (op_len Tryz.runUnderlying45 (Has.t rfl) len_map) ?_
    refine R_op rfl rfl rfl (op_move (Has.t rfl)) ?_
    refine R_op rfl rfl rfl (op_subN (Has.t rfl) (Has.t rfl) (by omega) (by show _ < 9223372036854775808; first | omega | (simp only [lim]; omega))) ?_
    refine R_new rfl rfl rfl (new_make (T := U32T 0) (i := Tryz.t97) Tryz.underlying45 info_97 rfl rfl (Has.t rfl) rfl (fun _ => rfl) trivial (by show 4 * _ ≤ _; omega) (by omega)) (fun B23 => ?_)
    refine R_op rfl rfl rfl (op_assign (Has.t rfl)) ?_
    refine R_nil ?_
    refine T_seq ?_
    refine T_seq ?_
    refine T_region ?_
    refine R_op rfl rfl rfl (op_move (Has.t rfl)) ?_
    refine R_op rfl rfl rfl (op_lenI Tryz.runUnderlying45 (Has.t rfl)) ?_
    refine R_op rfl rfl rfl (op_move (Has.cN 0)) ?_
    refine R_nil ?_
    refine T_block ?_
    refine T_loop2 (fun (i : Nat) (out : List Nat) => ShrS (dg m) (k / 32) (k % 32) out i) (fun (i : Nat) (out : List Nat) => (dg m).length - i) (fun (i : Nat) (out : List Nat) => [(0, NatT m), (5, NT .i64 (k / 32)), (6, NT .u64 (k % 32)), (7, Is (.slice (some ⟨B23, 0, none⟩) ((dg m).length - k / 32) ((dg m).length - k / 32))), (25, NT .i64 ((dg m).length - k / 32 : Nat)), (26, NT .i64 i)]) (fun (i : Nat) (out : List Nat) => [box B23 97 (out.map U32T)]) 0 (List.replicate ((dg m).length - k / 32) 0) (ShrS.start _ _ _)
      (Sub.cons rfl (Sub.cons rfl (Sub.cons rfl (Sub.cons rfl (Sub.cons rfl (Sub.cons rfl Sub.nil)))))) (HSub.cons (box_of (rep_map _)) HSub.nil) (fun i out hS => ?_)
    refine T_seq ?_
    refine T_region ?_
    refine R_op rfl rfl rfl (op_lssN (Has.t rfl) (Has.t rfl)) ?_
    refine R_nil ?_
    refine T_seq ?_
    refine T_cond (Has.t rfl) (fun hb => ?_) (fun hb => ?_)
    · simp at hb
      have hlen := hS.len; have hx0 := getD_lt (dig_dg m) (i + k / 32); have hx1 := getD_lt (dig_dg m) (i + k / 32 + 1)
      have hio : i < out.length := by omega
      simp only [BB] at hx0 hx1
      refine T_skip ?_
      refine T_seq ?_
      refine T_block ?_
      refine T_seq ?_
      refine T_region ?_
      refine R_op rfl rfl rfl (op_move (Has.t rfl)) ?_
      refine R_op rfl rfl rfl (op_assign (Has.t rfl)) ?_
      refine R_nil ?_
      refine T_seq ?_
      refine T_region ?_
      refine R_op rfl rfl rfl (op_move (Has.t rfl)) ?_
      refine R_op rfl rfl rfl (op_move (Has.t rfl)) ?_
      refine R_op rfl rfl rfl (op_move (Has.t rfl)) ?_
      refine R_op rfl rfl rfl (op_addN (Has.t rfl) (Has.t rfl) (by show _ < 9223372036854775808; first | omega | (simp only [lim]; omega))) ?_
      refine R_op rfl rfl rfl (op_idx Tryz.runUnderlying45 Tryz.sizeOf97 (Has.t rfl) (Has.t rfl) rfl (map_get (get_some (by omega)))) ?_
      refine R_op rfl rfl rfl (op_ld Tryz.isAgg97 Tryz.sizeOf97 (Has.t rfl)) ?_
      refine R_op rfl rfl rfl (op_convN Tryz.runUnderlying97 Tryz.runUnderlying235 (Has.t rfl) (by show _ < 18446744073709551616; first | omega | (simp only [lim]; omega))) ?_
      refine R_op rfl rfl rfl (op_assign (Has.t rfl)) ?_
      refine R_nil ?_
      refine T_seq ?_
      refine T_join (fun (v : Nat) => v = (dg m).getD (i + k / 32) 0 + BB * (dg m).getD (i + k / 32 + 1) 0) (fun (v : Nat) => [(0, NatT m), (5, NT .i64 (k / 32)), (6, NT .u64 (k % 32)), (7, Is (.slice (some ⟨B23, 0, none⟩) ((dg m).length - k / 32) ((dg m).length - k / 32))), (8, NT .i64 i), (9, NT .u64 v), (25, NT .i64 ((dg m).length - k / 32 : Nat)), (26, NT .i64 i)]) (fun (v : Nat) => [box B23 97 (out.map U32T)]) ?_ (fun v hv => ?_)
      · refine T_seq ?_
        refine T_region ?_
        refine R_op rfl rfl rfl (op_move (Has.t rfl)) ?_
        refine R_op rfl rfl rfl (op_move (Has.t rfl)) ?_
        refine R_op rfl rfl rfl (op_addN (Has.t rfl) (Has.t rfl) (by show _ < 9223372036854775808; first | omega | (simp only [lim]; omega))) ?_
        refine R_op rfl rfl rfl (op_addN (Has.t rfl) (Has.cN 1) (by show _ < 9223372036854775808; first | omega | (simp only [lim]; omega))) ?_
        refine R_op rfl rfl rfl (op_move (Has.t rfl)) ?_
        refine R_op rfl rfl rfl (op_len Tryz.runUnderlying45 (Has.t rfl) len_map) ?_
        refine R_op rfl rfl rfl (op_lssN (Has.t rfl) (Has.t rfl)) ?_
        refine R_nil ?_
        refine T_cond (Has.t rfl) (fun hk2 => ?_) (fun hk2 => ?_)
        · simp at hk2
          refine T_region ?_
          refine R_op rfl rfl rfl (op_move (Has.t rfl)) ?_
          refine R_op rfl rfl rfl (op_move (Has.t rfl)) ?_
          refine R_op rfl rfl rfl (op_move (Has.t rfl)) ?_
          refine R_op rfl rfl rfl (op_move (Has.t rfl)) ?_
          refine R_op rfl rfl rfl (op_addN (Has.t rfl) (Has.t rfl) (by show _ < 9223372036854775808; first | omega | (simp only [lim]; omega))) ?_
          refine R_op rfl rfl rfl (op_addN (Has.t rfl) (Has.cN 1) (by show _ < 9223372036854775808; first | omega | (simp only [lim]; omega))) ?_
          refine R_op rfl rfl rfl (op_idx Tryz.runUnderlying45 Tryz.sizeOf97 (Has.t rfl) (Has.t rfl) rfl (map_get (get_some (by omega)))) ?_
          refine R_op rfl rfl rfl (op_ld Tryz.isAgg97 Tryz.sizeOf97 (Has.t rfl)) ?_
          refine R_op rfl rfl rfl (op_convN Tryz.runUnderlying97 Tryz.runUnderlying235 (Has.t rfl) (by show _ < 18446744073709551616; first | omega | (simp only [lim]; omega))) ?_
          refine R_op rfl rfl rfl (op_shlN (Has.t rfl) (Has.cN 32) (by decide) (by show _ < 18446744073709551616; omega)) ?_
          refine R_op rfl rfl rfl (OpTy.nat (op_orN rfl (Has.t rfl) (Has.t rfl) (by show _ < 18446744073709551616; first | omega | (simp only [lim]; omega)) (by show _ < 18446744073709551616; first | omega | (simp only [lim]; omega))) (or_add' hx0)) ?_
          refine R_op rfl rfl rfl (op_assign (Has.t rfl)) ?_
          refine R_nil ?_
          refine T_joined ((dg m).getD (i + k / 32) 0 + BB * (dg m).getD (i + k / 32 + 1) 0) rfl (Sub.cons rfl (Sub.cons rfl (Sub.cons rfl (Sub.cons rfl (Sub.cons rfl (Sub.cons rfl (Sub.cons rfl (Sub.cons rfl Sub.nil)))))))) (HSub.refl _)
        · simp at hk2
          refine T_skip ?_
          refine T_joined ((dg m).getD (i + k / 32) 0) (by simp [List.getD, List.getElem?_eq_none hk2]) (Sub.cons rfl (Sub.cons rfl (Sub.cons rfl (Sub.cons rfl (Sub.cons rfl (Sub.cons rfl (Sub.cons rfl (Sub.cons rfl Sub.nil)))))))) (HSub.refl _)
      · refine T_region ?_
        refine R_op rfl rfl rfl (op_move (Has.t rfl)) ?_
        refine R_op rfl rfl rfl (op_move (Has.t rfl)) ?_
        refine R_op rfl rfl rfl (op_move (Has.t rfl)) ?_
        refine R_op rfl rfl rfl (op_move (Has.t rfl)) ?_
        refine R_op rfl rfl rfl (op_shrN (Has.t rfl) (Has.t rfl) (by show _ ≤ 64; omega)) ?_
        refine R_op rfl rfl rfl (op_convU rfl Tryz.runUnderlying235 Tryz.runUnderlying97 (Has.t rfl)) ?_
        refine R_op rfl rfl rfl (op_idxB Tryz.runUnderlying45 Tryz.sizeOf97 (Has.t rfl) (Has.t rfl) rfl (by omega) (by rw [Nat.mul_one, Nat.zero_add])) ?_
        refine R_st Tryz.sizeOf97 (Has.t rfl) (Has.t rfl) (i := 0) rfl (by first | omega | (simp; omega)) rfl ?_
        refine R_nil ?_
        refine T_blk ?_
        refine T_region ?_
        refine R_op rfl rfl rfl (op_addN (Has.t rfl) (Has.cN 1) (by show _ < 9223372036854775808; first | omega | (simp only [lim]; omega))) ?_
        refine R_op rfl rfl rfl (op_move (Has.t rfl)) ?_
        refine R_nil ?_
        refine T_again (i + 1, _) (hS.next (dig_dg m) hr hio (by rw [hv]; rfl)) (by dsimp only; omega) (Sub.cons rfl (Sub.cons rfl (Sub.cons rfl (Sub.cons rfl (Sub.cons rfl (Sub.cons rfl Sub.nil)))))) (HSub.cons (box_of (set_map _ _ _)) HSub.nil)
    · simp at hb
      have hlen := hS.len
      have hkl : i = out.length := Nat.le_antisymm hS.kle (by omega)
      subst hkl
      have hfin := hS.fin (dig_dg m) (by omega)
      rw [val_dg, shift_split] at hfin
      refine T_exit rfl ?_
      refine T_freeze (i := 0) (tt := 7) rfl rfl (frz_ds rfl hlen.symm (Nat.le_refl _)) ?_
      refine T_seq ?_
      refine T_region ?_
      refine R_op rfl rfl rfl (op_move (Has.t rfl)) ?_
      refine R_op rfl rfl rfl (op_call Tryz.call181 (c_trim _ hS.dig (by omega)) ⟨(Has.t rfl), trivial⟩) ?_
      refine R_op rfl rfl rfl (op_assign (Has.t rfl)) ?_
      refine R_nil ?_
      refine T_ret1 rfl (rv_to (rv_tmp rfl) ?_)
      exact (natT_of hfin)
set_option maxRecDepth 20000 in
theorem c_short {m y : Nat} (hm : (dg m).length ≤ 17592186044416) (hy : 0 < y) (hyb : y < BB) : Fun Tryz.prog 214 [NatT m, U32T y] (TupT [NatT (m / y), U32T (m % y)]) := by
  refine Fun.intro Tryz.func214 rfl Tryz.ntmps214 rfl (fun cx => ?_)
  refine T_seq ?_
  refine T_region ?_
  refine R_op rfl rfl rfl (op_assign Has.c) ?_
  refine R_op rfl rfl rfl (op_assign (Has.cN 0)) ?_
  refine R_nil ?_
  refine T_seq ?_
  refine T_region ?_
  refine R_op rfl rfl rfl (op_move (Has.t rfl)) ?_
  refine R_op rfl rfl rfl (op_len Tryz.runUnderlying45 (Has.t rfl) len_map) ?_
  refine R_new rfl rfl rfl (new_make (T := U32T 0) (i := Tryz.t97) Tryz.underlying45 info_97 rfl rfl (Has.t rfl) rfl (fun _ => rfl) trivial (by show 4 * _ ≤ _; omega) (by omega)) (fun B11 => ?_)
  refine R_op rfl rfl rfl (op_assign (Has.t rfl)) ?_
  refine R_nil ?_
  refine T_seq ?_
  refine T_region ?_
  refine R_op rfl rfl rfl (op_assign (Has.cN 0)) ?_
  refine R_nil ?_
  refine T_seq ?_
  refine T_seq ?_
  refine T_region ?_
  refine R_op rfl rfl rfl (op_move (Has.t rfl)) ?_
  refine R_op rfl rfl rfl (op_len Tryz.runUnderlying45 (Has.t rfl) len_map) ?_
  refine R_op rfl rfl rfl (op_sub (Has.t rfl) Has.c (w64 (by omega))) ?_
  refine R_op rfl rfl rfl (op_assign (Has.t rfl)) ?_
  refine R_nil ?_
  refine T_block ?_
  refine T_loop3 (fun (k : Nat) (out : List Nat) (r : Nat) => ShortS (dg m) y out k r) (fun (k : Nat) (out : List Nat) (r : Nat) => k) (fun (k : Nat) (out : List Nat) (r : Nat) => [(0, NatT m), (1, U32T y), (6, Is (.slice (some ⟨B11, 0, none⟩) (dg m).length (dg m).length)), (7, U32T r), (8, IntT .i64 ((k : Int) - 1))]) (fun (k : Nat) (out : List Nat) (r : Nat) => [box B11 97 (out.map U32T)]) (dg m).length (List.replicate (dg m).length 0) 0 (ShortS.start _ hy)
    (Sub.cons rfl (Sub.cons rfl (Sub.cons rfl (Sub.cons rfl (Sub.cons rfl Sub.nil))))) (HSub.cons (box_of (rep_map _)) HSub.nil) (fun k out r hS => ?_)
  refine T_seq ?_
  refine T_seq ?_
  refine T_region ?_
  refine R_op rfl rfl rfl (op_move (Has.t rfl)) ?_
  refine R_op rfl rfl rfl (op_geq (Has.t rfl) Has.c) ?_
  refine R_nil ?_
  refine T_cond (Has.t rfl) (fun hb => ?_) (fun hb => ?_)
  · simp at hb
    have hlen := hS.len; have hkl := hS.kle
    refine T_skip ?_
    refine T_seq ?_
    refine T_block ?_
    refine T_region ?_
    refine R_op rfl rfl rfl (op_move (Has.t rfl)) ?_
    refine R_op rfl rfl rfl (op_move (Has.t rfl)) ?_
    refine R_op rfl rfl rfl (op_move (Has.t rfl)) ?_
    refine R_op rfl rfl rfl (op_move (Has.t rfl)) ?_
    refine R_op rfl rfl rfl (op_move (Has.t rfl)) ?_
    refine R_op rfl rfl rfl (op_idx Tryz.runUnderlying45 Tryz.sizeOf97 (Has.t rfl) (Has.t rfl) (show ((k : Int) - 1) = ((k - 1 : Nat) : Int) by omega) (map_get (get_some (by omega)))) ?_
    refine R_op rfl rfl rfl (op_ld Tryz.isAgg97 Tryz.sizeOf97 (Has.t rfl)) ?_
    refine R_op rfl rfl rfl (op_move (Has.t rfl)) ?_
    refine R_op rfl rfl rfl (op_call Tryz.call237 (c_div32 hS.rlt (getD_lt (dig_dg m) (k - 1)) hyb) ⟨(Has.t rfl), (Has.t rfl), (Has.t rfl), trivial⟩) ?_
    refine R_op rfl rfl rfl (op_move (Has.t rfl)) ?_
    refine R_op rfl rfl rfl (op_extract (Has.t rfl) rfl) ?_
    refine R_op rfl rfl rfl (op_extract (Has.t rfl) rfl) ?_
    refine R_op rfl rfl rfl (op_idxB Tryz.runUnderlying45 Tryz.sizeOf97 (Has.t rfl) (Has.t rfl) (show ((k : Int) - 1) = ((k - 1 : Nat) : Int) by omega) (by omega) (by rw [Nat.mul_one, Nat.zero_add])) ?_
    refine R_st Tryz.sizeOf97 (Has.t rfl) (Has.t rfl) (i := 0) rfl (by first | omega | (simp; omega)) rfl ?_
    refine R_op rfl rfl rfl (op_assign (Has.t rfl)) ?_
    refine R_nil ?_
    refine T_blk ?_
    refine T_region ?_
    refine R_op rfl rfl rfl (op_move (Has.t rfl)) ?_
    refine R_op rfl rfl rfl (op_sub (Has.t rfl) Has.c (w64 (by omega))) ?_
    refine R_op rfl rfl rfl (op_assign (Has.t rfl)) ?_
    refine R_nil ?_
    refine T_again (k - 1, _, _) (hS.next (dig_dg m) (by omega) rfl) (by dsimp only; omega) (Sub.cons rfl (Sub.cons rfl (Sub.cons rfl (Sub.cons rfl (Sub.to rfl (int_of (by omega)) Sub.nil))))) (HSub.cons (box_of (set_map _ _ _)) HSub.nil)
  · simp at hb
    have hk0 : k = 0 := by omega
    subst hk0
    have hlen := hS.len
    have hfin := hS.fin
    rw [val_dg] at hfin
    refine T_exit rfl ?_
    refine T_freeze (i := 0) (tt := 6) rfl rfl (frz_ds rfl hlen.symm (Nat.le_refl _)) ?_
    refine T_seq ?_
    refine T_region ?_
    refine R_op rfl rfl rfl (op_move (Has.t rfl)) ?_
    refine R_op rfl rfl rfl (op_call Tryz.call181 (c_trim _ hS.dig (by omega)) ⟨(Has.t rfl), trivial⟩) ?_
    refine R_op rfl rfl rfl (op_move (Has.t rfl)) ?_
    refine R_op rfl rfl rfl (op_assign (Has.t rfl)) ?_
    refine R_op rfl rfl rfl (op_assign (Has.t rfl)) ?_
    refine R_nil ?_
    refine T_ret2 rfl (rv_to (rv_tmp rfl) ?_) (rv_to (rv_tmp rfl) ?_)
    · exact (natT_of hfin.1)
    · exact (nt_of hfin.2)
end Go.Proofs.YtppibhcfaahgpaaGreat
namespace Go.Proofs.YtppibhcfaahgpaaGreat
open Go Go.RowKit
set_option maxRecDepth 20000 in
theorem c_take {us vs : List Nat} {q j B l : Nat} (hul : us.length = l) (hu : Dig us) (hv : Dig vs) (hq : q < BB) (hl : j + vs.length < us.length) (hL : us.length ≤ 1152921504606846976) :
    FunO Tryz.prog 216 [Is (.slice (some ⟨B, 0, none⟩) l l), DsT vs, NT .u64 q, NT .i64 j] [box B 97 (us.map U32T)] (List Nat × Bool) (fun x => BoolT x.2) (fun x => [box B 97 (x.1.map U32T)]) (fun x => TookS us vs q j x.1 x.2) := by
  refine FunO.intro Tryz.func216 rfl Tryz.ntmps216 rfl (fun cx Z => ?_)
  refine T_seq ?_
  refine T_region ?_
  refine R_op rfl rfl rfl (op_assign Has.c) ?_
  refine R_nil ?_
  refine T_seq ?_
  refine T_region ?_
  refine R_op rfl rfl rfl (op_assign (Has.cN 0)) ?_
  refine R_op rfl rfl rfl (op_assign (Has.cN 0)) ?_
  refine R_nil ?_
  refine T_seq ?_
  refine T_seq ?_
  refine T_region ?_
  refine R_op rfl rfl rfl (op_move (Has.t rfl)) ?_
  refine R_op rfl rfl rfl (op_len Tryz.runUnderlying45 (Has.t rfl) len_map) ?_
  refine R_op rfl rfl rfl (op_move (Has.cN 0)) ?_
  refine R_nil ?_
  refine T_block ?_
  refine T_loop4 (fun (i : Nat) (out : List Nat) (c : Nat) (b : Nat) => TakeS us vs q j out i c b) (fun (i : Nat) (out : List Nat) (c : Nat) (b : Nat) => vs.length - i) (fun (i : Nat) (out : List Nat) (c : Nat) (b : Nat) => [(0, Is (.slice (some ⟨B, 0, none⟩) l l)), (1, DsT vs), (2, NT .u64 q), (3, NT .i64 j), (9, NT .u64 c), (10, NT .u64 b), (16, DsT vs), (17, NT .i64 vs.length), (18, NT .i64 i)]) (fun (i : Nat) (out : List Nat) (c : Nat) (b : Nat) => [Z, box B 97 (out.map U32T)]) 0 us 0 0 (TakeS.start hu vs q j)
    (Sub.cons rfl (Sub.cons rfl (Sub.cons rfl (Sub.cons rfl (Sub.cons rfl (Sub.cons rfl (Sub.cons rfl (Sub.cons rfl (Sub.cons rfl Sub.nil))))))))) (HSub.refl _) (fun i out c b hS => ?_)
  refine T_seq ?_
  refine T_region ?_
  refine R_op rfl rfl rfl (op_lssN (Has.t rfl) (Has.t rfl)) ?_
  refine R_nil ?_
  refine T_seq ?_
  refine T_cond (Has.t rfl) (fun hb => ?_) (fun hb => ?_)
  · simp at hb
    have hlen := hS.len; have hcl := hS.clt; have hbl := hS.ble; have hvi := getD_lt hv i; have hok := getD_lt hS.dig (i + j)
    have hp := take_p hq hvi hS.clt
    simp only [BB] at hp hcl hvi hok
    obtain ⟨p, hp1⟩ : ∃ p, p = q * vs.getD i 0 + c := ⟨_, rfl⟩
    obtain ⟨x, hx1⟩ : ∃ x, x = ((out.getD (i + j) 0 + 18446744073709551616 - p % 4294967296) % 18446744073709551616 + 18446744073709551616 - b) % 18446744073709551616 := ⟨_, rfl⟩
    refine T_skip ?_
    refine T_seq ?_
    refine T_block ?_
    refine T_seq ?_
    refine T_region ?_
    refine R_op rfl rfl rfl (op_move (Has.t rfl)) ?_
    refine R_op rfl rfl rfl (op_idx Tryz.runUnderlying45 Tryz.sizeOf97 (Has.t rfl) (Has.t rfl) rfl (map_get (get_some (by omega)))) ?_
    refine R_op rfl rfl rfl (op_ld Tryz.isAgg97 Tryz.sizeOf97 (Has.t rfl)) ?_
    refine R_op rfl rfl rfl (op_assign (Has.t rfl)) ?_
    refine R_op rfl rfl rfl (op_assign (Has.t rfl)) ?_
    refine R_nil ?_
    refine T_seq ?_
    refine T_region ?_
    refine R_op rfl rfl rfl (op_move (Has.t rfl)) ?_
    refine R_op rfl rfl rfl (op_move (Has.t rfl)) ?_
    refine R_op rfl rfl rfl (op_convN Tryz.runUnderlying97 Tryz.runUnderlying235 (Has.t rfl) (by show _ < 18446744073709551616; first | omega | (simp only [lim]; omega))) ?_
    refine R_op rfl rfl rfl (op_mulN (Has.t rfl) (Has.t rfl) (by show _ < 18446744073709551616; first | omega | (simp only [lim]; omega))) ?_
    refine R_op rfl rfl rfl (op_move (Has.t rfl)) ?_
    refine R_op rfl rfl rfl (OpTy.nat (op_addN (Has.t rfl) (Has.t rfl) (by show _ < 18446744073709551616; first | omega | (simp only [lim]; omega))) hp1.symm) ?_
    refine R_op rfl rfl rfl (op_assign (Has.t rfl)) ?_
    refine R_nil ?_
    refine T_seq ?_
    refine T_region ?_
    refine R_op rfl rfl rfl (op_move (Has.t rfl)) ?_
    refine R_op rfl rfl rfl (op_shrN (Has.t rfl) (Has.cN 32) (by decide)) ?_
    refine R_op rfl rfl rfl (op_assign (Has.t rfl)) ?_
    refine R_nil ?_
    refine T_seq ?_
    refine T_region ?_
    refine R_op rfl rfl rfl (op_move (Has.t rfl)) ?_
    refine R_op rfl rfl rfl (op_move (Has.t rfl)) ?_
    refine R_op rfl rfl rfl (op_move (Has.t rfl)) ?_
    refine R_op rfl rfl rfl (op_addN (Has.t rfl) (Has.t rfl) (by show _ < 9223372036854775808; first | omega | (simp only [lim]; omega))) ?_
    refine R_op rfl rfl rfl (op_idxB Tryz.runUnderlying45 Tryz.sizeOf97 (Has.t rfl) (Has.t rfl) rfl (by omega) (by rw [Nat.mul_one, Nat.zero_add])) ?_
    refine R_op rfl rfl rfl (op_ldB Tryz.isAgg97 Tryz.sizeOf97 (Has.t rfl) (i := 1) rfl (map_get (get_some (by omega)))) ?_
    refine R_op rfl rfl rfl (op_convN Tryz.runUnderlying97 Tryz.runUnderlying235 (Has.t rfl) (by show _ < 18446744073709551616; first | omega | (simp only [lim]; omega))) ?_
    refine R_op rfl rfl rfl (op_move (Has.t rfl)) ?_
    refine R_op rfl rfl rfl (op_convU rfl Tryz.runUnderlying235 Tryz.runUnderlying97 (Has.t rfl)) ?_
    refine R_op rfl rfl rfl (op_convN Tryz.runUnderlying97 Tryz.runUnderlying235 (Has.t rfl) (by show _ < 18446744073709551616; first | omega | (simp only [lim]; omega))) ?_
    refine R_op rfl rfl rfl (op_subU rfl (Has.t rfl) (Has.t rfl) (by show _ ≤ 18446744073709551616; first | omega | (simp only [lim]; omega))) ?_
    refine R_op rfl rfl rfl (op_move (Has.t rfl)) ?_
    refine R_op rfl rfl rfl (OpTy.nat (op_subU rfl (Has.t rfl) (Has.t rfl) (by show _ ≤ 18446744073709551616; first | omega | (simp only [lim]; omega))) hx1.symm) ?_
    refine R_op rfl rfl rfl (op_assign (Has.t rfl)) ?_
    refine R_nil ?_
    refine T_seq ?_
    refine T_region ?_
    refine R_op rfl rfl rfl (op_move (Has.t rfl)) ?_
    refine R_op rfl rfl rfl (op_move (Has.t rfl)) ?_
    refine R_op rfl rfl rfl (op_move (Has.t rfl)) ?_
    refine R_op rfl rfl rfl (op_addN (Has.t rfl) (Has.t rfl) (by show _ < 9223372036854775808; first | omega | (simp only [lim]; omega))) ?_
    refine R_op rfl rfl rfl (op_move (Has.t rfl)) ?_
    refine R_op rfl rfl rfl (op_convU rfl Tryz.runUnderlying235 Tryz.runUnderlying97 (Has.t rfl)) ?_
    refine R_op rfl rfl rfl (op_idxB Tryz.runUnderlying45 Tryz.sizeOf97 (Has.t rfl) (Has.t rfl) rfl (by omega) (by rw [Nat.mul_one, Nat.zero_add])) ?_
    refine R_st Tryz.sizeOf97 (Has.t rfl) (Has.t rfl) (i := 1) rfl (by first | omega | (simp; omega)) rfl ?_
    refine R_nil ?_
    refine T_region ?_
    refine R_op rfl rfl rfl (op_move (Has.t rfl)) ?_
    refine R_op rfl rfl rfl (op_shrN (Has.t rfl) (Has.cN 63) (by decide)) ?_
    refine R_op rfl rfl rfl (op_assign (Has.t rfl)) ?_
    refine R_nil ?_
    refine T_blk ?_
    refine T_region ?_
    refine R_op rfl rfl rfl (op_addN (Has.t rfl) (Has.cN 1) (by show _ < 9223372036854775808; first | omega | (simp only [lim]; omega))) ?_
    refine R_op rfl rfl rfl (op_move (Has.t rfl)) ?_
    refine R_nil ?_
    refine T_again (i + 1, _, _, _) (hS.next hu hv hq hb hl hp1 (take_digit hok hbl hx1) rfl) (by dsimp only; omega) (Sub.cons rfl (Sub.cons rfl (Sub.cons rfl (Sub.cons rfl (Sub.cons rfl (Sub.cons rfl (Sub.cons rfl (Sub.cons rfl (Sub.cons rfl Sub.nil))))))))) (HSub.cons (fun _ _ _ h => h) (HSub.cons (box_of (set_map _ _ _)) HSub.nil))
  · simp at hb
    have hkl : i = vs.length := Nat.le_antisymm hS.ile hb
    subst hkl
    have hlen := hS.len; have hcl := hS.clt; have hbl := hS.ble; have hok := getD_lt hS.dig (j + vs.length)
    obtain ⟨x, hx1⟩ : ∃ x, x = ((out.getD (j + vs.length) 0 + 18446744073709551616 - c) % 18446744073709551616 + 18446744073709551616 - b) % 18446744073709551616 := ⟨_, rfl⟩
    have hfin := hS.fin hl (took_digit hok hcl hbl hx1) rfl
    simp only [BB] at hcl hok
    refine T_exit rfl ?_
    refine T_seq ?_
    refine T_region ?_
    refine R_op rfl rfl rfl (op_move (Has.t rfl)) ?_
    refine R_op rfl rfl rfl (op_move (Has.t rfl)) ?_
    refine R_op rfl rfl rfl (op_move (Has.t rfl)) ?_
    refine R_op rfl rfl rfl (op_len Tryz.runUnderlying45 (Has.t rfl) len_map) ?_
    refine R_op rfl rfl rfl (op_addN (Has.t rfl) (Has.t rfl) (by show _ < 9223372036854775808; first | omega | (simp only [lim]; omega))) ?_
    refine R_op rfl rfl rfl (op_idxB Tryz.runUnderlying45 Tryz.sizeOf97 (Has.t rfl) (Has.t rfl) rfl (by omega) (by rw [Nat.mul_one, Nat.zero_add])) ?_
    refine R_op rfl rfl rfl (op_ldB Tryz.isAgg97 Tryz.sizeOf97 (Has.t rfl) (i := 1) rfl (map_get (get_some (by omega)))) ?_
    refine R_op rfl rfl rfl (op_convN Tryz.runUnderlying97 Tryz.runUnderlying235 (Has.t rfl) (by show _ < 18446744073709551616; first | omega | (simp only [lim]; omega))) ?_
    refine R_op rfl rfl rfl (op_move (Has.t rfl)) ?_
    refine R_op rfl rfl rfl (op_subU rfl (Has.t rfl) (Has.t rfl) (by show _ ≤ 18446744073709551616; first | omega | (simp only [lim]; omega))) ?_
    refine R_op rfl rfl rfl (op_move (Has.t rfl)) ?_
    refine R_op rfl rfl rfl (OpTy.nat (op_subU rfl (Has.t rfl) (Has.t rfl) (by show _ ≤ 18446744073709551616; first | omega | (simp only [lim]; omega))) hx1.symm) ?_
    refine R_op rfl rfl rfl (op_assign (Has.t rfl)) ?_
    refine R_nil ?_
    refine T_seq ?_
    refine T_region ?_
    refine R_op rfl rfl rfl (op_move (Has.t rfl)) ?_
    refine R_op rfl rfl rfl (op_move (Has.t rfl)) ?_
    refine R_op rfl rfl rfl (op_move (Has.t rfl)) ?_
    refine R_op rfl rfl rfl (op_len Tryz.runUnderlying45 (Has.t rfl) len_map) ?_
    refine R_op rfl rfl rfl (op_addN (Has.t rfl) (Has.t rfl) (by show _ < 9223372036854775808; first | omega | (simp only [lim]; omega))) ?_
    refine R_op rfl rfl rfl (op_move (Has.t rfl)) ?_
    refine R_op rfl rfl rfl (op_convU rfl Tryz.runUnderlying235 Tryz.runUnderlying97 (Has.t rfl)) ?_
    refine R_op rfl rfl rfl (op_idxB Tryz.runUnderlying45 Tryz.sizeOf97 (Has.t rfl) (Has.t rfl) rfl (by omega) (by rw [Nat.mul_one, Nat.zero_add])) ?_
    refine R_st Tryz.sizeOf97 (Has.t rfl) (Has.t rfl) (i := 1) rfl (by first | omega | (simp; omega)) rfl ?_
    refine R_nil ?_
    refine T_seq ?_
    refine T_region ?_
    refine R_op rfl rfl rfl (op_move (Has.t rfl)) ?_
    refine R_op rfl rfl rfl (op_shrN (Has.t rfl) (Has.cN 63) (by decide)) ?_
    refine R_op rfl rfl rfl (op_neqN (Has.t rfl) (Has.cN 0)) ?_
    refine R_op rfl rfl rfl (op_assign (Has.t rfl)) ?_
    refine R_nil ?_
    exact T_retO (_, _) hfin [0, 1] ⟨⟨_, rfl, fun _ _ _ h => h⟩, ⟨_, rfl, (box_of (set_map _ _ _))⟩, trivial⟩ (by decide) (rvs1 rfl (rv_tmp rfl))
set_option maxRecDepth 20000 in
theorem c_div {m n : Nat} (hm : (dg m).length ≤ 17592186044415) (hn1 : (dg n).length ≤ 17592186044416) (hn : n ≠ 0) : Fun Tryz.prog 180 [NatT m, NatT n] (TupT [NatT (m / n), NatT (m % n)]) := by
  refine Fun.intro Tryz.func180 rfl Tryz.ntmps180 rfl (fun cx => ?_)
  refine T_seq ?_
  refine T_region ?_
  refine R_op rfl rfl rfl (op_assign Has.c) ?_
  refine R_op rfl rfl rfl (op_assign Has.c) ?_
  refine R_nil ?_
  refine T_seq ?_
  refine T_seq ?_
  refine T_region ?_
  refine R_op rfl rfl rfl (op_move (Has.t rfl)) ?_
  refine R_op rfl rfl rfl (op_move (Has.t rfl)) ?_
  refine R_op rfl rfl rfl (op_call Tryz.call101 (c_cmp (by omega) (by omega)) ⟨(Has.t rfl), (Has.t rfl), trivial⟩) ?_
  refine R_op rfl rfl rfl (op_lss (Has.t rfl) Has.c) ?_
  refine R_nil ?_
  refine T_cond (Has.t rfl) (fun hb => ?_) (fun hb => ?_)
  · simp only [decide_eq_true_eq] at hb
    have hlt : m < n := by
      unfold cmpZ at hb
      split at hb
      · assumption
      · split at hb <;> simp at hb
    refine T_seq ?_
    refine T_region ?_
    refine R_op rfl rfl rfl (op_move (Has.t rfl)) ?_
    refine R_op rfl rfl rfl (op_assign Has.c) ?_
    refine R_op rfl rfl rfl (op_assign (Has.t rfl)) ?_
    refine R_nil ?_
    refine T_ret2 rfl (rv_to (rv_tmp rfl) ?_) (rv_to (rv_tmp rfl) ?_)
    · exact (fun v V h => natT_of (Nat.div_eq_of_lt hlt).symm v V (nil_natT v V h))
    · exact (natT_of (Nat.mod_eq_of_lt hlt).symm)
  · simp only [decide_eq_false_iff_not] at hb
    have hle : n ≤ m := by
      unfold cmpZ at hb
      split at hb
      · simp at hb
      · omega
    clear hb
    refine T_skip ?_
    refine T_seq ?_
    refine T_seq ?_
    refine T_region ?_
    refine R_op rfl rfl rfl (op_move (Has.t rfl)) ?_
    refine R_op rfl rfl rfl (op_len Tryz.runUnderlying45 (Has.t rfl) len_map) ?_
    refine R_op rfl rfl rfl (op_eqlN (Has.t rfl) (Has.cN 1)) ?_
    refine R_nil ?_
    refine T_cond (Has.t rfl) (fun h1 => ?_) (fun h1 => ?_)
    · simp at h1
      have hy0 := dg_one h1
      have hyb := getD_lt (dig_dg n) 0
      have hmod := Nat.mod_lt m (show (dg n).getD 0 0 > 0 by omega)
      simp only [BB] at hyb
      refine T_seq ?_
      refine T_region ?_
      refine R_op rfl rfl rfl (op_move (Has.t rfl)) ?_
      refine R_op rfl rfl rfl (op_move (Has.t rfl)) ?_
      refine R_op rfl rfl rfl (op_idx Tryz.runUnderlying45 Tryz.sizeOf97 (Has.t rfl) (Has.cN 0) rfl (map_get (get_some (by omega)))) ?_
      refine R_op rfl rfl rfl (op_ld Tryz.isAgg97 Tryz.sizeOf97 (Has.t rfl)) ?_
      refine R_op rfl rfl rfl (op_call Tryz.call214 (c_short (by omega) (by omega) hyb) ⟨(Has.t rfl), (Has.t rfl), trivial⟩) ?_
      refine R_op rfl rfl rfl (op_move (Has.t rfl)) ?_
      refine R_op rfl rfl rfl (op_extract (Has.t rfl) rfl) ?_
      refine R_op rfl rfl rfl (op_extract (Has.t rfl) rfl) ?_
      refine R_op rfl rfl rfl (op_assign (Has.t rfl)) ?_
      refine R_op rfl rfl rfl (op_assign (Has.t rfl)) ?_
      refine R_nil ?_
      refine T_seq ?_
      refine T_region ?_
      refine R_op rfl rfl rfl (op_move (Has.t rfl)) ?_
      refine R_op rfl rfl rfl (op_move (Has.t rfl)) ?_
      refine R_op rfl rfl rfl (op_convN Tryz.runUnderlying97 Tryz.runUnderlying235 (Has.t rfl) (by show _ < 18446744073709551616; first | omega | (simp only [lim]; omega))) ?_
      refine R_op rfl rfl rfl (op_call Tryz.call169 (c_natOf (by omega)) ⟨(Has.t rfl), trivial⟩) ?_
      refine R_op rfl rfl rfl (op_assign (Has.t rfl)) ?_
      refine R_op rfl rfl rfl (op_assign (Has.t rfl)) ?_
      refine R_nil ?_
      refine T_ret2 rfl (rv_to (rv_tmp rfl) ?_) (rv_to (rv_tmp rfl) ?_)
      · exact (natT_of (by rw [hy0]))
      · exact (natT_of (by rw [hy0]))
    · simp at h1
      have hl0 : (dg n).length ≠ 0 := fun e => hn (dg_length_zero.1 e)
      have hyb := getD_lt (dig_dg n) ((dg n).length - 1)
      obtain ⟨s, hs⟩ : ∃ s, s = 32 - bl ((dg n).getD ((dg n).length - 1) 0) := ⟨_, rfl⟩
      obtain ⟨hs1, hvl, hvb⟩ := div_norm hn hs
      obtain ⟨hc1, hc2, hc3, hc4⟩ := copyU_ok (m := m) hs1
      simp only [BB] at hyb
      have hp2 : 0 < 2 ^ s := Nat.pow_pos (by decide)
      have hX0 : (dg (m * 2 ^ s)).length ≠ 0 := fun e => (Nat.ne_of_gt (Nat.mul_pos (show 0 < m by omega) hp2)) (dg_length_zero.1 e)
      have hmono := val_mono_len hle
      refine T_skip ?_
      refine T_seq ?_
      refine T_region ?_
      refine R_op rfl rfl rfl (op_move (Has.t rfl)) ?_
      refine R_op rfl rfl rfl (op_len Tryz.runUnderlying45 (Has.t rfl) len_map) ?_
      refine R_op rfl rfl rfl (op_move (Has.t rfl)) ?_
      refine R_op rfl rfl rfl (op_move (Has.t rfl)) ?_
      refine R_op rfl rfl rfl (op_len Tryz.runUnderlying45 (Has.t rfl) len_map) ?_
      refine R_op rfl rfl rfl (op_subN (Has.t rfl) (Has.cN 1) (by omega) (by show _ < 9223372036854775808; first | omega | (simp only [lim]; omega))) ?_
      refine R_op rfl rfl rfl (op_idx Tryz.runUnderlying45 Tryz.sizeOf97 (Has.t rfl) (Has.t rfl) rfl (map_get (get_some (by omega)))) ?_
      refine R_op rfl rfl rfl (op_ld Tryz.isAgg97 Tryz.sizeOf97 (Has.t rfl)) ?_
      refine R_op rfl rfl rfl (OpTy.nat (op_call Tryz.call215 (c_lz32 (by omega)) ⟨(Has.t rfl), trivial⟩) hs.symm) ?_
      refine R_op rfl rfl rfl (op_assign (Has.t rfl)) ?_
      refine R_op rfl rfl rfl (op_assign (Has.t rfl)) ?_
      refine R_nil ?_
      refine T_seq ?_
      refine T_region ?_
      refine R_op rfl rfl rfl (op_move (Has.t rfl)) ?_
      refine R_op rfl rfl rfl (op_move (Has.t rfl)) ?_
      refine R_op rfl rfl rfl (op_call Tryz.call184 (c_shl (by omega) (by omega)) ⟨(Has.t rfl), (Has.t rfl), trivial⟩) ?_
      refine R_op rfl rfl rfl (op_assign (Has.t rfl)) ?_
      refine R_nil ?_
      refine T_seq ?_
      refine T_region ?_
      refine R_op rfl rfl rfl (op_move (Has.t rfl)) ?_
      refine R_op rfl rfl rfl (op_len Tryz.runUnderlying45 (Has.t rfl) len_map) ?_
      refine R_op rfl rfl rfl (op_addN (Has.t rfl) (Has.cN 1) (by show _ < 9223372036854775808; first | omega | (simp only [lim]; omega))) ?_
      refine R_new rfl rfl rfl (new_make (T := U32T 0) (i := Tryz.t97) Tryz.underlying45 info_97 rfl rfl (Has.t rfl) rfl (fun _ => rfl) trivial (by show 4 * _ ≤ _; omega) (by omega)) (fun B55 => ?_)
      refine R_op rfl rfl rfl (op_assign (Has.t rfl)) ?_
      refine R_nil ?_
      refine T_seq ?_
      refine T_region ?_
      refine R_op rfl rfl rfl (op_move (Has.t rfl)) ?_
      refine R_op rfl rfl rfl (op_move (Has.t rfl)) ?_
      refine R_op rfl rfl rfl (op_move (Has.t rfl)) ?_
      refine R_op rfl rfl rfl (op_call Tryz.call184 (c_shl (by omega) (by omega)) ⟨(Has.t rfl), (Has.t rfl), trivial⟩) ?_
      refine R_copyB Tryz.runUnderlying45 Tryz.sizeOf97 (Has.t rfl) (Has.t rfl) (map_ne hX0) sh_ds (i := 0) rfl (by simp) (by simp; omega) (copy_map _ _) rfl rfl ?_
      refine R_nil ?_
      refine T_seq ?_
      refine T_region ?_
      refine R_op rfl rfl rfl (op_move (Has.t rfl)) ?_
      refine R_op rfl rfl rfl (op_lenI Tryz.runUnderlying45 (Has.t rfl)) ?_
      refine R_op rfl rfl rfl (op_move (Has.t rfl)) ?_
      refine R_op rfl rfl rfl (op_subN (Has.t rfl) (Has.t rfl) (by omega) (by show _ < 9223372036854775808; first | omega | (simp only [lim]; omega))) ?_
      refine R_new rfl rfl rfl (new_make (T := U32T 0) (i := Tryz.t97) Tryz.underlying45 info_97 rfl rfl (Has.t rfl) rfl (fun _ => rfl) trivial (by show 4 * _ ≤ _; omega) (by omega)) (fun B65 => ?_)
      refine R_op rfl rfl rfl (op_assign (Has.t rfl)) ?_
      refine R_nil ?_
      refine T_seq ?_
      refine T_seq ?_
      refine T_region ?_
      refine R_op rfl rfl rfl (op_move (Has.t rfl)) ?_
      refine R_op rfl rfl rfl (op_lenI Tryz.runUnderlying45 (Has.t rfl)) ?_
      refine R_op rfl rfl rfl (op_sub (Has.t rfl) Has.c (w64 (by omega))) ?_
      refine R_op rfl rfl rfl (op_assign (Has.t rfl)) ?_
      refine R_nil ?_
      refine T_block ?_
      obtain ⟨vs, hvs⟩ : ∃ vs, vs = dg (n * 2 ^ s) := ⟨_, rfl⟩
      rw [← hvs] at hvl hvb
      have hv : Dig vs := hvs ▸ dig_dg _
      have hvv : val vs = n * 2 ^ s := by rw [hvs, val_dg]
      have hV0 : 0 < val vs := by rw [hvv]; exact Nat.mul_pos (by omega) hp2
      have hnr := norm_of hv (by omega) hvb
      have hv1 := hnr.v1lt; have hv2 := hnr.v2lt; have hbig := hnr.big
      simp only [BB] at hv1 hv2 hbig
      refine T_loop3 (fun (k : Nat) (us : List Nat) (qs : List Nat) => DivS (m * 2 ^ s) vs us qs k ∧ us.length = (dg m).length + 1) (fun (k : Nat) (us : List Nat) (qs : List Nat) => k) (fun (k : Nat) (us : List Nat) (qs : List Nat) => [(8, NT .i64 vs.length), (9, NT .i64 s), (10, DsT vs), (11, Is (.slice (some ⟨B55, 0, none⟩) ((dg m).length + 1) ((dg m).length + 1))), (12, Is (.slice (some ⟨B65, 0, none⟩) ((dg m).length + 1 - (dg n).length) ((dg m).length + 1 - (dg n).length))), (13, IntT .i64 ((k : Int) - 1))]) (fun (k : Nat) (us : List Nat) (qs : List Nat) => [box B55 97 (us.map U32T), box B65 97 (qs.map U32T)]) ((dg m).length + 1 - (dg n).length) (copyU m s) (List.replicate ((dg m).length + 1 - (dg n).length) 0) ⟨DivS.start hv (by omega) hvb hs1 (by have := val_lt (dig_dg m); rwa [val_dg] at this) hc3 hc2 hc4 (by omega), hc2⟩
        (Sub.to rfl (nt_of hvl.symm) (Sub.cons rfl (Sub.to rfl (fun v V h => by rw [hvs]; exact h) (Sub.cons rfl (Sub.cons rfl (Sub.to rfl (int_of (by omega)) Sub.nil)))))) (HSub.cons (fun _ _ _ h => h) (HSub.cons (box_of (rep_map _)) HSub.nil)) (fun k us qs ⟨hS, hus⟩ => ?_)
      refine T_seq ?_
      refine T_seq ?_
      refine T_region ?_
      refine R_op rfl rfl rfl (op_move (Has.t rfl)) ?_
      refine R_op rfl rfl rfl (op_geq (Has.t rfl) Has.c) ?_
      refine R_nil ?_
      refine T_cond (Has.t rfl) (fun hk => ?_) (fun hk => ?_)
      · simp at hk
        obtain ⟨j, rfl⟩ : ∃ j, k = j + 1 := ⟨k - 1, by omega⟩
        have htp := hS.top hv (by omega) (Nat.succ_pos j) rfl
        have hkq := hS.kle; have hlq := hS.lenq
        rw [Nat.add_sub_cancel] at htp
        have hu0 := getD_lt hS.dig (j + vs.length); have hu1 := getD_lt hS.dig (j + vs.length - 1); have hu2 := getD_lt hS.dig (j + vs.length - 2)
        have ht64 := top64 hu0 hu1; have hsh := shl32 hu0
        obtain ⟨top, htop⟩ : ∃ top, top = us.getD (j + vs.length) 0 * BB + us.getD (j + vs.length - 1) 0 := ⟨_, rfl⟩
        have hor := (or_add (a := us.getD (j + vs.length) 0) hu1).trans htop.symm
        rw [← htop] at htp ht64
        have hu2b := hu2
        simp only [BB] at hu0 hu1 hu2
        refine T_sub (E' := [(8, _), (9, _), (10, _), (11, _), (12, _), (13, _), (69, _), (70, _)]) (Sub.cons rfl (Sub.cons rfl (Sub.cons rfl (Sub.cons rfl (Sub.cons rfl (Sub.to rfl (int_of (show ((j + 1 : Nat) : Int) - 1 = (j : Int) by omega)) (Sub.cons rfl (Sub.cons rfl Sub.nil)))))))) ?_
        refine T_skip ?_
        refine T_seq ?_
        refine T_block ?_
        refine T_seq ?_
        refine D_start (m := 16) ?_
        refine D_step (Ei := [(11, _)]) rfl rfl (Srcs.cons (Src.pre rfl rfl) Srcs.nil) (S_plain rfl (op_move (Has.t rfl))) ?_
        refine D_step (Ei := [(13, _)]) rfl rfl (Srcs.cons (Src.pre rfl rfl) Srcs.nil) (S_plain rfl (op_move (Has.t rfl))) ?_
        refine D_step (Ei := [(8, _)]) rfl rfl (Srcs.cons (Src.pre rfl rfl) Srcs.nil) (S_plain rfl (op_move (Has.t rfl))) ?_
        refine D_step (Ei := [(74, _), (75, _)]) rfl rfl (Srcs.cons (Src.op 1 rfl rfl) (Srcs.cons (Src.op 2 rfl rfl) Srcs.nil)) (S_plain rfl (op_addN (Has.t rfl) (Has.t rfl) (by show _ < 9223372036854775808; first | omega | (simp only [lim]; omega)))) ?_
        refine D_step (Ei := [(73, _), (76, _)]) rfl rfl (Srcs.cons (Src.op 0 rfl rfl) (Srcs.cons (Src.op 3 rfl rfl) Srcs.nil)) (S_plain rfl (op_idxB Tryz.runUnderlying45 Tryz.sizeOf97 (Has.t rfl) (Has.t rfl) rfl (by omega) (by rw [Nat.mul_one, Nat.zero_add]))) ?_
        refine D_step (Ei := [(77, _)]) rfl rfl (Srcs.cons (Src.op 4 rfl rfl) Srcs.nil) (S_plain rfl (op_ldB Tryz.isAgg97 Tryz.sizeOf97 (Has.t rfl) (i := 0) rfl (map_get (get_some (by omega))))) ?_
        refine D_step (Ei := [(78, _)]) rfl rfl (Srcs.cons (Src.op 5 rfl rfl) Srcs.nil) (S_plain rfl (op_convN Tryz.runUnderlying97 Tryz.runUnderlying235 (Has.t rfl) (by show _ < 18446744073709551616; first | omega | (simp only [lim]; omega)))) ?_
        refine D_step (Ei := [(79, _)]) rfl rfl (Srcs.cons (Src.op 6 rfl rfl) Srcs.nil) (S_plain rfl (op_shlN (Has.t rfl) (Has.cN 32) (by decide) hsh)) ?_
        refine D_step (Ei := [(11, _)]) rfl rfl (Srcs.cons (Src.pre rfl rfl) Srcs.nil) (S_plain rfl (op_move (Has.t rfl))) ?_
        refine D_step (Ei := [(13, _)]) rfl rfl (Srcs.cons (Src.pre rfl rfl) Srcs.nil) (S_plain rfl (op_move (Has.t rfl))) ?_
        refine D_step (Ei := [(8, _)]) rfl rfl (Srcs.cons (Src.pre rfl rfl) Srcs.nil) (S_plain rfl (op_move (Has.t rfl))) ?_
        refine D_step (Ei := [(82, _), (83, _)]) rfl rfl (Srcs.cons (Src.op 9 rfl rfl) (Srcs.cons (Src.op 10 rfl rfl) Srcs.nil)) (S_plain rfl (op_addN (Has.t rfl) (Has.t rfl) (by show _ < 9223372036854775808; first | omega | (simp only [lim]; omega)))) ?_
        refine D_step (Ei := [(84, _)]) rfl rfl (Srcs.cons (Src.op 11 rfl rfl) Srcs.nil) (S_plain rfl (op_subN (Has.t rfl) (Has.cN 1) (by omega) (by show _ < 9223372036854775808; first | omega | (simp only [lim]; omega)))) ?_
        refine D_step (Ei := [(81, _), (85, _)]) rfl rfl (Srcs.cons (Src.op 8 rfl rfl) (Srcs.cons (Src.op 12 rfl rfl) Srcs.nil)) (S_plain rfl (op_idxB Tryz.runUnderlying45 Tryz.sizeOf97 (Has.t rfl) (Has.t rfl) rfl (by omega) (by rw [Nat.mul_one, Nat.zero_add]))) ?_
        refine D_step (Ei := [(86, _)]) rfl rfl (Srcs.cons (Src.op 13 rfl rfl) Srcs.nil) (S_plain rfl (op_ldB Tryz.isAgg97 Tryz.sizeOf97 (Has.t rfl) (i := 0) rfl (map_get (get_some (by omega))))) ?_
        refine D_step (Ei := [(87, _)]) rfl rfl (Srcs.cons (Src.op 14 rfl rfl) Srcs.nil) (S_plain rfl (op_convN Tryz.runUnderlying97 Tryz.runUnderlying235 (Has.t rfl) (by show _ < 18446744073709551616; first | omega | (simp only [lim]; omega)))) ?_
        refine D_done mixed rfl (by kernel_rfl) (F_val (F_val (F_val (F_val (F_val (F_val (F_val (F_val (F_val (F_val (F_val (F_val (F_val (F_val (F_val (F_val (F_nil ?_)))))))))))))))))
        refine R_op rfl rfl rfl (OpTy.nat (op_orN rfl (Has.t rfl) (Has.t rfl) (by show _ < 18446744073709551616; first | omega | (simp only [lim]; omega)) (by show _ < 18446744073709551616; first | omega | (simp only [lim]; omega))) hor) ?_
        refine R_op rfl rfl rfl (op_assign (Has.t rfl)) ?_
        refine R_nil ?_
        refine T_seq ?_
        refine D_start (m := 17) ?_
        refine D_step (Ei := [(14, _)]) rfl rfl (Srcs.cons (Src.pre rfl rfl) Srcs.nil) (S_plain rfl (op_move (Has.t rfl))) ?_
        refine D_step (Ei := [(10, _)]) rfl rfl (Srcs.cons (Src.pre rfl rfl) Srcs.nil) (S_plain rfl (op_move (Has.t rfl))) ?_
        refine D_step (Ei := [(8, _)]) rfl rfl (Srcs.cons (Src.pre rfl rfl) Srcs.nil) (S_plain rfl (op_move (Has.t rfl))) ?_
        refine D_step (Ei := [(92, _)]) rfl rfl (Srcs.cons (Src.op 2 rfl rfl) Srcs.nil) (S_plain rfl (op_subN (Has.t rfl) (Has.cN 1) (by omega) (by show _ < 9223372036854775808; first | omega | (simp only [lim]; omega)))) ?_
        refine D_step (Ei := [(91, _), (93, _)]) rfl rfl (Srcs.cons (Src.op 1 rfl rfl) (Srcs.cons (Src.op 3 rfl rfl) Srcs.nil)) (S_plain rfl (op_idx Tryz.runUnderlying45 Tryz.sizeOf97 (Has.t rfl) (Has.t rfl) rfl (map_get (get_some (by omega))))) ?_
        refine D_step (Ei := [(94, _)]) rfl rfl (Srcs.cons (Src.op 4 rfl rfl) Srcs.nil) (S_plain rfl (op_ld Tryz.isAgg97 Tryz.sizeOf97 (Has.t rfl))) ?_
        refine D_step (Ei := [(95, _)]) rfl rfl (Srcs.cons (Src.op 5 rfl rfl) Srcs.nil) (S_plain rfl (op_convN Tryz.runUnderlying97 Tryz.runUnderlying235 (Has.t rfl) (by show _ < 18446744073709551616; first | omega | (simp only [lim]; omega)))) ?_
        refine D_step (Ei := [(90, _), (96, _)]) rfl rfl (Srcs.cons (Src.op 0 rfl rfl) (Srcs.cons (Src.op 6 rfl rfl) Srcs.nil)) (S_plain rfl (op_quoN (Has.t rfl) (Has.t rfl) (by omega) (by show _ < 18446744073709551616; exact ht64))) ?_
        refine D_step (Ei := [(14, _)]) rfl rfl (Srcs.cons (Src.pre rfl rfl) Srcs.nil) (S_plain rfl (op_move (Has.t rfl))) ?_
        refine D_step (Ei := [(10, _)]) rfl rfl (Srcs.cons (Src.pre rfl rfl) Srcs.nil) (S_plain rfl (op_move (Has.t rfl))) ?_
        refine D_step (Ei := [(8, _)]) rfl rfl (Srcs.cons (Src.pre rfl rfl) Srcs.nil) (S_plain rfl (op_move (Has.t rfl))) ?_
        refine D_step (Ei := [(100, _)]) rfl rfl (Srcs.cons (Src.op 10 rfl rfl) Srcs.nil) (S_plain rfl (op_subN (Has.t rfl) (Has.cN 1) (by omega) (by show _ < 9223372036854775808; first | omega | (simp only [lim]; omega)))) ?_
        refine D_step (Ei := [(99, _), (101, _)]) rfl rfl (Srcs.cons (Src.op 9 rfl rfl) (Srcs.cons (Src.op 11 rfl rfl) Srcs.nil)) (S_plain rfl (op_idx Tryz.runUnderlying45 Tryz.sizeOf97 (Has.t rfl) (Has.t rfl) rfl (map_get (get_some (by omega))))) ?_
        refine D_step (Ei := [(102, _)]) rfl rfl (Srcs.cons (Src.op 12 rfl rfl) Srcs.nil) (S_plain rfl (op_ld Tryz.isAgg97 Tryz.sizeOf97 (Has.t rfl))) ?_
        refine D_step (Ei := [(103, _)]) rfl rfl (Srcs.cons (Src.op 13 rfl rfl) Srcs.nil) (S_plain rfl (op_convN Tryz.runUnderlying97 Tryz.runUnderlying235 (Has.t rfl) (by show _ < 18446744073709551616; first | omega | (simp only [lim]; omega)))) ?_
        refine D_step (Ei := [(98, _), (104, _)]) rfl rfl (Srcs.cons (Src.op 8 rfl rfl) (Srcs.cons (Src.op 14 rfl rfl) Srcs.nil)) (S_plain rfl (op_remN (Has.t rfl) (Has.t rfl) (by omega))) ?_
        refine D_step (Ei := [(97, _)]) rfl rfl (Srcs.cons (Src.op 7 rfl rfl) Srcs.nil) (S_plain rfl (op_assign (Has.t rfl))) ?_
        refine D_done mixed rfl (by kernel_rfl) (F_val (F_val (F_val (F_val (F_val (F_val (F_val (F_val (F_val (F_val (F_val (F_val (F_val (F_val (F_val (F_val (F_val (F_nil ?_))))))))))))))))))
        refine R_op rfl rfl rfl (op_assign (Has.t rfl)) ?_
        refine R_nil ?_
        refine T_seq ?_
        refine T_join (fun (g : Nat) => Near (val (us.drop j)) (val vs) g) (fun (g : Nat) => [(8, NT .i64 vs.length), (9, NT .i64 s), (10, DsT vs), (11, Is (.slice (some ⟨B55, 0, none⟩) ((dg m).length + 1) ((dg m).length + 1))), (12, Is (.slice (some ⟨B65, 0, none⟩) ((dg m).length + 1 - (dg n).length) ((dg m).length + 1 - (dg n).length))), (13, NT .i64 j), (15, NT .u64 g)]) (fun (g : Nat) => [box B55 97 (us.map U32T), box B65 97 (qs.map U32T)]) ?_ (fun g hg => ?_)
        · refine T_block ?_
          refine T_loop2 (fun (g : Nat) (r : Nat) => GuessS (val (us.drop j)) (val vs) (vs.getD (vs.length - 1) 0) top g r ∧ r < 4294967296) (fun (g : Nat) (r : Nat) => g) (fun (g : Nat) (r : Nat) => [(8, NT .i64 vs.length), (9, NT .i64 s), (10, DsT vs), (11, Is (.slice (some ⟨B55, 0, none⟩) ((dg m).length + 1) ((dg m).length + 1))), (12, Is (.slice (some ⟨B65, 0, none⟩) ((dg m).length + 1 - (dg n).length) ((dg m).length + 1 - (dg n).length))), (13, NT .i64 j), (15, NT .u64 g), (16, NT .u64 r)]) (fun (g : Nat) (r : Nat) => [box B55 97 (us.map U32T), box B65 97 (qs.map U32T)]) (top / vs.getD (vs.length - 1) 0) (top % vs.getD (vs.length - 1) 0) ⟨GuessS.start hnr htp, Nat.lt_trans (Nat.mod_lt _ (by omega)) hv1⟩
            (Sub.cons rfl (Sub.cons rfl (Sub.cons rfl (Sub.cons rfl (Sub.cons rfl (Sub.cons rfl (Sub.cons rfl (Sub.cons rfl Sub.nil)))))))) (HSub.refl _) (fun g r ⟨hG, hr⟩ => ?_)
          have hgl := (hG.glt hnr htp).1
          have hrs := shl32 (a := r) hr
          have horr := or_add (a := r) hu2b
          simp only [BB] at hgl
          refine T_seq ?_
          refine T_seq ?_
          refine D_start (m := 22) ?_
          refine D_step (Ei := [(15, _)]) rfl rfl (Srcs.cons (Src.pre rfl rfl) Srcs.nil) (S_plain rfl (op_move (Has.t rfl))) ?_
          refine D_step (Ei := [(106, _)]) rfl rfl (Srcs.cons (Src.op 0 rfl rfl) Srcs.nil) (S_plain rfl (op_geqN (Has.t rfl) (Has.cN 4294967296))) ?_
          refine D_step (Ei := [(107, _)]) rfl rfl (Srcs.cons (Src.op 1 rfl rfl) Srcs.nil) (S_plain rfl (op_move (Has.t rfl))) ?_
          refine D_step (Ei := [(15, _), (108, _)]) rfl rfl (Srcs.cons (Src.pre rfl rfl) (Srcs.cons (Src.op 2 rfl rfl) Srcs.nil)) (S_when rfl rfl (Has.t rfl) (fun h => op_move (Has.t rfl))) ?_
          refine D_step (Ei := [(10, _), (108, _)]) rfl rfl (Srcs.cons (Src.pre rfl rfl) (Srcs.cons (Src.op 2 rfl rfl) Srcs.nil)) (S_when rfl rfl (Has.t rfl) (fun h => op_move (Has.t rfl))) ?_
          refine D_step (Ei := [(8, _), (108, _)]) rfl rfl (Srcs.cons (Src.pre rfl rfl) (Srcs.cons (Src.op 2 rfl rfl) Srcs.nil)) (S_when rfl rfl (Has.t rfl) (fun h => op_move (Has.t rfl))) ?_
          refine D_step (Ei := [(111, _), (108, _)]) rfl rfl (Srcs.cons (Src.op 5 rfl rfl) (Srcs.cons (Src.op 2 rfl rfl) Srcs.nil)) (S_when rfl rfl (Has.t rfl) (fun h => op_subN (Has.w rfl h) (Has.cN 2) (by first | omega | (simp at h; omega)) (by show _ < 9223372036854775808; first | omega | (simp at h; omega)))) ?_
          refine D_step (Ei := [(110, _), (112, _), (108, _)]) rfl rfl (Srcs.cons (Src.op 4 rfl rfl) (Srcs.cons (Src.op 6 rfl rfl) (Srcs.cons (Src.op 2 rfl rfl) Srcs.nil))) (S_when rfl rfl (Has.t rfl) (fun h => op_idx Tryz.runUnderlying45 Tryz.sizeOf97 (Has.w rfl h) (Has.w rfl h) rfl (map_get (get_some (by first | omega | (simp at h; omega)))))) ?_
          refine D_step (Ei := [(113, _), (108, _)]) rfl rfl (Srcs.cons (Src.op 7 rfl rfl) (Srcs.cons (Src.op 2 rfl rfl) Srcs.nil)) (S_when rfl rfl (Has.t rfl) (fun h => op_ld Tryz.isAgg97 Tryz.sizeOf97 (Has.w rfl h))) ?_
          refine D_step (Ei := [(114, _), (108, _)]) rfl rfl (Srcs.cons (Src.op 8 rfl rfl) (Srcs.cons (Src.op 2 rfl rfl) Srcs.nil)) (S_when rfl rfl (Has.t rfl) (fun h => op_convN Tryz.runUnderlying97 Tryz.runUnderlying235 (Has.w rfl h) (by show _ < 18446744073709551616; first | omega | (simp at h; omega)))) ?_
          refine D_step (Ei := [(109, _), (115, _), (108, _)]) rfl rfl (Srcs.cons (Src.op 3 rfl rfl) (Srcs.cons (Src.op 9 rfl rfl) (Srcs.cons (Src.op 2 rfl rfl) Srcs.nil))) (S_when rfl rfl (Has.t rfl) (fun h => op_mulN (Has.w rfl h) (Has.w rfl h) (by show _ < 18446744073709551616; simp at h; exact mul64 h hv2))) ?_
          refine D_step (Ei := [(16, _), (108, _)]) rfl rfl (Srcs.cons (Src.pre rfl rfl) (Srcs.cons (Src.op 2 rfl rfl) Srcs.nil)) (S_when rfl rfl (Has.t rfl) (fun h => op_move (Has.t rfl))) ?_
          refine D_step (Ei := [(117, _), (108, _)]) rfl rfl (Srcs.cons (Src.op 11 rfl rfl) (Srcs.cons (Src.op 2 rfl rfl) Srcs.nil)) (S_when rfl rfl (Has.t rfl) (fun h => op_shlN (Has.w rfl h) (Has.cN 32) (by decide) hrs)) ?_
          refine D_step (Ei := [(11, _), (108, _)]) rfl rfl (Srcs.cons (Src.pre rfl rfl) (Srcs.cons (Src.op 2 rfl rfl) Srcs.nil)) (S_when rfl rfl (Has.t rfl) (fun h => op_move (Has.t rfl))) ?_
          refine D_step (Ei := [(13, _), (108, _)]) rfl rfl (Srcs.cons (Src.pre rfl rfl) (Srcs.cons (Src.op 2 rfl rfl) Srcs.nil)) (S_when rfl rfl (Has.t rfl) (fun h => op_move (Has.t rfl))) ?_
          refine D_step (Ei := [(8, _), (108, _)]) rfl rfl (Srcs.cons (Src.pre rfl rfl) (Srcs.cons (Src.op 2 rfl rfl) Srcs.nil)) (S_when rfl rfl (Has.t rfl) (fun h => op_move (Has.t rfl))) ?_
          refine D_step (Ei := [(120, _), (121, _), (108, _)]) rfl rfl (Srcs.cons (Src.op 14 rfl rfl) (Srcs.cons (Src.op 15 rfl rfl) (Srcs.cons (Src.op 2 rfl rfl) Srcs.nil))) (S_when rfl rfl (Has.t rfl) (fun h => op_addN (Has.w rfl h) (Has.w rfl h) (by show _ < 9223372036854775808; first | omega | (simp at h; omega)))) ?_
          refine D_step (Ei := [(122, _), (108, _)]) rfl rfl (Srcs.cons (Src.op 16 rfl rfl) (Srcs.cons (Src.op 2 rfl rfl) Srcs.nil)) (S_when rfl rfl (Has.t rfl) (fun h => op_subN (Has.w rfl h) (Has.cN 2) (by first | omega | (simp at h; omega)) (by show _ < 9223372036854775808; first | omega | (simp at h; omega)))) ?_
          refine D_step (Ei := [(119, _), (123, _), (108, _)]) rfl rfl (Srcs.cons (Src.op 13 rfl rfl) (Srcs.cons (Src.op 17 rfl rfl) (Srcs.cons (Src.op 2 rfl rfl) Srcs.nil))) (S_when rfl rfl (Has.t rfl) (fun h => op_idxB Tryz.runUnderlying45 Tryz.sizeOf97 (Has.w rfl h) (Has.w rfl h) rfl (by first | omega | (simp at h; omega)) (by rw [Nat.mul_one, Nat.zero_add]))) ?_
          refine D_step (Ei := [(124, _), (108, _)]) rfl rfl (Srcs.cons (Src.op 18 rfl rfl) (Srcs.cons (Src.op 2 rfl rfl) Srcs.nil)) (S_when rfl rfl (Has.t rfl) (fun h => op_ldB Tryz.isAgg97 Tryz.sizeOf97 (Has.w rfl h) (i := 0) rfl (map_get (get_some (by omega))))) ?_
          refine D_step (Ei := [(125, _), (108, _)]) rfl rfl (Srcs.cons (Src.op 19 rfl rfl) (Srcs.cons (Src.op 2 rfl rfl) Srcs.nil)) (S_when rfl rfl (Has.t rfl) (fun h => op_convN Tryz.runUnderlying97 Tryz.runUnderlying235 (Has.w rfl h) (by show _ < 18446744073709551616; first | omega | (simp at h; omega)))) ?_
          refine D_step (Ei := [(118, _), (126, _), (108, _)]) rfl rfl (Srcs.cons (Src.op 12 rfl rfl) (Srcs.cons (Src.op 20 rfl rfl) (Srcs.cons (Src.op 2 rfl rfl) Srcs.nil))) (S_when rfl rfl (Has.t rfl) (fun h => OpTy.nat (op_orN rfl (Has.w rfl h) (Has.w rfl h) (by show _ < 18446744073709551616; first | omega | (simp at h; omega)) (by show _ < 18446744073709551616; first | omega | (simp at h; omega))) horr)) ?_
          refine D_done mixed rfl (by kernel_rfl) (F_val (F_val (F_val (F_val (F_val (F_val (F_val (F_val (F_val (F_val (F_val (F_val (F_val (F_val (F_val (F_val (F_val (F_val (F_val (F_val (F_val (F_val (F_nil ?_)))))))))))))))))))))))
          refine R_step rfl rfl (S_when rfl rfl (Has.t rfl) (fun h => op_gtrN (Has.w rfl h) (Has.w rfl h))) ?_
          refine R_op rfl rfl rfl (op_or (Has.t rfl) (fun h => (Has.w rfl h))) ?_
          refine R_nil ?_
          refine T_cond (Has.t rfl) (fun hc => ?_) (fun hc => ?_)
          · have hn2 := hG.next hnr htp (by simpa [BB] using hc)
            have hg1 := hn2.2
            refine T_skip ?_
            refine T_block ?_
            refine T_seq ?_
            refine T_region ?_
            refine R_op rfl rfl rfl (op_move (Has.t rfl)) ?_
            refine R_op rfl rfl rfl (op_subN (Has.t rfl) (Has.cN 1) (by omega) (by show _ < 18446744073709551616; first | omega | (simp only [lim]; omega))) ?_
            refine R_op rfl rfl rfl (op_assign (Has.t rfl)) ?_
            refine R_nil ?_
            refine T_seq ?_
            refine T_region ?_
            refine R_op rfl rfl rfl (op_move (Has.t rfl)) ?_
            refine R_op rfl rfl rfl (op_move (Has.t rfl)) ?_
            refine R_op rfl rfl rfl (op_move (Has.t rfl)) ?_
            refine R_op rfl rfl rfl (op_subN (Has.t rfl) (Has.cN 1) (by omega) (by show _ < 9223372036854775808; first | omega | (simp only [lim]; omega))) ?_
            refine R_op rfl rfl rfl (op_idx Tryz.runUnderlying45 Tryz.sizeOf97 (Has.t rfl) (Has.t rfl) rfl (map_get (get_some (by omega)))) ?_
            refine R_op rfl rfl rfl (op_ld Tryz.isAgg97 Tryz.sizeOf97 (Has.t rfl)) ?_
            refine R_op rfl rfl rfl (op_convN Tryz.runUnderlying97 Tryz.runUnderlying235 (Has.t rfl) (by show _ < 18446744073709551616; first | omega | (simp only [lim]; omega))) ?_
            refine R_op rfl rfl rfl (op_addN (Has.t rfl) (Has.t rfl) (by show _ < 18446744073709551616; first | omega | (simp only [lim]; omega))) ?_
            refine R_op rfl rfl rfl (op_assign (Has.t rfl)) ?_
            refine R_nil ?_
            refine T_seq ?_
            refine T_region ?_
            refine R_op rfl rfl rfl (op_move (Has.t rfl)) ?_
            refine R_op rfl rfl rfl (op_geqN (Has.t rfl) (Has.cN 4294967296)) ?_
            refine R_nil ?_
            refine T_cond (Has.t rfl) (fun hr2 => ?_) (fun hr2 => ?_)
            · simp at hr2
              refine T_exit rfl ?_
              refine T_joined (g - 1) (hn2.1.stop hnr htp hr2) (Sub.cons rfl (Sub.cons rfl (Sub.cons rfl (Sub.cons rfl (Sub.cons rfl (Sub.cons rfl (Sub.cons rfl Sub.nil))))))) (HSub.refl _)
            · simp at hr2
              refine T_skip ?_
              refine T_blk ?_
              refine T_again (g - 1, _) ⟨hn2.1, hr2⟩ (by dsimp only; omega) (Sub.cons rfl (Sub.cons rfl (Sub.cons rfl (Sub.cons rfl (Sub.cons rfl (Sub.cons rfl (Sub.cons rfl (Sub.cons rfl Sub.nil)))))))) (HSub.refl _)
          · simp at hc
            refine T_exit rfl ?_
            refine T_joined g (hG.done hnr htp hc.1 hc.2) (Sub.cons rfl (Sub.cons rfl (Sub.cons rfl (Sub.cons rfl (Sub.cons rfl (Sub.cons rfl (Sub.cons rfl Sub.nil))))))) (HSub.refl _)
        · have hglt := hg.lt
          simp only [BB] at hglt
          refine T_seq ?_
          refine T_join2 (fun (us2 : List Nat) (g2 : Nat) => DivS (m * 2 ^ s) vs us2 (qs.set j g2) j ∧ g2 < 4294967296 ∧ us2.length = (dg m).length + 1) (fun (us2 : List Nat) (g2 : Nat) => [(8, NT .i64 vs.length), (9, NT .i64 s), (10, DsT vs), (11, Is (.slice (some ⟨B55, 0, none⟩) ((dg m).length + 1) ((dg m).length + 1))), (12, Is (.slice (some ⟨B65, 0, none⟩) ((dg m).length + 1 - (dg n).length) ((dg m).length + 1 - (dg n).length))), (13, NT .i64 j), (15, NT .u64 g2)]) (fun (us2 : List Nat) (g2 : Nat) => [box B55 97 (us2.map U32T), box B65 97 (qs.map U32T)]) ?_ (fun us2 g2 ⟨hD, hg2, hus2⟩ => ?_)
          · refine T_seq ?_
            refine T_region ?_
            refine R_op rfl rfl rfl (op_move (Has.t rfl)) ?_
            refine R_op rfl rfl rfl (op_move (Has.t rfl)) ?_
            refine R_op rfl rfl rfl (op_move (Has.t rfl)) ?_
            refine R_op rfl rfl rfl (op_move (Has.t rfl)) ?_
            refine R_call1 Tryz.call216 (c_take hus hS.dig hv hg.lt (by omega) (by omega)) (i := 0) rfl ⟨(Has.t rfl), (Has.t rfl), (Has.t rfl), (Has.t rfl), trivial⟩ rfl (fun ⟨out, b⟩ hT => ?_)
            dsimp only at hT
            refine R_nil ?_
            refine T_cond (Has.t rfl) (fun hbb => ?_) (fun hbb => ?_)
            · have hbb : b = true := hbb
              subst hbb
              have hg0 := hS.gpos hv rfl (by omega) hT
              have hol := hT.len
              refine T_seq ?_
              refine T_region ?_
              refine R_op rfl rfl rfl (op_move (Has.t rfl)) ?_
              refine R_op rfl rfl rfl (op_subN (Has.t rfl) (Has.cN 1) (by omega) (by show _ < 18446744073709551616; first | omega | (simp only [lim]; omega))) ?_
              refine R_op rfl rfl rfl (op_assign (Has.t rfl)) ?_
              refine R_nil ?_
              refine T_seq ?_
              refine T_region ?_
              refine R_op rfl rfl rfl (op_assign (Has.cN 0)) ?_
              refine R_nil ?_
              refine T_seq ?_
              refine T_seq ?_
              refine T_region ?_
              refine R_op rfl rfl rfl (op_move (Has.t rfl)) ?_
              refine R_op rfl rfl rfl (op_len Tryz.runUnderlying45 (Has.t rfl) len_map) ?_
              refine R_op rfl rfl rfl (op_move (Has.cN 0)) ?_
              refine R_nil ?_
              refine T_block ?_
              refine T_loop3 (fun (i : Nat) (out2 : List Nat) (c : Nat) => BackS out vs j out2 i c) (fun (i : Nat) (out2 : List Nat) (c : Nat) => vs.length - i) (fun (i : Nat) (out2 : List Nat) (c : Nat) => [(8, NT .i64 vs.length), (9, NT .i64 s), (10, DsT vs), (11, Is (.slice (some ⟨B55, 0, none⟩) ((dg m).length + 1) ((dg m).length + 1))), (12, Is (.slice (some ⟨B65, 0, none⟩) ((dg m).length + 1 - (dg n).length) ((dg m).length + 1 - (dg n).length))), (13, NT .i64 j), (15, NT .u64 (g - 1 : Nat)), (17, NT .u64 c), (149, DsT vs), (150, NT .i64 vs.length), (151, NT .i64 i)]) (fun (i : Nat) (out2 : List Nat) (c : Nat) => [box B55 97 (out2.map U32T), box B65 97 (qs.map U32T)]) 0 out 0 (BackS.start hT.dig vs j)
                (Sub.cons rfl (Sub.cons rfl (Sub.cons rfl (Sub.cons rfl (Sub.cons rfl (Sub.cons rfl (Sub.cons rfl (Sub.cons rfl (Sub.cons rfl (Sub.cons rfl (Sub.cons rfl Sub.nil))))))))))) (HSub.refl _) (fun i out2 c hB => ?_)
              refine T_seq ?_
              refine T_region ?_
              refine R_op rfl rfl rfl (op_lssN (Has.t rfl) (Has.t rfl)) ?_
              refine R_nil ?_
              refine T_seq ?_
              refine T_cond (Has.t rfl) (fun hi => ?_) (fun hi => ?_)
              · simp at hi
                have hlen := hB.len; have hcl := hB.cle; have hvi := getD_lt hv i; have hok := getD_lt hB.dig (i + j)
                simp only [BB] at hvi hok
                refine T_skip ?_
                refine T_seq ?_
                refine T_block ?_
                refine T_seq ?_
                refine T_region ?_
                refine R_op rfl rfl rfl (op_move (Has.t rfl)) ?_
                refine R_op rfl rfl rfl (op_idx Tryz.runUnderlying45 Tryz.sizeOf97 (Has.t rfl) (Has.t rfl) rfl (map_get (get_some (by omega)))) ?_
                refine R_op rfl rfl rfl (op_ld Tryz.isAgg97 Tryz.sizeOf97 (Has.t rfl)) ?_
                refine R_op rfl rfl rfl (op_assign (Has.t rfl)) ?_
                refine R_op rfl rfl rfl (op_assign (Has.t rfl)) ?_
                refine R_nil ?_
                refine T_seq ?_
                refine T_region ?_
                refine R_op rfl rfl rfl (op_move (Has.t rfl)) ?_
                refine R_op rfl rfl rfl (op_move (Has.t rfl)) ?_
                refine R_op rfl rfl rfl (op_move (Has.t rfl)) ?_
                refine R_op rfl rfl rfl (op_move (Has.t rfl)) ?_
                refine R_op rfl rfl rfl (op_addN (Has.t rfl) (Has.t rfl) (by show _ < 9223372036854775808; first | omega | (simp only [lim]; omega))) ?_
                refine R_op rfl rfl rfl (op_idxB Tryz.runUnderlying45 Tryz.sizeOf97 (Has.t rfl) (Has.t rfl) rfl (by omega) (by rw [Nat.mul_one, Nat.zero_add])) ?_
                refine R_op rfl rfl rfl (op_ldB Tryz.isAgg97 Tryz.sizeOf97 (Has.t rfl) (i := 0) rfl (map_get (get_some (by omega)))) ?_
                refine R_op rfl rfl rfl (op_convN Tryz.runUnderlying97 Tryz.runUnderlying235 (Has.t rfl) (by show _ < 18446744073709551616; first | omega | (simp only [lim]; omega))) ?_
                refine R_op rfl rfl rfl (op_move (Has.t rfl)) ?_
                refine R_op rfl rfl rfl (op_convN Tryz.runUnderlying97 Tryz.runUnderlying235 (Has.t rfl) (by show _ < 18446744073709551616; first | omega | (simp only [lim]; omega))) ?_
                refine R_op rfl rfl rfl (op_addN (Has.t rfl) (Has.t rfl) (by show _ < 18446744073709551616; first | omega | (simp only [lim]; omega))) ?_
                refine R_op rfl rfl rfl (op_addN (Has.t rfl) (Has.t rfl) (by show _ < 18446744073709551616; first | omega | (simp only [lim]; omega))) ?_
                refine R_op rfl rfl rfl (op_assign (Has.t rfl)) ?_
                refine R_nil ?_
                refine T_seq ?_
                refine T_region ?_
                refine R_op rfl rfl rfl (op_move (Has.t rfl)) ?_
                refine R_op rfl rfl rfl (op_move (Has.t rfl)) ?_
                refine R_op rfl rfl rfl (op_move (Has.t rfl)) ?_
                refine R_op rfl rfl rfl (op_addN (Has.t rfl) (Has.t rfl) (by show _ < 9223372036854775808; first | omega | (simp only [lim]; omega))) ?_
                refine R_op rfl rfl rfl (op_move (Has.t rfl)) ?_
                refine R_op rfl rfl rfl (op_convU rfl Tryz.runUnderlying235 Tryz.runUnderlying97 (Has.t rfl)) ?_
                refine R_op rfl rfl rfl (op_idxB Tryz.runUnderlying45 Tryz.sizeOf97 (Has.t rfl) (Has.t rfl) rfl (by omega) (by rw [Nat.mul_one, Nat.zero_add])) ?_
                refine R_st Tryz.sizeOf97 (Has.t rfl) (Has.t rfl) (i := 0) rfl (by first | omega | (simp; omega)) rfl ?_
                refine R_nil ?_
                refine T_region ?_
                refine R_op rfl rfl rfl (op_move (Has.t rfl)) ?_
                refine R_op rfl rfl rfl (op_shrN (Has.t rfl) (Has.cN 32) (by decide)) ?_
                refine R_op rfl rfl rfl (op_assign (Has.t rfl)) ?_
                refine R_nil ?_
                refine T_blk ?_
                refine T_region ?_
                refine R_op rfl rfl rfl (op_addN (Has.t rfl) (Has.cN 1) (by show _ < 9223372036854775808; first | omega | (simp only [lim]; omega))) ?_
                refine R_op rfl rfl rfl (op_move (Has.t rfl)) ?_
                refine R_nil ?_
                refine T_again (i + 1, _, _) (hB.next hv hi (by omega) rfl) (by dsimp only; omega) (Sub.cons rfl (Sub.cons rfl (Sub.cons rfl (Sub.cons rfl (Sub.cons rfl (Sub.cons rfl (Sub.cons rfl (Sub.cons rfl (Sub.cons rfl (Sub.cons rfl (Sub.cons rfl Sub.nil))))))))))) (HSub.cons (box_of (set_map _ _ _)) (HSub.cons (fun _ _ _ h => h) HSub.nil))
              · simp at hi
                have hil : i = vs.length := Nat.le_antisymm hB.ile hi
                subst hil
                have hlen := hB.len; have hcl := hB.cle; have hok := getD_lt hB.dig (j + vs.length)
                have hBk := hB.fin (by omega) rfl
                obtain ⟨_, hDn⟩ := hS.wrong hv hV0 (Nat.succ_pos j) rfl hg hT hBk
                simp only [BB] at hok
                refine T_exit rfl ?_
                refine T_region ?_
                refine R_op rfl rfl rfl (op_move (Has.t rfl)) ?_
                refine R_op rfl rfl rfl (op_move (Has.t rfl)) ?_
                refine R_op rfl rfl rfl (op_move (Has.t rfl)) ?_
                refine R_op rfl rfl rfl (op_addN (Has.t rfl) (Has.t rfl) (by show _ < 9223372036854775808; first | omega | (simp only [lim]; omega))) ?_
                refine R_op rfl rfl rfl (op_idxB Tryz.runUnderlying45 Tryz.sizeOf97 (Has.t rfl) (Has.t rfl) rfl (by omega) (by rw [Nat.mul_one, Nat.zero_add])) ?_
                refine R_op rfl rfl rfl (op_ldB Tryz.isAgg97 Tryz.sizeOf97 (Has.t rfl) (i := 0) rfl (map_get (get_some (by omega)))) ?_
                refine R_op rfl rfl rfl (op_move (Has.t rfl)) ?_
                refine R_op rfl rfl rfl (op_convN Tryz.runUnderlying235 Tryz.runUnderlying97 (Has.t rfl) (by show _ < 4294967296; first | omega | (simp only [lim]; omega))) ?_
                refine R_op rfl rfl rfl (op_addU rfl (Has.t rfl) (Has.t rfl)) ?_
                refine R_op rfl rfl rfl (op_idxB Tryz.runUnderlying45 Tryz.sizeOf97 (Has.t rfl) (Has.t rfl) rfl (by omega) (by rw [Nat.mul_one, Nat.zero_add])) ?_
                refine R_st Tryz.sizeOf97 (Has.t rfl) (Has.t rfl) (i := 0) rfl (by first | omega | (simp; omega)) rfl ?_
                refine R_nil ?_
                refine T_joined (_, g - 1) ⟨hDn, by dsimp only; omega, by simp; omega⟩ (Sub.cons rfl (Sub.cons rfl (Sub.cons rfl (Sub.cons rfl (Sub.cons rfl (Sub.cons rfl (Sub.cons rfl Sub.nil))))))) (HSub.cons (box_of (set_map _ _ _)) (HSub.cons (fun _ _ _ h => h) HSub.nil))
            · have hbb : b = false := hbb
              subst hbb
              have hol := hT.len
              refine T_skip ?_
              refine T_joined (out, g) ⟨hS.right hv hV0 (Nat.succ_pos j) rfl hg hT, hglt, by dsimp only; omega⟩ (Sub.cons rfl (Sub.cons rfl (Sub.cons rfl (Sub.cons rfl (Sub.cons rfl (Sub.cons rfl (Sub.cons rfl Sub.nil))))))) (HSub.refl _)
          · refine T_region ?_
            refine R_op rfl rfl rfl (op_move (Has.t rfl)) ?_
            refine R_op rfl rfl rfl (op_move (Has.t rfl)) ?_
            refine R_op rfl rfl rfl (op_move (Has.t rfl)) ?_
            refine R_op rfl rfl rfl (op_convN Tryz.runUnderlying235 Tryz.runUnderlying97 (Has.t rfl) (by show _ < 4294967296; first | omega | (simp only [lim]; omega))) ?_
            refine R_op rfl rfl rfl (op_idxB Tryz.runUnderlying45 Tryz.sizeOf97 (Has.t rfl) (Has.t rfl) rfl (by omega) (by rw [Nat.mul_one, Nat.zero_add])) ?_
            refine R_st Tryz.sizeOf97 (Has.t rfl) (Has.t rfl) (i := 1) rfl (by first | omega | (simp; omega)) rfl ?_
            refine R_nil ?_
            refine T_blk ?_
            refine T_region ?_
            refine R_op rfl rfl rfl (op_move (Has.t rfl)) ?_
            refine R_op rfl rfl rfl (op_sub (Has.t rfl) Has.c (w64 (by omega))) ?_
            refine R_op rfl rfl rfl (op_assign (Has.t rfl)) ?_
            refine R_nil ?_
            refine T_again (j, us2, _) ⟨hD, hus2⟩ (by dsimp only; omega) (Sub.cons rfl (Sub.cons rfl (Sub.cons rfl (Sub.cons rfl (Sub.cons rfl (Sub.cons rfl Sub.nil)))))) (HSub.cons (fun _ _ _ h => h) (HSub.cons (box_of (set_map _ _ _)) HSub.nil))
      · simp at hk
        have hk0 : k = 0 := by omega
        subst hk0
        have hfin := hS.fin hV0
        have hlq := hS.lenq
        rw [hvv] at hfin
        have hdiv : val qs = m / n := by rw [hfin.1]; exact Nat.mul_div_mul_right _ _ hp2
        have hsm : val us < BB ^ vs.length := by have h1 := hS.small; rw [List.drop_zero] at h1; exact Nat.lt_trans h1 (val_lt hv)
        have hmod : val (us.take vs.length) / 2 ^ s = m % n := by
          rw [val_take_all hsm (by omega), hfin.2, Nat.mul_mod_mul_right, Nat.mul_div_cancel _ hp2]
        have hru : (dg (val (us.take vs.length))).length ≤ 17592186044416 := by
          refine Nat.le_trans (dg_length_le (k := vs.length) ?_) (by omega)
          rw [val_take_all hsm (by omega)]; exact hsm
        refine T_exit rfl ?_
        refine T_freeze (i := 1) (tt := 12) rfl rfl (frz_ds rfl (by omega) (Nat.le_refl _)) ?_
        refine T_freeze (i := 0) (tt := 11) rfl rfl (frz_ds rfl (by omega) (Nat.le_refl _)) ?_
        refine T_seq ?_
        refine D_start (m := 7) ?_
        refine D_step (Ei := [(12, _)]) rfl rfl (Srcs.cons (Src.pre rfl rfl) Srcs.nil) (S_plain rfl (op_move (Has.t rfl))) ?_
        refine D_step (Ei := [(193, _)]) rfl rfl (Srcs.cons (Src.op 0 rfl rfl) Srcs.nil) (S_plain rfl (op_call Tryz.call181 (c_trim _ hS.digq (by omega)) ⟨(Has.t rfl), trivial⟩)) ?_
        refine D_step (Ei := [(11, _)]) rfl rfl (Srcs.cons (Src.pre rfl rfl) Srcs.nil) (S_plain rfl (op_move (Has.t rfl))) ?_
        refine D_step (Ei := [(8, _)]) rfl rfl (Srcs.cons (Src.pre rfl rfl) Srcs.nil) (S_plain rfl (op_move (Has.t rfl))) ?_
        refine D_step (Ei := [(195, _), (196, _)]) rfl rfl (Srcs.cons (Src.op 2 rfl rfl) (Srcs.cons (Src.op 3 rfl rfl) Srcs.nil)) (S_plain rfl (OpTy.imp (op_slice0 Tryz.runUnderlying45 Tryz.sizeOf97 (Has.t rfl) (Has.t rfl) (fun m e => by cases e) (by omega) (by simp; omega) rfl) (ds_take _ _))) ?_
        refine D_step (Ei := [(197, _)]) rfl rfl (Srcs.cons (Src.op 4 rfl rfl) Srcs.nil) (S_plain rfl (op_call Tryz.call181 (c_trim _ (hS.dig.take' vs.length) (by simp; omega)) ⟨(Has.t rfl), trivial⟩)) ?_
        refine D_step (Ei := [(9, _)]) rfl rfl (Srcs.cons (Src.pre rfl rfl) Srcs.nil) (S_plain rfl (op_move (Has.t rfl))) ?_
        refine D_done mixed rfl (by kernel_rfl) (F_val (F_val (F_val (F_val (F_val (F_val (F_val (F_nil ?_))))))))
        refine R_op rfl rfl rfl (op_call Tryz.call217 (c_shr hru (by omega)) ⟨(Has.t rfl), (Has.t rfl), trivial⟩) ?_
        refine R_op rfl rfl rfl (op_assign (Has.t rfl)) ?_
        refine R_op rfl rfl rfl (op_assign (Has.t rfl)) ?_
        refine R_nil ?_
        refine T_ret2 rfl (rv_to (rv_tmp rfl) ?_) (rv_to (rv_tmp rfl) ?_)
        · exact (natT_of hdiv)
        · exact (natT_of hmod)
end Go.Proofs.YtppibhcfaahgpaaGreat
namespace Go.Proofs.YtppibhcfaahgpaaGreat
open Go Go.RowKit
theorem info_5 : Tryz.prog.info? 5 = some Tryz.t5 := by kernel_rfl
theorem und_280 : Tryz.prog.underlying 280 = some (.slice 5) := by kernel_rfl
theorem und_5 : Tryz.prog.underlying 5 = some (.int .u8) := by kernel_rfl
theorem und_9 : Tryz.prog.underlying 9 = some (.string) := by kernel_rfl
end Go.Proofs.YtppibhcfaahgpaaGreat
namespace Go.Proofs.YtppibhcfaahgpaaGreat
open Go Go.RowKit
set_option maxRecDepth 20000 in
theorem c_gcd {m n : Nat} (hm : (dg m).length ≤ 17592186044415) (hn : (dg n).length ≤ 17592186044415) : Fun Tryz.prog 178 [NatT m, NatT n] (NatT (Nat.gcd m n)) := by
  refine Fun.intro Tryz.func178 rfl Tryz.ntmps178 rfl (fun cx => ?_)
  refine T_seq ?_
  refine T_region ?_
  refine R_op rfl rfl rfl (op_assign Has.c) ?_
  refine R_nil ?_
  refine T_seq ?_
  refine T_block ?_
  refine T_loop2 (fun (x : Nat) (y : Nat) => Nat.gcd x y = Nat.gcd m n ∧ (dg x).length ≤ 17592186044415 ∧ (dg y).length ≤ 17592186044415) (fun (x : Nat) (y : Nat) => y) (fun (x : Nat) (y : Nat) => [(0, NatT x), (1, NatT y)]) (fun (x : Nat) (y : Nat) => []) m n ⟨rfl, hm, hn⟩
    (Sub.cons rfl (Sub.cons rfl Sub.nil)) HSub.nil (fun x y ⟨hg, hx, hy⟩ => ?_)
  refine T_seq ?_
  refine T_seq ?_
  refine T_region ?_
  refine R_op rfl rfl rfl (op_move (Has.t rfl)) ?_
  refine R_op rfl rfl rfl (op_len Tryz.runUnderlying45 (Has.t rfl) len_map) ?_
  refine R_op rfl rfl rfl (op_gtrN (Has.t rfl) (Has.cN 0)) ?_
  refine R_nil ?_
  refine T_cond (Has.t rfl) (fun hb => ?_) (fun hb => ?_)
  · simp at hb
    have hy0 : y ≠ 0 := fun e => by rw [e, dg_zero] at hb; simp at hb
    have hlt := Nat.mod_lt x (Nat.pos_of_ne_zero hy0)
    refine T_skip ?_
    refine T_block ?_
    refine T_seq ?_
    refine T_region ?_
    refine R_op rfl rfl rfl (op_move (Has.t rfl)) ?_
    refine R_op rfl rfl rfl (op_move (Has.t rfl)) ?_
    refine R_op rfl rfl rfl (op_call Tryz.call180 (c_div hx (by omega) hy0) ⟨(Has.t rfl), (Has.t rfl), trivial⟩) ?_
    refine R_op rfl rfl rfl (op_move (Has.t rfl)) ?_
    refine R_op rfl rfl rfl (op_extract (Has.t rfl) rfl) ?_
    refine R_op rfl rfl rfl (op_extract (Has.t rfl) rfl) ?_
    refine R_op rfl rfl rfl (op_assign (Has.t rfl)) ?_
    refine R_op rfl rfl rfl (op_assign (Has.t rfl)) ?_
    refine R_nil ?_
    refine T_region ?_
    refine R_op rfl rfl rfl (op_move (Has.t rfl)) ?_
    refine R_op rfl rfl rfl (op_move (Has.t rfl)) ?_
    refine R_op rfl rfl rfl (op_assign (Has.t rfl)) ?_
    refine R_op rfl rfl rfl (op_assign (Has.t rfl)) ?_
    refine R_nil ?_
    refine T_blk ?_
    refine T_again (y, x % y) ⟨by rw [← hg, Nat.gcd_comm x y, Nat.gcd_rec y x, Nat.gcd_comm], hy, Nat.le_trans (val_mono_len (Nat.le_of_lt hlt)) hy⟩ hlt (Sub.cons rfl (Sub.cons rfl Sub.nil)) HSub.nil
  · simp at hb
    have hy0 : y = 0 := dg_length_zero.1 (by simpa using hb)
    subst hy0
    rw [Nat.gcd_zero_right] at hg
    refine T_exit rfl ?_
    refine T_seq ?_
    refine T_region ?_
    refine R_op rfl rfl rfl (op_move (Has.t rfl)) ?_
    refine R_op rfl rfl rfl (op_assign (Has.t rfl)) ?_
    refine R_nil ?_
    refine T_ret1 rfl (rv_to (rv_tmp rfl) ?_)
    exact (natT_of hg)
set_option maxRecDepth 20000 in
theorem c_rev {l : List Nat} {v : Value} (hl : l.length ≤ 1152921504606846976) : FunO Tryz.prog 227 [Is v] [rowO 5 1 v (l.map U8T)] Unit (fun _ => AnyT) (fun _ => [rowO 5 1 v (l.reverse.map U8T)]) (fun _ => True) := by
  refine FunO.intro Tryz.func227 rfl Tryz.ntmps227 rfl (fun cx Z => ?_)
  refine T_seq ?_
  refine T_region ?_
  refine R_op rfl rfl rfl (op_move (Has.t rfl)) ?_
  refine R_op rfl rfl rfl (op_lenO Tryz.runUnderlying280 (Has.t rfl) (i := 1) rfl len_map) ?_
  refine R_op rfl rfl rfl (op_sub (Has.t rfl) Has.c (w64 (by omega))) ?_
  refine R_op rfl rfl rfl (op_assign (Has.cN 0)) ?_
  refine R_op rfl rfl rfl (op_assign (Has.t rfl)) ?_
  refine R_nil ?_
  refine T_block ?_
  refine T_loop2 (fun (k : Nat) (o : List Nat) => RevS l o k) (fun (k : Nat) (o : List Nat) => l.length - k) (fun (k : Nat) (o : List Nat) => [(0, Is v), (2, NT .i64 k), (3, IntT .i64 ((l.length : Int) - 1 - (k : Int)))]) (fun (k : Nat) (o : List Nat) => [Z, rowO 5 1 v (o.map U8T)]) 0 l (RevS.start l)
    (Sub.cons rfl (Sub.cons rfl (Sub.to rfl (int_of (by omega)) Sub.nil))) (HSub.refl _) (fun k o hS => ?_)
  refine T_seq ?_
  refine T_seq ?_
  refine T_region ?_
  refine R_op rfl rfl rfl (op_move (Has.t rfl)) ?_
  refine R_op rfl rfl rfl (op_move (Has.t rfl)) ?_
  refine R_op rfl rfl rfl (op_lss (Has.t rfl) (Has.t rfl)) ?_
  refine R_nil ?_
  refine T_cond (Has.t rfl) (fun hb => ?_) (fun hb => ?_)
  · simp only [decide_eq_true_eq] at hb
    have hk : 2 * k + 1 < l.length := by omega
    obtain ⟨j, hj⟩ : ∃ j, j = l.length - 1 - k := ⟨_, rfl⟩
    have hlen := hS.len
    refine T_sub (E' := [(0, _), (2, _), (3, _), (7, _), (8, _), (9, _)]) (Sub.cons rfl (Sub.cons rfl (Sub.to rfl (int_of (show (l.length : Int) - 1 - (k : Int) = (j : Int) by omega)) (Sub.cons rfl (Sub.cons rfl (Sub.cons rfl Sub.nil)))))) ?_
    refine T_skip ?_
    refine T_seq ?_
    refine T_block ?_
    refine W.D_start (m := 14) (fun b => cond b ([Z, rowO 5 1 v ((o.map U8T).set k (U8T (o.getD j 0)))]) _) 13 ?_
    refine W.D_step (Ei := [(0, _)]) rfl rfl (W.Srcs.cons (W.Src.pre rfl rfl) W.Srcs.nil) rfl (by kernel_rfl) (S_plain rfl (op_move (Has.t rfl))) ?_
    refine W.D_step (Ei := [(2, _)]) rfl rfl (W.Srcs.cons (W.Src.pre rfl rfl) W.Srcs.nil) rfl (by kernel_rfl) (S_plain rfl (op_move (Has.t rfl))) ?_
    refine W.D_pure (Ei := [(0, _)]) rfl rfl (W.Srcs.cons (W.Src.pre rfl rfl) W.Srcs.nil) rfl (fun _ => S_plain rfl (op_move (Has.t rfl))) ?_
    refine W.D_pure (Ei := [(3, _)]) rfl rfl (W.Srcs.cons (W.Src.pre rfl rfl) W.Srcs.nil) rfl (fun _ => S_plain rfl (op_move (Has.t rfl))) ?_
    refine W.D_step (Ei := [(0, _)]) rfl rfl (W.Srcs.cons (W.Src.pre rfl rfl) W.Srcs.nil) rfl (by kernel_rfl) (S_plain rfl (op_move (Has.t rfl))) ?_
    refine W.D_step (Ei := [(3, _)]) rfl rfl (W.Srcs.cons (W.Src.pre rfl rfl) W.Srcs.nil) rfl (by kernel_rfl) (S_plain rfl (op_move (Has.t rfl))) ?_
    refine W.D_step (Ei := [(18, _), (19, _)]) rfl rfl (W.Srcs.cons (W.Src.op 4 rfl rfl) (W.Srcs.cons (W.Src.op 5 rfl rfl) W.Srcs.nil)) rfl (by kernel_rfl) (S_plain rfl (op_idxO Tryz.runUnderlying280 Tryz.sizeOf5 (Has.t rfl) (Has.t rfl) rfl (i := 1) rfl (by first | omega | (simp; omega)) rfl)) ?_
    refine W.D_step (Ei := [(20, _)]) rfl rfl (W.Srcs.cons (W.Src.op 6 rfl rfl) W.Srcs.nil) rfl (by kernel_rfl) (S_plain rfl (op_ldO Tryz.isAgg5 Tryz.sizeOf5 (Has.t rfl) (i := 1) rfl rfl (map_get (get_some (by omega))))) ?_
    refine W.D_step (Ei := [(0, _)]) rfl rfl (W.Srcs.cons (W.Src.pre rfl rfl) W.Srcs.nil) rfl (by kernel_rfl) (S_plain rfl (op_move (Has.t rfl))) ?_
    refine W.D_step (Ei := [(2, _)]) rfl rfl (W.Srcs.cons (W.Src.pre rfl rfl) W.Srcs.nil) rfl (by kernel_rfl) (S_plain rfl (op_move (Has.t rfl))) ?_
    refine W.D_step (Ei := [(22, _), (23, _)]) rfl rfl (W.Srcs.cons (W.Src.op 8 rfl rfl) (W.Srcs.cons (W.Src.op 9 rfl rfl) W.Srcs.nil)) rfl (by kernel_rfl) (S_plain rfl (op_idxO Tryz.runUnderlying280 Tryz.sizeOf5 (Has.t rfl) (Has.t rfl) rfl (i := 1) rfl (by first | omega | (simp; omega)) rfl)) ?_
    refine W.D_step (Ei := [(24, _)]) rfl rfl (W.Srcs.cons (W.Src.op 10 rfl rfl) W.Srcs.nil) rfl (by kernel_rfl) (S_plain rfl (op_ldO Tryz.isAgg5 Tryz.sizeOf5 (Has.t rfl) (i := 1) rfl rfl (map_get (get_some (by omega))))) ?_
    refine W.D_step (Ei := [(14, _), (15, _)]) rfl rfl (W.Srcs.cons (W.Src.op 0 rfl rfl) (W.Srcs.cons (W.Src.op 1 rfl rfl) W.Srcs.nil)) rfl (by kernel_rfl) (S_plain rfl (op_idxO Tryz.runUnderlying280 Tryz.sizeOf5 (Has.t rfl) (Has.t rfl) rfl (i := 1) rfl (by first | omega | (simp; omega)) rfl)) ?_
    refine W.D_put (Ei := [(26, _), (21, _)]) rfl rfl (W.Srcs.cons (W.Src.op 12 rfl rfl) (W.Srcs.cons (W.Src.op 7 rfl rfl) W.Srcs.nil)) rfl (P_stO Tryz.sizeOf5 (Has.t rfl) (Has.t rfl) El.one (i := 1) rfl rfl (by first | omega | (simp; omega))) ?_
    refine W.D_done mixed rfl (by kernel_rfl) rfl (W.F_val (W.F_val (W.F_val (W.F_val (W.F_val (W.F_val (W.F_val (W.F_val (W.F_val (W.F_val (W.F_val (W.F_val (W.F_val (W.F_put (W.F_nil ?_)))))))))))))))
    refine R_op rfl rfl rfl (op_idxO Tryz.runUnderlying280 Tryz.sizeOf5 (Has.t rfl) (Has.t rfl) rfl (i := 1) rfl (by first | omega | (simp; omega)) rfl) ?_
    refine R_stO Tryz.sizeOf5 (Has.t rfl) (Has.t rfl) El.one (i := 1) rfl rfl (by first | omega | (simp; omega)) rfl ?_
    refine R_nil ?_
    refine T_blk ?_
    refine T_region ?_
    refine R_op rfl rfl rfl (op_move (Has.t rfl)) ?_
    refine R_op rfl rfl rfl (op_addN (Has.t rfl) (Has.cN 1) (by show _ < 9223372036854775808; first | omega | (simp only [lim]; omega))) ?_
    refine R_op rfl rfl rfl (op_move (Has.t rfl)) ?_
    refine R_op rfl rfl rfl (op_sub (Has.t rfl) Has.c (w64 (by omega))) ?_
    refine R_op rfl rfl rfl (op_assign (Has.t rfl)) ?_
    refine R_op rfl rfl rfl (op_assign (Has.t rfl)) ?_
    refine R_nil ?_
    refine T_again (k + 1, _) (hS.next hk hj) (by dsimp only; omega) (Sub.cons rfl (Sub.cons rfl (Sub.to rfl (int_of (by omega)) Sub.nil))) (HSub.cons (fun _ _ _ h => h) (HSub.cons (rowO_of (u8_set2 _ _ _ _ _)) HSub.nil))
  · simp only [decide_eq_false_iff_not] at hb
    have hfin := hS.fin (by have := hS.kle; omega)
    refine T_exit rfl ?_
    exact T_endO () trivial [0, 1] ⟨⟨_, rfl, fun _ _ _ h => h⟩, ⟨_, rfl, (rowO_of (by rw [hfin]))⟩, trivial⟩ (by decide) (rvs0 rfl (fun _ => trivial))
set_option maxRecDepth 20000 in
theorem c_digits {m : Nat} (hm : (dg m).length ≤ 8796093022208) : Fun Tryz.prog 198 [NatT m] (StrT (dec m)) := by
  refine Fun.intro Tryz.func198 rfl Tryz.ntmps198 rfl (fun cx => ?_)
  refine T_seq ?_
  refine T_region ?_
  refine R_op rfl rfl rfl (op_assign (Has.cS (l := []) rfl)) ?_
  refine R_nil ?_
  refine T_seq ?_
  refine T_seq ?_
  refine T_region ?_
  refine R_op rfl rfl rfl (op_move (Has.t rfl)) ?_
  refine R_op rfl rfl rfl (op_len Tryz.runUnderlying45 (Has.t rfl) len_map) ?_
  refine R_op rfl rfl rfl (op_eqlN (Has.t rfl) (Has.cN 0)) ?_
  refine R_nil ?_
  refine T_cond (Has.t rfl) (fun hb => ?_) (fun hb => ?_)
  · simp at hb
    have h0 : m = 0 := dg_length_zero.1 (by simpa using hb)
    subst h0
    refine T_seq ?_
    refine T_region ?_
    refine R_op rfl rfl rfl (op_assign (Has.cS (l := [48]) rfl)) ?_
    refine R_nil ?_
    refine T_ret1 rfl (rv_to (rv_tmp rfl) ?_)
    exact (str_to rfl)
  · simp at hb
    have h0 : m ≠ 0 := fun e => hb (by rw [e, dg_zero])
    refine T_skip ?_
    refine T_seq ?_
    refine T_region ?_
    refine R_op rfl rfl rfl (op_assign Has.c) ?_
    refine R_nil ?_
    refine T_seq ?_
    refine T_block ?_
    refine T_row 5 1 ?_
    refine T_loop3 (fun (x : Nat) (out : List Nat) (v : Value) => DecO m out x ∧ x ≤ m) (fun (x : Nat) (out : List Nat) (v : Value) => x) (fun (x : Nat) (out : List Nat) (v : Value) => [(0, NatT x), (3, Is v)]) (fun (x : Nat) (out : List Nat) (v : Value) => [rowO 5 1 v (out.map U8T)]) m [] (.slice none 0 0) ⟨DecO.start m, Nat.le_refl m⟩
      (Sub.cons rfl (Sub.cons rfl Sub.nil)) (HSub.refl _) (fun x out v ⟨hO, hle⟩ => ?_)
    refine T_seq ?_
    refine T_seq ?_
    refine T_region ?_
    refine R_op rfl rfl rfl (op_move (Has.t rfl)) ?_
    refine R_op rfl rfl rfl (op_len Tryz.runUnderlying45 (Has.t rfl) len_map) ?_
    refine R_op rfl rfl rfl (op_gtrN (Has.t rfl) (Has.cN 0)) ?_
    refine R_nil ?_
    refine T_cond (Has.t rfl) (fun hc => ?_) (fun hc => ?_)
    · simp at hc
      have hx0 : x ≠ 0 := fun e => by rw [e, dg_zero] at hc; simp at hc
      have hxm := val_mono_len hle
      refine T_skip ?_
      refine T_block ?_
      refine T_seq ?_
      refine T_region ?_
      refine R_op rfl rfl rfl (op_assign (Has.cN 0)) ?_
      refine R_nil ?_
      refine T_seq ?_
      refine T_region ?_
      refine R_op rfl rfl rfl (op_move (Has.t rfl)) ?_
      refine R_op rfl rfl rfl (op_call Tryz.call214 (c_short (by omega) (by decide) (by decide)) ⟨(Has.t rfl), (Has.cN 1000000000), trivial⟩) ?_
      refine R_op rfl rfl rfl (op_move (Has.t rfl)) ?_
      refine R_op rfl rfl rfl (op_extract (Has.t rfl) rfl) ?_
      refine R_op rfl rfl rfl (op_extract (Has.t rfl) rfl) ?_
      refine R_op rfl rfl rfl (op_assign (Has.t rfl)) ?_
      refine R_op rfl rfl rfl (op_assign (Has.t rfl)) ?_
      refine R_nil ?_
      refine T_seq ?_
      refine T_region ?_
      refine R_op rfl rfl rfl (op_assign (Has.cN 0)) ?_
      refine R_nil ?_
      refine T_block ?_
      refine T_loop4 (fun (r : Nat) (k : Nat) (out : List Nat) (v : Value) => DecI m out (x / 1000000000) r k) (fun (r : Nat) (k : Nat) (out : List Nat) (v : Value) => 9 - k) (fun (r : Nat) (k : Nat) (out : List Nat) (v : Value) => [(0, NatT (x / 1000000000)), (3, Is v), (4, U32T r), (5, NT .i64 k)]) (fun (r : Nat) (k : Nat) (out : List Nat) (v : Value) => [rowO 5 1 v (out.map U8T)]) (x % 1000000000) 0 out v (hO.inner)
        (Sub.cons rfl (Sub.cons rfl (Sub.cons rfl (Sub.cons rfl Sub.nil)))) (HSub.refl _) (fun r k out v hI => ?_)
      refine T_seq ?_
      refine T_seq ?_
      refine T_region ?_
      refine R_op rfl rfl rfl (op_move (Has.t rfl)) ?_
      refine R_op rfl rfl rfl (op_lssN (Has.t rfl) (Has.cN 9)) ?_
      refine R_op rfl rfl rfl (op_move (Has.t rfl)) ?_
      refine R_step rfl rfl (S_whenU rfl rfl (Has.t rfl) (fun h => op_move (Has.t rfl))) ?_
      refine R_step rfl rfl (S_whenU rfl rfl (Has.t rfl) (fun h => op_len Tryz.runUnderlying45 (Has.wu rfl h) len_map)) ?_
      refine R_step rfl rfl (S_whenU rfl rfl (Has.t rfl) (fun h => op_gtrN (Has.wu rfl h) (Has.cN 0))) ?_
      refine R_step rfl rfl (S_whenU rfl rfl (Has.t rfl) (fun h => op_move (Has.wu rfl h))) ?_
      refine R_step rfl rfl (S_when2 rfl rfl rfl (fun h h2 => op_move (Has.t rfl))) ?_
      refine R_step rfl rfl (S_when2 rfl rfl rfl (fun h h2 => op_gtrN (Has.wu rfl ⟨h, h2⟩) (Has.cN 0))) ?_
      refine R_step rfl rfl (S_whenU rfl rfl (Has.t rfl) (fun h => op_or (Has.wu rfl h) (fun h2 => (Has.wu rfl ⟨h, h2⟩)))) ?_
      refine R_op rfl rfl rfl (op_and (Has.t rfl) (fun h => (Has.wu rfl h))) ?_
      refine R_nil ?_
      refine T_cond (Has.t rfl) (fun hd => ?_) (fun hd => ?_)
      · simp at hd
        have hxr : 0 < x / 1000000000 ∨ 0 < r := hd.2.imp (fun h => Nat.pos_of_ne_zero (fun e => by rw [e, dg_zero] at h; simp at h)) id
        have hln := hI.len hxr
        have hr32 := hI.r32
        refine T_skip ?_
        refine T_seq ?_
        refine T_block ?_
        refine T_seq ?_
        refine T_region ?_
        refine R_op rfl rfl rfl (op_move (Has.t rfl)) ?_
        refine R_op rfl rfl rfl (op_move (Has.t rfl)) ?_
        refine R_op rfl rfl rfl (op_remN (Has.t rfl) (Has.cN 10) (by omega)) ?_
        refine R_op rfl rfl rfl (op_addN (Has.cN 48) (Has.t rfl) (by show _ < 4294967296; first | omega | (simp only [lim]; omega))) ?_
        refine R_op rfl rfl rfl (op_convN Tryz.runUnderlying97 Tryz.runUnderlying5 (Has.t rfl) (by show _ < 256; first | omega | (simp only [lim]; omega))) ?_
        refine R_op rfl rfl rfl (op_bslice (xs := [.tmp 34]) Tryz.runUnderlying280 Tryz.sizeOf5 Tryz.zeroValue5 (Elems.cons (Has.t rfl) Elems.nil) rfl rfl rfl) ?_
        refine R_append (inf := Tryz.t5) und_280 info_5 rfl rfl rfl (Has.t rfl) (Has.t rfl) (i := 0) rfl (by simp) (fun T hT => by simp at hT; subst hT; exact El.one) (by show _ * 1 ≤ _; simp only [List.length_map, List.length_cons, List.length_nil]; omega) (by simp only [List.length_map, List.length_cons, List.length_nil]; omega) rfl (fun v2 => ?_)
        refine R_op rfl rfl rfl (op_assign (Has.t rfl)) ?_
        refine R_nil ?_
        refine T_region ?_
        refine R_op rfl rfl rfl (op_move (Has.t rfl)) ?_
        refine R_op rfl rfl rfl (op_quoN (Has.t rfl) (Has.cN 10) (by omega) (by show _ < 4294967296; first | omega | (simp only [lim]; omega))) ?_
        refine R_op rfl rfl rfl (op_assign (Has.t rfl)) ?_
        refine R_nil ?_
        refine T_blk ?_
        refine T_region ?_
        refine R_op rfl rfl rfl (op_move (Has.t rfl)) ?_
        refine R_op rfl rfl rfl (op_addN (Has.t rfl) (Has.cN 1) (by show _ < 9223372036854775808; first | omega | (simp only [lim]; omega))) ?_
        refine R_op rfl rfl rfl (op_assign (Has.t rfl)) ?_
        refine R_nil ?_
        refine T_again (r / 10, k + 1, _, v2) (hI.next hd.1 hxr) (by dsimp only; omega) (Sub.cons rfl (Sub.cons rfl (Sub.cons rfl (Sub.cons rfl Sub.nil)))) (HSub.cons (rowO_of (u8_app _ _)) HSub.nil)
      · simp at hd
        have hO2 := hI.fin (fun ⟨h1, h2⟩ => by
          have h3 := hd h1
          rcases h2 with h2 | h2
          · have := dg_eq_nil.1 h3.1; omega
          · omega)
        refine T_exit rfl ?_
        refine T_blk ?_
        refine T_again (x / 1000000000, _, _) ⟨hO2, Nat.le_trans (Nat.div_le_self _ _) hle⟩ (Nat.div_lt_self (Nat.pos_of_ne_zero hx0) (by decide)) (Sub.cons rfl (Sub.cons rfl Sub.nil)) (HSub.refl _)
    · simp at hc
      have hx0 : x = 0 := dg_length_zero.1 (by simpa using hc)
      subst hx0
      have hfin := hO.fin
      have hdl := digs_len_dg m
      rw [hfin] at hdl
      refine T_exit rfl ?_
      refine T_seq ?_
      refine T_region ?_
      refine R_op rfl rfl rfl (op_move (Has.t rfl)) ?_
      refine R_call1 Tryz.call227 (c_rev (by omega)) (i := 0) rfl ⟨(Has.t rfl), trivial⟩ rfl (fun _ _ => ?_)
      refine R_nil ?_
      refine T_seq ?_
      refine T_freeze (i := 0) (tt := 3) rfl rfl frz_row ?_
      refine T_region ?_
      refine R_op rfl rfl rfl (op_move (Has.t rfl)) ?_
      refine R_op rfl rfl rfl (op_convS und_280 und_5 und_9 (Has.t rfl) (by rw [← hfin]; simpa using digs_ne h0) (fun b hb => dec_lt (n := m) b (by rw [dec_pos h0, hfin]; exact hb))) ?_
      refine R_op rfl rfl rfl (op_assign (Has.t rfl)) ?_
      refine R_nil ?_
      refine T_ret1 rfl (rv_to (rv_tmp rfl) ?_)
      exact (str_to (by rw [dec_pos h0, hfin]))
end Go.Proofs.YtppibhcfaahgpaaGreat
namespace Go.Proofs.YtppibhcfaahgpaaGreat
open Go Go.RowKit
theorem bld_47_0_1 {n : Nat} {E : Env} {H : Hp} {d : Option Tmp} {t : TypeId} {pos : String} {af : Array Edge} {g : Option (Nat × Bool)} {x0 x1 : Operand} {T0 T1 : Ty} [s0 : Shape T0 1 false] (h0 : Has E x0 T0) [s1 : Shape T1 1 false] (h1 : Has E x1 T1) :
    OpTy Tryz.prog n E H ⟨d, .build 47 #[(0, x0), (1, x1)], t, pos, af, g⟩ (AggT [T0, T1]) :=
  op_build (parts := [(0, x0), (1, x1)]) fun a V w hs => by
    have p0 := h0 n V a hs
    generalize e0 : a.eval x0 = v0 at p0
    have q0 := (s0.ok v0 V p0).2.2 rfl
    have p1 := h1 n V a hs
    generalize e1 : a.eval x1 = v1 at p1
    have q1 := (s1.ok v1 V p1).2.2 rfl
    refine ⟨.agg #[v0, v1], ?_, [v0, v1], rfl, Cells.cons' (⟨p0, q0⟩) (Cells.cons' (⟨p1, q1⟩) (Cells.nil))⟩
    simp [e0, e1, Instr.build, Instr.fill, Sem.run_bind, Result.andThen, cells_agg, q0.cells, q1.cells, Tryz.zeroValue47, Tryz.runUnderlying47, Tryz.sizeOf4, Tryz.sizeOf45]
theorem fa_47_0 (a : Addr) (w : World) : (Instr.fieldAt 47 (.pointer (some a)) 0).run Tryz.prog w = .ok (.pointer (some (a.add 0))) w := by
  simp [Instr.fieldAt, Instr.sureAddr, fieldPlace, Sem.run_bind, Result.andThen, Tryz.runUnderlying47, Tryz.sizeOf4]
theorem fa_47_1 (a : Addr) (w : World) : (Instr.fieldAt 47 (.pointer (some a)) 1).run Tryz.prog w = .ok (.pointer (some (a.add 1))) w := by
  simp [Instr.fieldAt, Instr.sureAddr, fieldPlace, Sem.run_bind, Result.andThen, Tryz.runUnderlying47, Tryz.sizeOf45]
end Go.Proofs.YtppibhcfaahgpaaGreat
namespace Go.Proofs.YtppibhcfaahgpaaGreat
open Go Go.RowKit
set_option maxRecDepth 20000 in
theorem c_of64 {n : Int} (h1 : -9223372036854775808 ≤ n) (h2 : n ≤ 9223372036854775807) : Fun Tryz.prog 102 [IntT .i64 n] (WholeT n) := by
  refine Fun.intro Tryz.func102 rfl Tryz.ntmps102 rfl (fun cx => ?_)
  refine T_seq ?_
  refine T_region ?_
  refine R_new rfl rfl rfl (new_alloc (Ts := [Is (.bool false), Is (.slice none 0 0)]) Tryz.zeroValue47 rfl (fun V => Cells.cons' ⟨rfl, trivial⟩ (Cells.cons' ⟨rfl, trivial⟩ (Cells.nil)))) (fun B2 => ?_)
  refine R_nil ?_
  refine T_seq ?_
  refine T_seq ?_
  refine T_region ?_
  refine R_op rfl rfl rfl (op_move (Has.t rfl)) ?_
  refine R_op rfl rfl rfl (op_lss (Has.t rfl) Has.c) ?_
  refine R_nil ?_
  refine T_cond (Has.t rfl) (fun hb => ?_) (fun hb => ?_)
  · have hn : n < 0 := by simpa using hb
    refine T_seq ?_
    refine T_region ?_
    refine R_op rfl rfl rfl (op_move (Has.t rfl)) ?_
    refine R_op rfl rfl rfl (op_conv Tryz.runUnderlying2 Tryz.runUnderlying235 (Has.t rfl) (r := ((18446744073709551616 - n.natAbs : Nat) : Int)) (by rw [IntKind.wrap_u64]; omega)) ?_
    refine R_op rfl rfl rfl (op_neg (Has.t rfl) (r := ((n.natAbs : Nat) : Int)) (by rw [IntKind.wrap_u64]; omega)) ?_
    refine R_op rfl rfl rfl (op_call Tryz.call169 (c_natOf (by omega)) ⟨(Has.t rfl), trivial⟩) ?_
    refine R_op rfl rfl rfl (bld_47_0_1 Has.c (Has.t rfl)) ?_
    refine R_stA Tryz.sizeOf47 (Has.t rfl) (Has.t rfl) rfl (i := 0) rfl (Nat.le_of_ble_eq_true rfl) rfl rfl ?_
    refine R_nil ?_
    refine T_ret1 rfl (rv_to (rv_cell Tryz.isAgg47 Tryz.sizeOf47 rfl (i := 0) rfl rfl) ?_)
    exact (agg_of (by rw [hb]; rfl))
  · have hn : ¬ n < 0 := by simpa using hb
    refine T_skip ?_
    refine T_seq ?_
    refine T_region ?_
    refine R_op rfl rfl rfl (op_move (Has.t rfl)) ?_
    refine R_op rfl rfl rfl (op_conv Tryz.runUnderlying2 Tryz.runUnderlying235 (Has.t rfl) (r := ((n.natAbs : Nat) : Int)) (by rw [IntKind.wrap_u64]; omega)) ?_
    refine R_op rfl rfl rfl (op_call Tryz.call169 (c_natOf (by omega)) ⟨(Has.t rfl), trivial⟩) ?_
    refine R_op rfl rfl rfl (bld_47_0_1 Has.c (Has.t rfl)) ?_
    refine R_stA Tryz.sizeOf47 (Has.t rfl) (Has.t rfl) rfl (i := 0) rfl (Nat.le_of_ble_eq_true rfl) rfl rfl ?_
    refine R_nil ?_
    refine T_ret1 rfl (rv_to (rv_cell Tryz.isAgg47 Tryz.sizeOf47 rfl (i := 0) rfl rfl) ?_)
    exact (agg_of (by rw [hb]; rfl))
set_option maxRecDepth 20000 in
theorem c_wholeOf {b : Bool} {m : Nat} : Fun Tryz.prog 173 [BoolT b, NatT m] (WholeT (sgn b m)) := by
  refine Fun.intro Tryz.func173 rfl Tryz.ntmps173 rfl (fun cx => ?_)
  refine T_seq ?_
  refine T_region ?_
  refine R_new rfl rfl rfl (new_alloc (Ts := [Is (.bool false), Is (.slice none 0 0)]) Tryz.zeroValue47 rfl (fun V => Cells.cons' ⟨rfl, trivial⟩ (Cells.cons' ⟨rfl, trivial⟩ (Cells.nil)))) (fun B4 => ?_)
  refine R_nil ?_
  refine T_seq ?_
  refine T_region ?_
  refine R_op rfl rfl rfl (op_move (Has.t rfl)) ?_
  refine R_op rfl rfl rfl (op_move (Has.t rfl)) ?_
  refine R_step rfl rfl (S_when rfl rfl (Has.t rfl) (fun h => op_move (Has.t rfl))) ?_
  refine R_step rfl rfl (S_when rfl rfl (Has.t rfl) (fun h => op_len Tryz.runUnderlying45 (Has.w rfl h) len_map)) ?_
  refine R_step rfl rfl (S_when rfl rfl (Has.t rfl) (fun h => op_gtrN (Has.w rfl h) (Has.cN 0))) ?_
  refine R_op rfl rfl rfl (op_and (Has.t rfl) (fun h => (Has.w rfl h))) ?_
  refine R_op rfl rfl rfl (op_move (Has.t rfl)) ?_
  refine R_op rfl rfl rfl (bld_47_0_1 (Has.t rfl) (Has.t rfl)) ?_
  refine R_stA Tryz.sizeOf47 (Has.t rfl) (Has.t rfl) rfl (i := 0) rfl (Nat.le_of_ble_eq_true rfl) rfl rfl ?_
  refine R_nil ?_
  refine T_ret1 rfl (rv_to (rv_cell Tryz.isAgg47 Tryz.sizeOf47 rfl (i := 0) rfl rfl) ?_)
  exact sgn_of
set_option maxRecDepth 20000 in
theorem c_minus {x : Int} : Fun Tryz.prog 130 [WholeT x] (WholeT (-x)) := by
  refine Fun.intro Tryz.func130 rfl Tryz.ntmps130 rfl (fun cx => ?_)
  refine T_seq ?_
  refine T_region ?_
  refine R_new rfl rfl rfl (new_box (Has.t rfl)) (fun B1 => ?_)
  refine R_new rfl rfl rfl (new_alloc (Ts := [Is (.bool false), Is (.slice none 0 0)]) Tryz.zeroValue47 rfl (fun V => Cells.cons' ⟨rfl, trivial⟩ (Cells.cons' ⟨rfl, trivial⟩ (Cells.nil)))) (fun B2 => ?_)
  refine R_nil ?_
  refine T_seq ?_
  refine T_region ?_
  refine R_op rfl rfl rfl (op_fldB fa_47_0 (Has.t rfl) rfl) ?_
  refine R_op rfl rfl rfl (op_ldB Tryz.isAgg4 Tryz.sizeOf4 (Has.t rfl) (i := 0) rfl rfl) ?_
  refine R_op rfl rfl rfl (op_not (Has.t rfl)) ?_
  refine R_op rfl rfl rfl (op_fldB fa_47_1 (Has.t rfl) rfl) ?_
  refine R_op rfl rfl rfl (op_ldB Tryz.isAgg45 Tryz.sizeOf45 (Has.t rfl) (i := 0) rfl rfl) ?_
  refine R_op rfl rfl rfl (op_call Tryz.call173 c_wholeOf ⟨(Has.t rfl), (Has.t rfl), trivial⟩) ?_
  refine R_stA Tryz.sizeOf47 (Has.t rfl) (Has.t rfl) rfl (i := 1) rfl (Nat.le_of_ble_eq_true rfl) rfl rfl ?_
  refine R_nil ?_
  refine T_ret1 rfl (rv_to (rv_cell Tryz.isAgg47 Tryz.sizeOf47 rfl (i := 1) rfl rfl) ?_)
  exact (whole_of (sgn_minus x))
set_option maxRecDepth 20000 in
theorem c_plus {x y : Int} (hx : (dg x.natAbs).length ≤ 17592186044416) (hy : (dg y.natAbs).length ≤ 17592186044416) : Fun Tryz.prog 129 [WholeT x, WholeT y] (WholeT (x + y)) := by
  refine Fun.intro Tryz.func129 rfl Tryz.ntmps129 rfl (fun cx => ?_)
  refine T_seq ?_
  refine T_region ?_
  refine R_new rfl rfl rfl (new_box (Has.t rfl)) (fun B2 => ?_)
  refine R_new rfl rfl rfl (new_box (Has.t rfl)) (fun B3 => ?_)
  refine R_new rfl rfl rfl (new_alloc (Ts := [Is (.bool false), Is (.slice none 0 0)]) Tryz.zeroValue47 rfl (fun V => Cells.cons' ⟨rfl, trivial⟩ (Cells.cons' ⟨rfl, trivial⟩ (Cells.nil)))) (fun B4 => ?_)
  refine R_nil ?_
  refine T_seq ?_
  refine T_seq ?_
  refine T_region ?_
  refine R_op rfl rfl rfl (op_fldB fa_47_0 (Has.t rfl) rfl) ?_
  refine R_op rfl rfl rfl (op_ldB Tryz.isAgg4 Tryz.sizeOf4 (Has.t rfl) (i := 0) rfl rfl) ?_
  refine R_op rfl rfl rfl (op_fldB fa_47_0 (Has.t rfl) rfl) ?_
  refine R_op rfl rfl rfl (op_ldB Tryz.isAgg4 Tryz.sizeOf4 (Has.t rfl) (i := 1) rfl rfl) ?_
  refine R_op rfl rfl rfl (op_beq Tryz.runUnderlying4 (Has.t rfl) (Has.t rfl)) ?_
  refine R_nil ?_
  refine T_cond (Has.t rfl) (fun hb => ?_) (fun hb => ?_)
  · have he : decide (x < 0) = decide (y < 0) := by simpa using hb
    refine T_seq ?_
    refine D_start (m := 7) ?_
    refine D_step (Ei := [(2, _)]) rfl rfl (Srcs.cons (Src.pre rfl rfl) Srcs.nil) (S_plain rfl (op_fldB fa_47_0 (Has.t rfl) rfl)) ?_
    refine D_step (Ei := [(10, _)]) rfl rfl (Srcs.cons (Src.op 0 rfl rfl) Srcs.nil) (S_plain rfl (op_ldB Tryz.isAgg4 Tryz.sizeOf4 (Has.t rfl) (i := 0) rfl rfl)) ?_
    refine D_step (Ei := [(2, _)]) rfl rfl (Srcs.cons (Src.pre rfl rfl) Srcs.nil) (S_plain rfl (op_fldB fa_47_1 (Has.t rfl) rfl)) ?_
    refine D_step (Ei := [(12, _)]) rfl rfl (Srcs.cons (Src.op 2 rfl rfl) Srcs.nil) (S_plain rfl (op_ldB Tryz.isAgg45 Tryz.sizeOf45 (Has.t rfl) (i := 0) rfl rfl)) ?_
    refine D_step (Ei := [(3, _)]) rfl rfl (Srcs.cons (Src.pre rfl rfl) Srcs.nil) (S_plain rfl (op_fldB fa_47_1 (Has.t rfl) rfl)) ?_
    refine D_step (Ei := [(14, _)]) rfl rfl (Srcs.cons (Src.op 4 rfl rfl) Srcs.nil) (S_plain rfl (op_ldB Tryz.isAgg45 Tryz.sizeOf45 (Has.t rfl) (i := 1) rfl rfl)) ?_
    refine D_step (Ei := [(13, _), (15, _)]) rfl rfl (Srcs.cons (Src.op 3 rfl rfl) (Srcs.cons (Src.op 5 rfl rfl) Srcs.nil)) (S_plain rfl (op_call Tryz.call176 (c_add (by omega) (by omega)) ⟨(Has.t rfl), (Has.t rfl), trivial⟩)) ?_
    refine D_done mixed rfl (by kernel_rfl) (F_val (F_val (F_val (F_val (F_val (F_val (F_val (F_nil ?_))))))))
    refine R_op rfl rfl rfl (op_call Tryz.call173 c_wholeOf ⟨(Has.t rfl), (Has.t rfl), trivial⟩) ?_
    refine R_stA Tryz.sizeOf47 (Has.t rfl) (Has.t rfl) rfl (i := 2) rfl (Nat.le_of_ble_eq_true rfl) rfl rfl ?_
    refine R_nil ?_
    refine T_ret1 rfl (rv_to (rv_cell Tryz.isAgg47 Tryz.sizeOf47 rfl (i := 2) rfl rfl) ?_)
    exact (whole_of (sgn_plus he))
  · have he : decide (x < 0) ≠ decide (y < 0) := by simpa using hb
    refine T_skip ?_
    refine T_seq ?_
    refine T_seq ?_
    refine T_region ?_
    refine R_op rfl rfl rfl (op_fldB fa_47_1 (Has.t rfl) rfl) ?_
    refine R_op rfl rfl rfl (op_ldB Tryz.isAgg45 Tryz.sizeOf45 (Has.t rfl) (i := 0) rfl rfl) ?_
    refine R_op rfl rfl rfl (op_fldB fa_47_1 (Has.t rfl) rfl) ?_
    refine R_op rfl rfl rfl (op_ldB Tryz.isAgg45 Tryz.sizeOf45 (Has.t rfl) (i := 1) rfl rfl) ?_
    refine R_op rfl rfl rfl (op_call Tryz.call101 (c_cmp (by omega) (by omega)) ⟨(Has.t rfl), (Has.t rfl), trivial⟩) ?_
    refine R_op rfl rfl rfl (op_geq (Has.t rfl) Has.c) ?_
    refine R_nil ?_
    refine T_cond (Has.t rfl) (fun hc => ?_) (fun hc => ?_)
    · have hle : y.natAbs ≤ x.natAbs := cmpZ_ge (by simpa using hc)
      refine T_seq ?_
      refine D_start (m := 7) ?_
      refine D_step (Ei := [(2, _)]) rfl rfl (Srcs.cons (Src.pre rfl rfl) Srcs.nil) (S_plain rfl (op_fldB fa_47_0 (Has.t rfl) rfl)) ?_
      refine D_step (Ei := [(24, _)]) rfl rfl (Srcs.cons (Src.op 0 rfl rfl) Srcs.nil) (S_plain rfl (op_ldB Tryz.isAgg4 Tryz.sizeOf4 (Has.t rfl) (i := 0) rfl rfl)) ?_
      refine D_step (Ei := [(2, _)]) rfl rfl (Srcs.cons (Src.pre rfl rfl) Srcs.nil) (S_plain rfl (op_fldB fa_47_1 (Has.t rfl) rfl)) ?_
      refine D_step (Ei := [(26, _)]) rfl rfl (Srcs.cons (Src.op 2 rfl rfl) Srcs.nil) (S_plain rfl (op_ldB Tryz.isAgg45 Tryz.sizeOf45 (Has.t rfl) (i := 0) rfl rfl)) ?_
      refine D_step (Ei := [(3, _)]) rfl rfl (Srcs.cons (Src.pre rfl rfl) Srcs.nil) (S_plain rfl (op_fldB fa_47_1 (Has.t rfl) rfl)) ?_
      refine D_step (Ei := [(28, _)]) rfl rfl (Srcs.cons (Src.op 4 rfl rfl) Srcs.nil) (S_plain rfl (op_ldB Tryz.isAgg45 Tryz.sizeOf45 (Has.t rfl) (i := 1) rfl rfl)) ?_
      refine D_step (Ei := [(27, _), (29, _)]) rfl rfl (Srcs.cons (Src.op 3 rfl rfl) (Srcs.cons (Src.op 5 rfl rfl) Srcs.nil)) (S_plain rfl (op_call Tryz.call177 (c_sub (by omega) (by omega)) ⟨(Has.t rfl), (Has.t rfl), trivial⟩)) ?_
      refine D_done mixed rfl (by kernel_rfl) (F_val (F_val (F_val (F_val (F_val (F_val (F_val (F_nil ?_))))))))
      refine R_op rfl rfl rfl (op_call Tryz.call173 c_wholeOf ⟨(Has.t rfl), (Has.t rfl), trivial⟩) ?_
      refine R_stA Tryz.sizeOf47 (Has.t rfl) (Has.t rfl) rfl (i := 2) rfl (Nat.le_of_ble_eq_true rfl) rfl rfl ?_
      refine R_nil ?_
      refine T_ret1 rfl (rv_to (rv_cell Tryz.isAgg47 Tryz.sizeOf47 rfl (i := 2) rfl rfl) ?_)
      exact (whole_of (sgn_less he hle))
    · have hle : x.natAbs ≤ y.natAbs := Nat.le_of_lt (cmpZ_lt (by simpa using hc))
      refine T_skip ?_
      refine T_seq ?_
      refine D_start (m := 7) ?_
      refine D_step (Ei := [(3, _)]) rfl rfl (Srcs.cons (Src.pre rfl rfl) Srcs.nil) (S_plain rfl (op_fldB fa_47_0 (Has.t rfl) rfl)) ?_
      refine D_step (Ei := [(32, _)]) rfl rfl (Srcs.cons (Src.op 0 rfl rfl) Srcs.nil) (S_plain rfl (op_ldB Tryz.isAgg4 Tryz.sizeOf4 (Has.t rfl) (i := 1) rfl rfl)) ?_
      refine D_step (Ei := [(3, _)]) rfl rfl (Srcs.cons (Src.pre rfl rfl) Srcs.nil) (S_plain rfl (op_fldB fa_47_1 (Has.t rfl) rfl)) ?_
      refine D_step (Ei := [(34, _)]) rfl rfl (Srcs.cons (Src.op 2 rfl rfl) Srcs.nil) (S_plain rfl (op_ldB Tryz.isAgg45 Tryz.sizeOf45 (Has.t rfl) (i := 1) rfl rfl)) ?_
      refine D_step (Ei := [(2, _)]) rfl rfl (Srcs.cons (Src.pre rfl rfl) Srcs.nil) (S_plain rfl (op_fldB fa_47_1 (Has.t rfl) rfl)) ?_
      refine D_step (Ei := [(36, _)]) rfl rfl (Srcs.cons (Src.op 4 rfl rfl) Srcs.nil) (S_plain rfl (op_ldB Tryz.isAgg45 Tryz.sizeOf45 (Has.t rfl) (i := 0) rfl rfl)) ?_
      refine D_step (Ei := [(35, _), (37, _)]) rfl rfl (Srcs.cons (Src.op 3 rfl rfl) (Srcs.cons (Src.op 5 rfl rfl) Srcs.nil)) (S_plain rfl (op_call Tryz.call177 (c_sub (by omega) (by omega)) ⟨(Has.t rfl), (Has.t rfl), trivial⟩)) ?_
      refine D_done mixed rfl (by kernel_rfl) (F_val (F_val (F_val (F_val (F_val (F_val (F_val (F_nil ?_))))))))
      refine R_op rfl rfl rfl (op_call Tryz.call173 c_wholeOf ⟨(Has.t rfl), (Has.t rfl), trivial⟩) ?_
      refine R_stA Tryz.sizeOf47 (Has.t rfl) (Has.t rfl) rfl (i := 2) rfl (Nat.le_of_ble_eq_true rfl) rfl rfl ?_
      refine R_nil ?_
      refine T_ret1 rfl (rv_to (rv_cell Tryz.isAgg47 Tryz.sizeOf47 rfl (i := 2) rfl rfl) ?_)
      exact (whole_of (by rw [sgn_less (Ne.symm he) hle, Int.add_comm]))
set_option maxRecDepth 20000 in
theorem c_times {x y : Int} (hx : (dg x.natAbs).length ≤ 17592186044416) (hy : (dg y.natAbs).length ≤ 17592186044416) : Fun Tryz.prog 128 [WholeT x, WholeT y] (WholeT (x * y)) := by
  refine Fun.intro Tryz.func128 rfl Tryz.ntmps128 rfl (fun cx => ?_)
  refine T_seq ?_
  refine T_region ?_
  refine R_new rfl rfl rfl (new_box (Has.t rfl)) (fun B2 => ?_)
  refine R_new rfl rfl rfl (new_box (Has.t rfl)) (fun B3 => ?_)
  refine R_new rfl rfl rfl (new_alloc (Ts := [Is (.bool false), Is (.slice none 0 0)]) Tryz.zeroValue47 rfl (fun V => Cells.cons' ⟨rfl, trivial⟩ (Cells.cons' ⟨rfl, trivial⟩ (Cells.nil)))) (fun B4 => ?_)
  refine R_nil ?_
  refine T_seq ?_
  refine D_start (m := 10) ?_
  refine D_step (Ei := [(2, _)]) rfl rfl (Srcs.cons (Src.pre rfl rfl) Srcs.nil) (S_plain rfl (op_fldB fa_47_0 (Has.t rfl) rfl)) ?_
  refine D_step (Ei := [(5, _)]) rfl rfl (Srcs.cons (Src.op 0 rfl rfl) Srcs.nil) (S_plain rfl (op_ldB Tryz.isAgg4 Tryz.sizeOf4 (Has.t rfl) (i := 0) rfl rfl)) ?_
  refine D_step (Ei := [(3, _)]) rfl rfl (Srcs.cons (Src.pre rfl rfl) Srcs.nil) (S_plain rfl (op_fldB fa_47_0 (Has.t rfl) rfl)) ?_
  refine D_step (Ei := [(7, _)]) rfl rfl (Srcs.cons (Src.op 2 rfl rfl) Srcs.nil) (S_plain rfl (op_ldB Tryz.isAgg4 Tryz.sizeOf4 (Has.t rfl) (i := 1) rfl rfl)) ?_
  refine D_step (Ei := [(6, _), (8, _)]) rfl rfl (Srcs.cons (Src.op 1 rfl rfl) (Srcs.cons (Src.op 3 rfl rfl) Srcs.nil)) (S_plain rfl (op_bne Tryz.runUnderlying4 (Has.t rfl) (Has.t rfl))) ?_
  refine D_step (Ei := [(2, _)]) rfl rfl (Srcs.cons (Src.pre rfl rfl) Srcs.nil) (S_plain rfl (op_fldB fa_47_1 (Has.t rfl) rfl)) ?_
  refine D_step (Ei := [(10, _)]) rfl rfl (Srcs.cons (Src.op 5 rfl rfl) Srcs.nil) (S_plain rfl (op_ldB Tryz.isAgg45 Tryz.sizeOf45 (Has.t rfl) (i := 0) rfl rfl)) ?_
  refine D_step (Ei := [(3, _)]) rfl rfl (Srcs.cons (Src.pre rfl rfl) Srcs.nil) (S_plain rfl (op_fldB fa_47_1 (Has.t rfl) rfl)) ?_
  refine D_step (Ei := [(12, _)]) rfl rfl (Srcs.cons (Src.op 7 rfl rfl) Srcs.nil) (S_plain rfl (op_ldB Tryz.isAgg45 Tryz.sizeOf45 (Has.t rfl) (i := 1) rfl rfl)) ?_
  refine D_step (Ei := [(11, _), (13, _)]) rfl rfl (Srcs.cons (Src.op 6 rfl rfl) (Srcs.cons (Src.op 8 rfl rfl) Srcs.nil)) (S_plain rfl (op_call Tryz.call132 (c_mul (by omega) (by omega)) ⟨(Has.t rfl), (Has.t rfl), trivial⟩)) ?_
  refine D_done mixed rfl (by kernel_rfl) (F_val (F_val (F_val (F_val (F_val (F_val (F_val (F_val (F_val (F_val (F_nil ?_)))))))))))
  refine R_op rfl rfl rfl (op_call Tryz.call173 c_wholeOf ⟨(Has.t rfl), (Has.t rfl), trivial⟩) ?_
  refine R_stA Tryz.sizeOf47 (Has.t rfl) (Has.t rfl) rfl (i := 2) rfl (Nat.le_of_ble_eq_true rfl) rfl rfl ?_
  refine R_nil ?_
  refine T_ret1 rfl (rv_to (rv_cell Tryz.isAgg47 Tryz.sizeOf47 rfl (i := 2) rfl rfl) ?_)
  exact (whole_of (sgn_times x y))
set_option maxRecDepth 20000 in
theorem c_scaled {x : Int} {n : Nat} (hx : (dg x.natAbs).length ≤ 17592186044416) (hn : (dg n).length ≤ 17592186044416) : Fun Tryz.prog 107 [WholeT x, NatT n] (WholeT (x * n)) := by
  refine Fun.intro Tryz.func107 rfl Tryz.ntmps107 rfl (fun cx => ?_)
  refine T_seq ?_
  refine T_region ?_
  refine R_new rfl rfl rfl (new_box (Has.t rfl)) (fun B2 => ?_)
  refine R_new rfl rfl rfl (new_alloc (Ts := [Is (.bool false), Is (.slice none 0 0)]) Tryz.zeroValue47 rfl (fun V => Cells.cons' ⟨rfl, trivial⟩ (Cells.cons' ⟨rfl, trivial⟩ (Cells.nil)))) (fun B4 => ?_)
  refine R_nil ?_
  refine T_seq ?_
  refine D_start (m := 6) ?_
  refine D_step (Ei := [(2, _)]) rfl rfl (Srcs.cons (Src.pre rfl rfl) Srcs.nil) (S_plain rfl (op_fldB fa_47_0 (Has.t rfl) rfl)) ?_
  refine D_step (Ei := [(5, _)]) rfl rfl (Srcs.cons (Src.op 0 rfl rfl) Srcs.nil) (S_plain rfl (op_ldB Tryz.isAgg4 Tryz.sizeOf4 (Has.t rfl) (i := 0) rfl rfl)) ?_
  refine D_step (Ei := [(2, _)]) rfl rfl (Srcs.cons (Src.pre rfl rfl) Srcs.nil) (S_plain rfl (op_fldB fa_47_1 (Has.t rfl) rfl)) ?_
  refine D_step (Ei := [(7, _)]) rfl rfl (Srcs.cons (Src.op 2 rfl rfl) Srcs.nil) (S_plain rfl (op_ldB Tryz.isAgg45 Tryz.sizeOf45 (Has.t rfl) (i := 0) rfl rfl)) ?_
  refine D_step (Ei := [(1, _)]) rfl rfl (Srcs.cons (Src.pre rfl rfl) Srcs.nil) (S_plain rfl (op_move (Has.t rfl))) ?_
  refine D_step (Ei := [(8, _), (9, _)]) rfl rfl (Srcs.cons (Src.op 3 rfl rfl) (Srcs.cons (Src.op 4 rfl rfl) Srcs.nil)) (S_plain rfl (op_call Tryz.call132 (c_mul (by omega) (by omega)) ⟨(Has.t rfl), (Has.t rfl), trivial⟩)) ?_
  refine D_done mixed rfl (by kernel_rfl) (F_val (F_val (F_val (F_val (F_val (F_val (F_nil ?_)))))))
  refine R_op rfl rfl rfl (op_call Tryz.call173 c_wholeOf ⟨(Has.t rfl), (Has.t rfl), trivial⟩) ?_
  refine R_stA Tryz.sizeOf47 (Has.t rfl) (Has.t rfl) rfl (i := 1) rfl (Nat.le_of_ble_eq_true rfl) rfl rfl ?_
  refine R_nil ?_
  refine T_ret1 rfl (rv_to (rv_cell Tryz.isAgg47 Tryz.sizeOf47 rfl (i := 1) rfl rfl) ?_)
  exact (whole_of (sgn_scaled x n))
set_option maxRecDepth 20000 in
theorem c_wcmp {x y : Int} (hx : (dg x.natAbs).length ≤ 17592186044415) (hy : (dg y.natAbs).length ≤ 17592186044415) : Fun Tryz.prog 100 [WholeT x, WholeT y] (IntT .i64 (cmpI x y)) := by
  have hny := dl_neg y
  have hs := dl_absadd (x := x) (y := -y) hx (by omega)
  refine Fun.intro Tryz.func100 rfl Tryz.ntmps100 rfl (fun cx => ?_)
  refine T_seq ?_
  refine T_region ?_
  refine R_new rfl rfl rfl (new_box (Has.t rfl)) (fun B2 => ?_)
  refine R_new rfl rfl rfl (new_box (Has.t rfl)) (fun B3 => ?_)
  refine R_op rfl rfl rfl (op_assign (Has.cN 0)) ?_
  refine R_nil ?_
  refine T_seq ?_
  refine D_start (m := 5) ?_
  refine D_step (Ei := [(2, _)]) rfl rfl (Srcs.cons (Src.pre rfl rfl) Srcs.nil) (S_plain rfl (op_ldBA Tryz.isAgg47 Tryz.sizeOf47 (Has.t rfl) (i := 0) rfl rfl rfl)) ?_
  refine D_step (Ei := [(3, _)]) rfl rfl (Srcs.cons (Src.pre rfl rfl) Srcs.nil) (S_plain rfl (op_ldBA Tryz.isAgg47 Tryz.sizeOf47 (Has.t rfl) (i := 1) rfl rfl rfl)) ?_
  refine D_step (Ei := [(7, _)]) rfl rfl (Srcs.cons (Src.op 1 rfl rfl) Srcs.nil) (S_plain rfl (op_call Tryz.call130 c_minus ⟨(Has.t rfl), trivial⟩)) ?_
  refine D_step (Ei := [(6, _), (8, _)]) rfl rfl (Srcs.cons (Src.op 0 rfl rfl) (Srcs.cons (Src.op 2 rfl rfl) Srcs.nil)) (S_plain rfl (op_call Tryz.call129 (c_plus (by omega) (by omega)) ⟨(Has.t rfl), (Has.t rfl), trivial⟩)) ?_
  refine D_new (Ei := []) rfl rfl rfl Srcs.nil (new_alloc (Ts := [Is (.bool false), Is (.slice none 0 0)]) Tryz.zeroValue47 rfl (fun V => Cells.cons' ⟨rfl, trivial⟩ (Cells.cons' ⟨rfl, trivial⟩ (Cells.nil)))) ?_
  refine D_done mixed rfl (by kernel_rfl) (F_val (F_val (F_val (F_val (F_new (fun B5 => F_nil ?_))))))
  refine R_stA Tryz.sizeOf47 (Has.t rfl) (Has.t rfl) rfl (i := 2) rfl (Nat.le_of_ble_eq_true rfl) rfl rfl ?_
  refine R_nil ?_
  refine T_seq ?_
  refine T_seq ?_
  refine T_region ?_
  refine R_op rfl rfl rfl (op_fldB fa_47_0 (Has.t rfl) rfl) ?_
  refine R_op rfl rfl rfl (op_ldB Tryz.isAgg4 Tryz.sizeOf4 (Has.t rfl) (i := 2) rfl rfl) ?_
  refine R_nil ?_
  refine T_cond (Has.t rfl) (fun hb => ?_) (fun hb => ?_)
  · have hn : x + -y < 0 := by simpa using hb
    refine T_seq ?_
    refine T_region ?_
    refine R_op rfl rfl rfl (op_assign Has.c) ?_
    refine R_nil ?_
    refine T_ret1 rfl (rv_to (rv_tmp rfl) ?_)
    exact (int_of (cmpI_lt hn))
  · have hn : ¬ x + -y < 0 := by simpa using hb
    refine T_skip ?_
    refine T_seq ?_
    refine T_region ?_
    refine R_op rfl rfl rfl (op_fldB fa_47_1 (Has.t rfl) rfl) ?_
    refine R_op rfl rfl rfl (op_ldB Tryz.isAgg45 Tryz.sizeOf45 (Has.t rfl) (i := 2) rfl rfl) ?_
    refine R_op rfl rfl rfl (op_len Tryz.runUnderlying45 (Has.t rfl) len_map) ?_
    refine R_op rfl rfl rfl (op_minN (Has.t rfl) (Has.cN 1)) ?_
    refine R_op rfl rfl rfl (op_assign (Has.t rfl)) ?_
    refine R_nil ?_
    refine T_ret1 rfl (rv_to (rv_tmp rfl) ?_)
    exact (int_of (cmpI_ge hn))
end Go.Proofs.YtppibhcfaahgpaaGreat
namespace Go.Proofs.YtppibhcfaahgpaaGreat
open Go Go.RowKit
theorem bld_49_0 {n : Nat} {E : Env} {H : Hp} {d : Option Tmp} {t : TypeId} {pos : String} {af : Array Edge} {g : Option (Nat × Bool)} {x0 : Operand} {T0 T1 : Ty} (h0 : Has E x0 (AggT [T0, T1])) :
    OpTy Tryz.prog n E H ⟨d, .build 49 #[(0, x0)], t, pos, af, g⟩ (AggT [T0, T1, Is (.bool false), Is (.slice none 0 0), Is (.slice none 0 0)]) :=
  op_build (parts := [(0, x0)]) fun a V w hs => by
    obtain ⟨v0, e0, c0⟩ := h0 n V a hs
    obtain ⟨c0_0, c0_1, rfl⟩ : ∃ c0_0 c0_1, v0 = [c0_0, c0_1] := list2 (by simpa using c0.length)
    refine ⟨.agg #[c0_0, c0_1, (.bool false), (.slice none 0 0), (.slice none 0 0)], ?_, [c0_0, c0_1, (.bool false), (.slice none 0 0), (.slice none 0 0)], rfl, Cells.cons' (c0.at (i := 0) rfl rfl) (Cells.cons' (c0.at (i := 1) rfl rfl) (Cells.cons' (⟨rfl, trivial⟩) (Cells.cons' (⟨rfl, trivial⟩) (Cells.cons' (⟨rfl, trivial⟩) (Cells.nil)))))⟩
    simp [e0, Instr.build, Instr.fill, Sem.run_bind, Result.andThen, cells_agg, Tryz.zeroValue49, Tryz.runUnderlying49, Tryz.sizeOf45, Tryz.sizeOf47]
theorem bld_49_0_1_2 {n : Nat} {E : Env} {H : Hp} {d : Option Tmp} {t : TypeId} {pos : String} {af : Array Edge} {g : Option (Nat × Bool)} {x0 x1 x2 : Operand} {T0 T1 T2 T3 T4 : Ty} (h0 : Has E x0 (AggT [T0, T1])) (h1 : Has E x1 (AggT [T2, T3])) [s2 : Shape T4 1 false] (h2 : Has E x2 T4) :
    OpTy Tryz.prog n E H ⟨d, .build 49 #[(0, x0), (1, x1), (2, x2)], t, pos, af, g⟩ (AggT [T0, T1, T2, T3, T4]) :=
  op_build (parts := [(0, x0), (1, x1), (2, x2)]) fun a V w hs => by
    obtain ⟨v0, e0, c0⟩ := h0 n V a hs
    obtain ⟨c0_0, c0_1, rfl⟩ : ∃ c0_0 c0_1, v0 = [c0_0, c0_1] := list2 (by simpa using c0.length)
    obtain ⟨v1, e1, c1⟩ := h1 n V a hs
    obtain ⟨c1_0, c1_1, rfl⟩ : ∃ c1_0 c1_1, v1 = [c1_0, c1_1] := list2 (by simpa using c1.length)
    have p2 := h2 n V a hs
    generalize e2 : a.eval x2 = v2 at p2
    have q2 := (s2.ok v2 V p2).2.2 rfl
    refine ⟨.agg #[c0_0, c0_1, c1_0, c1_1, v2], ?_, [c0_0, c0_1, c1_0, c1_1, v2], rfl, Cells.cons' (c0.at (i := 0) rfl rfl) (Cells.cons' (c0.at (i := 1) rfl rfl) (Cells.cons' (c1.at (i := 0) rfl rfl) (Cells.cons' (c1.at (i := 1) rfl rfl) (Cells.cons' (⟨p2, q2⟩) (Cells.nil)))))⟩
    simp [e0, e1, e2, Instr.build, Instr.fill, Sem.run_bind, Result.andThen, cells_agg, q2.cells, Tryz.zeroValue49, Tryz.runUnderlying49, Tryz.sizeOf45, Tryz.sizeOf47]
theorem fa_49_0 (a : Addr) (w : World) : (Instr.fieldAt 49 (.pointer (some a)) 0).run Tryz.prog w = .ok (.pointer (some (a.add 0))) w := by
  simp [Instr.fieldAt, Instr.sureAddr, fieldPlace, Sem.run_bind, Result.andThen, Tryz.runUnderlying49, Tryz.sizeOf47]
theorem fa_49_1 (a : Addr) (w : World) : (Instr.fieldAt 49 (.pointer (some a)) 1).run Tryz.prog w = .ok (.pointer (some (a.add 2))) w := by
  simp [Instr.fieldAt, Instr.sureAddr, fieldPlace, Sem.run_bind, Result.andThen, Tryz.runUnderlying49, Tryz.sizeOf47]
theorem fa_49_2 (a : Addr) (w : World) : (Instr.fieldAt 49 (.pointer (some a)) 2).run Tryz.prog w = .ok (.pointer (some (a.add 4))) w := by
  simp [Instr.fieldAt, Instr.sureAddr, fieldPlace, Sem.run_bind, Result.andThen, Tryz.runUnderlying49, Tryz.sizeOf45]
end Go.Proofs.YtppibhcfaahgpaaGreat
namespace Go.Proofs.YtppibhcfaahgpaaGreat
open Go Go.RowKit
set_option maxRecDepth 20000 in
theorem c_over {A B : Int} {D : Nat} (hD : 0 < D) (hA : (dg A.natAbs).length ≤ 17592186044415) (hB : (dg B.natAbs).length ≤ 17592186044415) (hD2 : (dg D).length ≤ 17592186044415) : Fun Tryz.prog 131 [WholeT A, WholeT B, NatT D] (NumT (Qi.mk' A B D)) := by
  have hg1 := dl_gcd hA hB
  have hg2 := dl_gcd hg1 hD2
  have hgp : Nat.gcd (Nat.gcd A.natAbs B.natAbs) D ≠ 0 := fun e => by have := Nat.gcd_eq_zero_iff.1 e; omega
  refine Fun.intro Tryz.func131 rfl Tryz.ntmps131 rfl (fun cx => ?_)
  refine T_seq ?_
  refine T_region ?_
  refine R_new rfl rfl rfl (new_box (Has.t rfl)) (fun B3 => ?_)
  refine R_new rfl rfl rfl (new_box (Has.t rfl)) (fun B4 => ?_)
  refine R_new rfl rfl rfl (new_alloc (Ts := [Is (.bool false), Is (.slice none 0 0), Is (.bool false), Is (.slice none 0 0), Is (.slice none 0 0)]) Tryz.zeroValue49 rfl (fun V => Cells.cons' ⟨rfl, trivial⟩ (Cells.cons' ⟨rfl, trivial⟩ (Cells.cons' ⟨rfl, trivial⟩ (Cells.cons' ⟨rfl, trivial⟩ (Cells.cons' ⟨rfl, trivial⟩ (Cells.nil))))))) (fun B6 => ?_)
  refine R_nil ?_
  refine T_seq ?_
  refine T_region ?_
  refine R_op rfl rfl rfl (op_fldB fa_47_1 (Has.t rfl) rfl) ?_
  refine R_op rfl rfl rfl (op_ldB Tryz.isAgg45 Tryz.sizeOf45 (Has.t rfl) (i := 0) rfl rfl) ?_
  refine R_op rfl rfl rfl (op_fldB fa_47_1 (Has.t rfl) rfl) ?_
  refine R_op rfl rfl rfl (op_ldB Tryz.isAgg45 Tryz.sizeOf45 (Has.t rfl) (i := 1) rfl rfl) ?_
  refine R_op rfl rfl rfl (op_call Tryz.call178 (c_gcd (by omega) (by omega)) ⟨(Has.t rfl), (Has.t rfl), trivial⟩) ?_
  refine R_op rfl rfl rfl (op_move (Has.t rfl)) ?_
  refine R_op rfl rfl rfl (op_call Tryz.call178 (c_gcd (by omega) (by omega)) ⟨(Has.t rfl), (Has.t rfl), trivial⟩) ?_
  refine R_op rfl rfl rfl (op_assign (Has.t rfl)) ?_
  refine R_nil ?_
  refine T_seq ?_
  refine T_join (fun (uu : Unit) => True) (fun (uu : Unit) => [(2, NatT (D / (Nat.gcd (Nat.gcd A.natAbs B.natAbs) D))), (3, PtrB B3 0), (4, PtrB B4 0), (6, PtrB B6 0)]) (fun (uu : Unit) => [box B3 47 [BoolT (decide (A < 0)), NatT (A.natAbs / (Nat.gcd (Nat.gcd A.natAbs B.natAbs) D))], box B4 47 [BoolT (decide (B < 0)), NatT (B.natAbs / (Nat.gcd (Nat.gcd A.natAbs B.natAbs) D))], box B6 49 [Is (.bool false), Is (.slice none 0 0), Is (.bool false), Is (.slice none 0 0), Is (.slice none 0 0)]]) ?_ (fun uu _ => ?_)
  · refine T_seq ?_
    refine T_region ?_
    refine R_op rfl rfl rfl (op_move (Has.t rfl)) ?_
    refine R_op rfl rfl rfl (op_call Tryz.call179 c_one ⟨(Has.t rfl), trivial⟩) ?_
    refine R_op rfl rfl rfl (op_not (Has.t rfl)) ?_
    refine R_nil ?_
    refine T_cond (Has.t rfl) (fun hb => ?_) (fun hb => ?_)
    · simp at hb
      refine T_seq ?_
      refine T_region ?_
      refine R_op rfl rfl rfl (op_fldB fa_47_1 (Has.t rfl) rfl) ?_
      refine R_op rfl rfl rfl (op_ldB Tryz.isAgg45 Tryz.sizeOf45 (Has.t rfl) (i := 0) rfl rfl) ?_
      refine R_op rfl rfl rfl (op_move (Has.t rfl)) ?_
      refine R_op rfl rfl rfl (op_call Tryz.call180 (c_div (by omega) (by omega) (by omega)) ⟨(Has.t rfl), (Has.t rfl), trivial⟩) ?_
      refine R_op rfl rfl rfl (op_move (Has.t rfl)) ?_
      refine R_op rfl rfl rfl (op_extract (Has.t rfl) rfl) ?_
      refine R_op rfl rfl rfl (op_extract (Has.t rfl) rfl) ?_
      refine R_op rfl rfl rfl (op_fldB fa_47_1 (Has.t rfl) rfl) ?_
      refine R_st Tryz.sizeOf45 (Has.t rfl) (Has.t rfl) (i := 0) rfl (Nat.le_of_ble_eq_true rfl) rfl ?_
      refine R_nil ?_
      refine T_seq ?_
      refine T_region ?_
      refine R_op rfl rfl rfl (op_fldB fa_47_1 (Has.t rfl) rfl) ?_
      refine R_op rfl rfl rfl (op_ldB Tryz.isAgg45 Tryz.sizeOf45 (Has.t rfl) (i := 1) rfl rfl) ?_
      refine R_op rfl rfl rfl (op_move (Has.t rfl)) ?_
      refine R_op rfl rfl rfl (op_call Tryz.call180 (c_div (by omega) (by omega) (by omega)) ⟨(Has.t rfl), (Has.t rfl), trivial⟩) ?_
      refine R_op rfl rfl rfl (op_move (Has.t rfl)) ?_
      refine R_op rfl rfl rfl (op_extract (Has.t rfl) rfl) ?_
      refine R_op rfl rfl rfl (op_extract (Has.t rfl) rfl) ?_
      refine R_op rfl rfl rfl (op_fldB fa_47_1 (Has.t rfl) rfl) ?_
      refine R_st Tryz.sizeOf45 (Has.t rfl) (Has.t rfl) (i := 1) rfl (Nat.le_of_ble_eq_true rfl) rfl ?_
      refine R_nil ?_
      refine T_region ?_
      refine R_op rfl rfl rfl (op_move (Has.t rfl)) ?_
      refine R_op rfl rfl rfl (op_move (Has.t rfl)) ?_
      refine R_op rfl rfl rfl (op_call Tryz.call180 (c_div (by omega) (by omega) (by omega)) ⟨(Has.t rfl), (Has.t rfl), trivial⟩) ?_
      refine R_op rfl rfl rfl (op_move (Has.t rfl)) ?_
      refine R_op rfl rfl rfl (op_extract (Has.t rfl) rfl) ?_
      refine R_op rfl rfl rfl (op_extract (Has.t rfl) rfl) ?_
      refine R_op rfl rfl rfl (op_assign (Has.t rfl)) ?_
      refine R_nil ?_
      refine T_joined () trivial (Sub.cons rfl (Sub.cons rfl (Sub.cons rfl (Sub.cons rfl Sub.nil)))) (HSub.cons (box_of (by first | rfl | simp)) (HSub.cons (box_of (by first | rfl | simp)) (HSub.cons (box_of rfl) HSub.nil)))
    · simp at hb
      refine T_skip ?_
      refine T_joined () trivial (Sub.to rfl (natT_of (by rw [hb, Nat.div_one])) (Sub.cons rfl (Sub.cons rfl (Sub.cons rfl Sub.nil)))) (HSub.cons (box_of (by rw [hb, Nat.div_one])) (HSub.cons (box_of (by rw [hb, Nat.div_one])) (HSub.cons (box_of rfl) HSub.nil)))
  · refine T_seq ?_
    refine T_join (fun (uu : Unit) => True) (fun (uu : Unit) => [(2, NatT (if D / (Nat.gcd (Nat.gcd A.natAbs B.natAbs) D) = 1 then 0 else D / (Nat.gcd (Nat.gcd A.natAbs B.natAbs) D))), (3, PtrB B3 0), (4, PtrB B4 0), (6, PtrB B6 0)]) (fun (uu : Unit) => [box B3 47 [BoolT (decide (A < 0)), NatT (A.natAbs / (Nat.gcd (Nat.gcd A.natAbs B.natAbs) D))], box B4 47 [BoolT (decide (B < 0)), NatT (B.natAbs / (Nat.gcd (Nat.gcd A.natAbs B.natAbs) D))], box B6 49 [Is (.bool false), Is (.slice none 0 0), Is (.bool false), Is (.slice none 0 0), Is (.slice none 0 0)]]) ?_ (fun uu _ => ?_)
    · refine T_seq ?_
      refine T_region ?_
      refine R_op rfl rfl rfl (op_move (Has.t rfl)) ?_
      refine R_op rfl rfl rfl (op_call Tryz.call179 c_one ⟨(Has.t rfl), trivial⟩) ?_
      refine R_nil ?_
      refine T_cond (Has.t rfl) (fun hb => ?_) (fun hb => ?_)
      · simp only [decide_eq_true_eq] at hb
        refine T_region ?_
        refine R_op rfl rfl rfl (op_assign Has.c) ?_
        refine R_nil ?_
        refine T_joined () trivial (Sub.to rfl (fun v V h => natT_of (by rw [if_pos hb]) v V (nil_natT v V h)) (Sub.cons rfl (Sub.cons rfl (Sub.cons rfl Sub.nil)))) (HSub.refl _)
      · simp only [decide_eq_false_iff_not] at hb
        refine T_skip ?_
        refine T_joined () trivial (Sub.to rfl (natT_of (by rw [if_neg hb])) (Sub.cons rfl (Sub.cons rfl (Sub.cons rfl Sub.nil)))) (HSub.refl _)
    · refine T_seq ?_
      refine T_region ?_
      refine R_op rfl rfl rfl (op_ldBA Tryz.isAgg47 Tryz.sizeOf47 (Has.t rfl) (i := 0) rfl rfl rfl) ?_
      refine R_op rfl rfl rfl (op_ldBA Tryz.isAgg47 Tryz.sizeOf47 (Has.t rfl) (i := 1) rfl rfl rfl) ?_
      refine R_op rfl rfl rfl (op_move (Has.t rfl)) ?_
      refine R_op rfl rfl rfl (bld_49_0_1_2 (Has.t rfl) (Has.t rfl) (Has.t rfl)) ?_
      refine R_stA Tryz.sizeOf49 (Has.t rfl) (Has.t rfl) rfl (i := 2) rfl (Nat.le_of_ble_eq_true rfl) rfl rfl ?_
      refine R_nil ?_
      refine T_ret1 rfl (rv_to (rv_cell Tryz.isAgg49 Tryz.sizeOf49 rfl (i := 2) rfl rfl) ?_)
      exact (over_of hD)
set_option maxRecDepth 20000 in
theorem c_den {x : Qi} : Fun Tryz.prog 108 [NumT x] (NatT x.den) := by
  refine Fun.intro Tryz.func108 rfl Tryz.ntmps108 rfl (fun cx => ?_)
  refine T_seq ?_
  refine T_region ?_
  refine R_new rfl rfl rfl (new_box (Has.t rfl)) (fun B1 => ?_)
  refine R_op rfl rfl rfl (op_assign Has.c) ?_
  refine R_nil ?_
  refine T_seq ?_
  refine T_seq ?_
  refine T_region ?_
  refine R_op rfl rfl rfl (op_fldB fa_49_2 (Has.t rfl) rfl) ?_
  refine R_op rfl rfl rfl (op_ldB Tryz.isAgg45 Tryz.sizeOf45 (Has.t rfl) (i := 0) rfl rfl) ?_
  refine R_op rfl rfl rfl (op_len Tryz.runUnderlying45 (Has.t rfl) len_map) ?_
  refine R_op rfl rfl rfl (op_eqlN (Has.t rfl) (Has.cN 0)) ?_
  refine R_nil ?_
  refine T_cond (Has.t rfl) (fun hb => ?_) (fun hb => ?_)
  · simp at hb
    have h1 : x.den = 1 := du_zero (dg_length_zero.1 (by simpa using hb))
    refine T_seq ?_
    refine T_region ?_
    refine R_op rfl rfl rfl (op_bslice (xs := [_]) Tryz.runUnderlying45 Tryz.sizeOf97 Tryz.zeroValue97 (Elems.cons (Has.cN 1) Elems.nil) rfl rfl rfl) ?_
    refine R_op rfl rfl rfl (op_assign (Has.t rfl)) ?_
    refine R_nil ?_
    refine T_ret1 rfl (rv_to (rv_tmp rfl) ?_)
    exact (fun v V h => natT_of h1.symm v V (one_natT v V h))
  · simp at hb
    have h1 : du x = x.den := du_self (fun e => hb (by simp [e, dg_zero]))
    refine T_skip ?_
    refine T_seq ?_
    refine T_region ?_
    refine R_op rfl rfl rfl (op_fldB fa_49_2 (Has.t rfl) rfl) ?_
    refine R_op rfl rfl rfl (op_ldB Tryz.isAgg45 Tryz.sizeOf45 (Has.t rfl) (i := 0) rfl rfl) ?_
    refine R_op rfl rfl rfl (op_assign (Has.t rfl)) ?_
    refine R_nil ?_
    refine T_ret1 rfl (rv_to (rv_tmp rfl) ?_)
    exact (natT_of h1)
set_option maxRecDepth 20000 in
theorem c_Int {n : Int} (h1 : -9223372036854775808 ≤ n) (h2 : n ≤ 9223372036854775807) : Fun Tryz.prog 28 [IntT .i64 n] (NumT (Qi.ofInt n)) := by
  refine Fun.intro Tryz.func28 rfl Tryz.ntmps28 rfl (fun cx => ?_)
  refine T_seq ?_
  refine T_region ?_
  refine R_new rfl rfl rfl (new_alloc (Ts := [Is (.bool false), Is (.slice none 0 0), Is (.bool false), Is (.slice none 0 0), Is (.slice none 0 0)]) Tryz.zeroValue49 rfl (fun V => Cells.cons' ⟨rfl, trivial⟩ (Cells.cons' ⟨rfl, trivial⟩ (Cells.cons' ⟨rfl, trivial⟩ (Cells.cons' ⟨rfl, trivial⟩ (Cells.cons' ⟨rfl, trivial⟩ (Cells.nil))))))) (fun B2 => ?_)
  refine R_nil ?_
  refine T_seq ?_
  refine T_region ?_
  refine R_op rfl rfl rfl (op_move (Has.t rfl)) ?_
  refine R_op rfl rfl rfl (op_call Tryz.call102 (c_of64 h1 h2) ⟨(Has.t rfl), trivial⟩) ?_
  refine R_op rfl rfl rfl (bld_49_0 (Has.t rfl)) ?_
  refine R_stA Tryz.sizeOf49 (Has.t rfl) (Has.t rfl) rfl (i := 0) rfl (Nat.le_of_ble_eq_true rfl) rfl rfl ?_
  refine R_nil ?_
  refine T_ret1 rfl (rv_to (rv_cell Tryz.isAgg49 Tryz.sizeOf49 rfl (i := 0) rfl rfl) ?_)
  exact num_int
set_option maxRecDepth 20000 in
theorem c_New {p q d : Int} (p1 : -9223372036854775808 ≤ p) (p2 : p ≤ 9223372036854775807) (q1 : -9223372036854775808 ≤ q) (q2 : q ≤ 9223372036854775807) (d1 : -9223372036854775808 ≤ d) (d2 : d ≤ 9223372036854775807) (hd : d ≠ 0) : Fun Tryz.prog 83 [IntT .i64 p, IntT .i64 q, IntT .i64 d] (TupT [NumT (Qi.frac p q d), IntT .i64 0]) := by
  have lp := dl64 p1 p2; have lq := dl64 q1 q2; have ld := dl64 d1 d2; have np := dl_neg p; have nq := dl_neg q
  refine Fun.intro Tryz.func83 rfl Tryz.ntmps83 rfl (fun cx => ?_)
  refine T_seq ?_
  refine T_region ?_
  refine R_new rfl rfl rfl (new_alloc (Ts := [Is (.bool false), Is (.slice none 0 0), Is (.bool false), Is (.slice none 0 0), Is (.slice none 0 0)]) Tryz.zeroValue49 rfl (fun V => Cells.cons' ⟨rfl, trivial⟩ (Cells.cons' ⟨rfl, trivial⟩ (Cells.cons' ⟨rfl, trivial⟩ (Cells.cons' ⟨rfl, trivial⟩ (Cells.cons' ⟨rfl, trivial⟩ (Cells.nil))))))) (fun B6 => ?_)
  refine R_op rfl rfl rfl (op_assign (Has.cN 0)) ?_
  refine R_nil ?_
  refine T_seq ?_
  refine T_seq ?_
  refine T_region ?_
  refine R_op rfl rfl rfl (op_move (Has.t rfl)) ?_
  refine R_op rfl rfl rfl (op_eql (Has.t rfl) Has.c) ?_
  refine R_nil ?_
  refine T_condF (Has.t rfl) (by simp [hd]) ?_
  refine T_skip ?_
  refine T_seq ?_
  refine T_region ?_
  refine R_op rfl rfl rfl (op_move (Has.t rfl)) ?_
  refine R_op rfl rfl rfl (op_call Tryz.call102 (c_of64 p1 p2) ⟨(Has.t rfl), trivial⟩) ?_
  refine R_op rfl rfl rfl (op_move (Has.t rfl)) ?_
  refine R_op rfl rfl rfl (op_call Tryz.call102 (c_of64 q1 q2) ⟨(Has.t rfl), trivial⟩) ?_
  refine R_op rfl rfl rfl (op_move (Has.t rfl)) ?_
  refine R_op rfl rfl rfl (op_call Tryz.call102 (c_of64 d1 d2) ⟨(Has.t rfl), trivial⟩) ?_
  refine R_new rfl rfl rfl (new_alloc (Ts := [Is (.bool false), Is (.slice none 0 0)]) Tryz.zeroValue47 rfl (fun V => Cells.cons' ⟨rfl, trivial⟩ (Cells.cons' ⟨rfl, trivial⟩ (Cells.nil)))) (fun B8 => ?_)
  refine R_new rfl rfl rfl (new_alloc (Ts := [Is (.bool false), Is (.slice none 0 0)]) Tryz.zeroValue47 rfl (fun V => Cells.cons' ⟨rfl, trivial⟩ (Cells.cons' ⟨rfl, trivial⟩ (Cells.nil)))) (fun B9 => ?_)
  refine R_new rfl rfl rfl (new_alloc (Ts := [Is (.bool false), Is (.slice none 0 0)]) Tryz.zeroValue47 rfl (fun V => Cells.cons' ⟨rfl, trivial⟩ (Cells.cons' ⟨rfl, trivial⟩ (Cells.nil)))) (fun B10 => ?_)
  refine R_stA Tryz.sizeOf47 (Has.t rfl) (Has.t rfl) rfl (i := 1) rfl (Nat.le_of_ble_eq_true rfl) rfl rfl ?_
  refine R_stA Tryz.sizeOf47 (Has.t rfl) (Has.t rfl) rfl (i := 2) rfl (Nat.le_of_ble_eq_true rfl) rfl rfl ?_
  refine R_stA Tryz.sizeOf47 (Has.t rfl) (Has.t rfl) rfl (i := 3) rfl (Nat.le_of_ble_eq_true rfl) rfl rfl ?_
  refine R_nil ?_
  refine T_seq ?_
  refine T_join2 (fun (a : Int) (b : Int) => Qi.mk' a b d.natAbs = Qi.frac p q d ∧ (dg a.natAbs).length ≤ 2 ∧ (dg b.natAbs).length ≤ 2) (fun (a : Int) (b : Int) => [(6, PtrB B6 0), (8, PtrB B8 0), (9, PtrB B9 0), (10, PtrB B10 0)]) (fun (a : Int) (b : Int) => [box B6 49 [Is (.bool false), Is (.slice none 0 0), Is (.bool false), Is (.slice none 0 0), Is (.slice none 0 0)], box B8 47 [BoolT (decide (a < 0)), NatT (a).natAbs], box B9 47 [BoolT (decide (b < 0)), NatT (b).natAbs], box B10 47 [BoolT (decide (d < 0)), NatT (d).natAbs]]) ?_ (fun a b ⟨hab, ha, hb⟩ => ?_)
  · refine T_seq ?_
    refine T_region ?_
    refine R_op rfl rfl rfl (op_fldB fa_47_0 (Has.t rfl) rfl) ?_
    refine R_op rfl rfl rfl (op_ldB Tryz.isAgg4 Tryz.sizeOf4 (Has.t rfl) (i := 3) rfl rfl) ?_
    refine R_nil ?_
    refine T_cond (Has.t rfl) (fun hn => ?_) (fun hn => ?_)
    · simp only [decide_eq_true_eq] at hn
      refine D_start (m := 3) ?_
      refine D_step (Ei := [(8, _)]) rfl rfl (Srcs.cons (Src.pre rfl rfl) Srcs.nil) (S_plain rfl (op_ldBA Tryz.isAgg47 Tryz.sizeOf47 (Has.t rfl) (i := 1) rfl rfl rfl)) ?_
      refine D_step (Ei := [(22, _)]) rfl rfl (Srcs.cons (Src.op 0 rfl rfl) Srcs.nil) (S_plain rfl (op_call Tryz.call130 c_minus ⟨(Has.t rfl), trivial⟩)) ?_
      refine D_step (Ei := [(9, _)]) rfl rfl (Srcs.cons (Src.pre rfl rfl) Srcs.nil) (S_plain rfl (op_ldBA Tryz.isAgg47 Tryz.sizeOf47 (Has.t rfl) (i := 2) rfl rfl rfl)) ?_
      refine D_done mixed rfl (by kernel_rfl) (F_val (F_val (F_val (F_nil ?_))))
      refine R_op rfl rfl rfl (op_call Tryz.call130 c_minus ⟨(Has.t rfl), trivial⟩) ?_
      refine R_stA Tryz.sizeOf47 (Has.t rfl) (Has.t rfl) rfl (i := 1) rfl (Nat.le_of_ble_eq_true rfl) rfl rfl ?_
      refine R_stA Tryz.sizeOf47 (Has.t rfl) (Has.t rfl) rfl (i := 2) rfl (Nat.le_of_ble_eq_true rfl) rfl rfl ?_
      refine R_nil ?_
      refine T_joined (-p, -q) ⟨Qi.frac_neg hn, by dsimp only; omega, by dsimp only; omega⟩ (Sub.cons rfl (Sub.cons rfl (Sub.cons rfl (Sub.cons rfl Sub.nil)))) (HSub.cons (box_of rfl) (HSub.cons (box_of rfl) (HSub.cons (box_of rfl) (HSub.cons (box_of rfl) HSub.nil))))
    · simp only [decide_eq_false_iff_not] at hn
      refine T_skip ?_
      refine T_joined (p, q) ⟨Qi.frac_pos hn hd, by omega, by omega⟩ (Sub.cons rfl (Sub.cons rfl (Sub.cons rfl (Sub.cons rfl Sub.nil)))) (HSub.refl _)
  · refine T_seq ?_
    refine T_region ?_
    refine R_op rfl rfl rfl (op_ldBA Tryz.isAgg47 Tryz.sizeOf47 (Has.t rfl) (i := 1) rfl rfl rfl) ?_
    refine R_op rfl rfl rfl (op_ldBA Tryz.isAgg47 Tryz.sizeOf47 (Has.t rfl) (i := 2) rfl rfl rfl) ?_
    refine R_op rfl rfl rfl (op_fldB fa_47_1 (Has.t rfl) rfl) ?_
    refine R_op rfl rfl rfl (op_ldB Tryz.isAgg45 Tryz.sizeOf45 (Has.t rfl) (i := 3) rfl rfl) ?_
    refine R_op rfl rfl rfl (op_call Tryz.call131 (c_over (by omega) (by omega) (by omega) (by omega)) ⟨(Has.t rfl), (Has.t rfl), (Has.t rfl), trivial⟩) ?_
    refine R_stA Tryz.sizeOf49 (Has.t rfl) (Has.t rfl) rfl (i := 0) rfl (Nat.le_of_ble_eq_true rfl) rfl rfl ?_
    refine R_op rfl rfl rfl (op_assign (Has.cN 0)) ?_
    refine R_nil ?_
    refine T_ret2 rfl (rv_to (rv_cell Tryz.isAgg49 Tryz.sizeOf49 rfl (i := 0) rfl rfl) ?_) (rv_tmp rfl)
    exact (num_of hab)
set_option maxRecDepth 20000 in
theorem c_Add {x y : Qi} {L M : Nat} [hx : FitC x L] [hy : FitC y M] (h : L + M + 1 ≤ 17592186044415) : Fun Tryz.prog 59 [NumT x, NumT y] (NumT (x + y)) := by
  have hxa := Fit_a hx.fit; have hxb := Fit_b hx.fit; have hxd := Fit_d hx.fit
  have hya := Fit_a hy.fit; have hyb := Fit_b hy.fit; have hyd := Fit_d hy.fit
  have hxp := x.den_pos; have hyp := y.den_pos; have hdp := Nat.mul_pos hxp hyp
  have e1 := dl_absscaled x.a y.den; have e2 := dl_absscaled y.a x.den; have e3 := dl_absscaled x.b y.den; have e4 := dl_absscaled y.b x.den; have e5 := dl_mul x.den y.den
  have e6 := dl_absadd (x := x.a * y.den) (y := y.a * x.den) (L := L + M) (by omega) (by omega); have e7 := dl_absadd (x := x.b * y.den) (y := y.b * x.den) (L := L + M) (by omega) (by omega)
  refine Fun.intro Tryz.func59 rfl Tryz.ntmps59 rfl (fun cx => ?_)
  refine T_seq ?_
  refine T_region ?_
  refine R_new rfl rfl rfl (new_box (Has.t rfl)) (fun B2 => ?_)
  refine R_new rfl rfl rfl (new_box (Has.t rfl)) (fun B3 => ?_)
  refine R_new rfl rfl rfl (new_alloc (Ts := [Is (.bool false), Is (.slice none 0 0), Is (.bool false), Is (.slice none 0 0), Is (.slice none 0 0)]) Tryz.zeroValue49 rfl (fun V => Cells.cons' ⟨rfl, trivial⟩ (Cells.cons' ⟨rfl, trivial⟩ (Cells.cons' ⟨rfl, trivial⟩ (Cells.cons' ⟨rfl, trivial⟩ (Cells.cons' ⟨rfl, trivial⟩ (Cells.nil))))))) (fun B4 => ?_)
  refine R_nil ?_
  refine T_seq ?_
  refine D_start (m := 3) ?_
  refine D_step (Ei := [(2, _)]) rfl rfl (Srcs.cons (Src.pre rfl rfl) Srcs.nil) (S_plain rfl (op_ldBA Tryz.isAgg49 Tryz.sizeOf49 (Has.t rfl) (i := 0) rfl rfl rfl)) ?_
  refine D_step (Ei := [(7, _)]) rfl rfl (Srcs.cons (Src.op 0 rfl rfl) Srcs.nil) (S_plain rfl (op_call Tryz.call108 c_den ⟨(Has.t rfl), trivial⟩)) ?_
  refine D_step (Ei := [(3, _)]) rfl rfl (Srcs.cons (Src.pre rfl rfl) Srcs.nil) (S_plain rfl (op_ldBA Tryz.isAgg49 Tryz.sizeOf49 (Has.t rfl) (i := 1) rfl rfl rfl)) ?_
  refine D_done mixed rfl (by kernel_rfl) (F_val (F_val (F_val (F_nil ?_))))
  refine R_op rfl rfl rfl (op_call Tryz.call108 c_den ⟨(Has.t rfl), trivial⟩) ?_
  refine R_op rfl rfl rfl (op_assign (Has.t rfl)) ?_
  refine R_op rfl rfl rfl (op_assign (Has.t rfl)) ?_
  refine R_nil ?_
  refine T_seq ?_
  refine D_start (m := 20) ?_
  refine D_step (Ei := [(2, _)]) rfl rfl (Srcs.cons (Src.pre rfl rfl) Srcs.nil) (S_plain rfl (op_fldB fa_49_0 (Has.t rfl) rfl)) ?_
  refine D_step (Ei := [(11, _)]) rfl rfl (Srcs.cons (Src.op 0 rfl rfl) Srcs.nil) (S_plain rfl (op_ldBA Tryz.isAgg47 Tryz.sizeOf47 (Has.t rfl) (i := 0) rfl rfl rfl)) ?_
  refine D_step (Ei := [(6, _)]) rfl rfl (Srcs.cons (Src.pre rfl rfl) Srcs.nil) (S_plain rfl (op_move (Has.t rfl))) ?_
  refine D_step (Ei := [(12, _), (13, _)]) rfl rfl (Srcs.cons (Src.op 1 rfl rfl) (Srcs.cons (Src.op 2 rfl rfl) Srcs.nil)) (S_plain rfl (op_call Tryz.call107 (c_scaled (by omega) (by omega)) ⟨(Has.t rfl), (Has.t rfl), trivial⟩)) ?_
  refine D_step (Ei := [(3, _)]) rfl rfl (Srcs.cons (Src.pre rfl rfl) Srcs.nil) (S_plain rfl (op_fldB fa_49_0 (Has.t rfl) rfl)) ?_
  refine D_step (Ei := [(15, _)]) rfl rfl (Srcs.cons (Src.op 4 rfl rfl) Srcs.nil) (S_plain rfl (op_ldBA Tryz.isAgg47 Tryz.sizeOf47 (Has.t rfl) (i := 1) rfl rfl rfl)) ?_
  refine D_step (Ei := [(5, _)]) rfl rfl (Srcs.cons (Src.pre rfl rfl) Srcs.nil) (S_plain rfl (op_move (Has.t rfl))) ?_
  refine D_step (Ei := [(16, _), (17, _)]) rfl rfl (Srcs.cons (Src.op 5 rfl rfl) (Srcs.cons (Src.op 6 rfl rfl) Srcs.nil)) (S_plain rfl (op_call Tryz.call107 (c_scaled (by omega) (by omega)) ⟨(Has.t rfl), (Has.t rfl), trivial⟩)) ?_
  refine D_step (Ei := [(14, _), (18, _)]) rfl rfl (Srcs.cons (Src.op 3 rfl rfl) (Srcs.cons (Src.op 7 rfl rfl) Srcs.nil)) (S_plain rfl (op_call Tryz.call129 (c_plus (by omega) (by omega)) ⟨(Has.t rfl), (Has.t rfl), trivial⟩)) ?_
  refine D_step (Ei := [(2, _)]) rfl rfl (Srcs.cons (Src.pre rfl rfl) Srcs.nil) (S_plain rfl (op_fldB fa_49_1 (Has.t rfl) rfl)) ?_
  refine D_step (Ei := [(20, _)]) rfl rfl (Srcs.cons (Src.op 9 rfl rfl) Srcs.nil) (S_plain rfl (op_ldBA Tryz.isAgg47 Tryz.sizeOf47 (Has.t rfl) (i := 0) rfl rfl rfl)) ?_
  refine D_step (Ei := [(6, _)]) rfl rfl (Srcs.cons (Src.pre rfl rfl) Srcs.nil) (S_plain rfl (op_move (Has.t rfl))) ?_
  refine D_step (Ei := [(21, _), (22, _)]) rfl rfl (Srcs.cons (Src.op 10 rfl rfl) (Srcs.cons (Src.op 11 rfl rfl) Srcs.nil)) (S_plain rfl (op_call Tryz.call107 (c_scaled (by omega) (by omega)) ⟨(Has.t rfl), (Has.t rfl), trivial⟩)) ?_
  refine D_step (Ei := [(3, _)]) rfl rfl (Srcs.cons (Src.pre rfl rfl) Srcs.nil) (S_plain rfl (op_fldB fa_49_1 (Has.t rfl) rfl)) ?_
  refine D_step (Ei := [(24, _)]) rfl rfl (Srcs.cons (Src.op 13 rfl rfl) Srcs.nil) (S_plain rfl (op_ldBA Tryz.isAgg47 Tryz.sizeOf47 (Has.t rfl) (i := 1) rfl rfl rfl)) ?_
  refine D_step (Ei := [(5, _)]) rfl rfl (Srcs.cons (Src.pre rfl rfl) Srcs.nil) (S_plain rfl (op_move (Has.t rfl))) ?_
  refine D_step (Ei := [(25, _), (26, _)]) rfl rfl (Srcs.cons (Src.op 14 rfl rfl) (Srcs.cons (Src.op 15 rfl rfl) Srcs.nil)) (S_plain rfl (op_call Tryz.call107 (c_scaled (by omega) (by omega)) ⟨(Has.t rfl), (Has.t rfl), trivial⟩)) ?_
  refine D_step (Ei := [(23, _), (27, _)]) rfl rfl (Srcs.cons (Src.op 12 rfl rfl) (Srcs.cons (Src.op 16 rfl rfl) Srcs.nil)) (S_plain rfl (op_call Tryz.call129 (c_plus (by omega) (by omega)) ⟨(Has.t rfl), (Has.t rfl), trivial⟩)) ?_
  refine D_step (Ei := [(5, _)]) rfl rfl (Srcs.cons (Src.pre rfl rfl) Srcs.nil) (S_plain rfl (op_move (Has.t rfl))) ?_
  refine D_step (Ei := [(6, _)]) rfl rfl (Srcs.cons (Src.pre rfl rfl) Srcs.nil) (S_plain rfl (op_move (Has.t rfl))) ?_
  refine D_done mixed rfl (by kernel_rfl) (F_val (F_val (F_val (F_val (F_val (F_val (F_val (F_val (F_val (F_val (F_val (F_val (F_val (F_val (F_val (F_val (F_val (F_val (F_val (F_val (F_nil ?_)))))))))))))))))))))
  refine R_op rfl rfl rfl (op_call Tryz.call132 (c_mul (by omega) (by omega)) ⟨(Has.t rfl), (Has.t rfl), trivial⟩) ?_
  refine R_op rfl rfl rfl (op_call Tryz.call131 (c_over (by first | assumption | omega) (by omega) (by omega) (by omega)) ⟨(Has.t rfl), (Has.t rfl), (Has.t rfl), trivial⟩) ?_
  refine R_stA Tryz.sizeOf49 (Has.t rfl) (Has.t rfl) rfl (i := 2) rfl (Nat.le_of_ble_eq_true rfl) rfl rfl ?_
  refine R_nil ?_
  refine T_ret1 rfl (rv_to (rv_cell Tryz.isAgg49 Tryz.sizeOf49 rfl (i := 2) rfl rfl) ?_)
  exact (num_of (Qi.mk_add x y))
set_option maxRecDepth 20000 in
theorem c_Neg {x : Qi} : Fun Tryz.prog 134 [NumT x] (NumT (-x)) := by
  refine Fun.intro Tryz.func134 rfl Tryz.ntmps134 rfl (fun cx => ?_)
  refine T_seq ?_
  refine T_region ?_
  refine R_new rfl rfl rfl (new_box (Has.t rfl)) (fun B1 => ?_)
  refine R_new rfl rfl rfl (new_alloc (Ts := [Is (.bool false), Is (.slice none 0 0), Is (.bool false), Is (.slice none 0 0), Is (.slice none 0 0)]) Tryz.zeroValue49 rfl (fun V => Cells.cons' ⟨rfl, trivial⟩ (Cells.cons' ⟨rfl, trivial⟩ (Cells.cons' ⟨rfl, trivial⟩ (Cells.cons' ⟨rfl, trivial⟩ (Cells.cons' ⟨rfl, trivial⟩ (Cells.nil))))))) (fun B2 => ?_)
  refine R_nil ?_
  refine T_seq ?_
  refine D_start (m := 8) ?_
  refine D_step (Ei := [(1, _)]) rfl rfl (Srcs.cons (Src.pre rfl rfl) Srcs.nil) (S_plain rfl (op_fldB fa_49_0 (Has.t rfl) rfl)) ?_
  refine D_step (Ei := [(3, _)]) rfl rfl (Srcs.cons (Src.op 0 rfl rfl) Srcs.nil) (S_plain rfl (op_ldBA Tryz.isAgg47 Tryz.sizeOf47 (Has.t rfl) (i := 0) rfl rfl rfl)) ?_
  refine D_step (Ei := [(4, _)]) rfl rfl (Srcs.cons (Src.op 1 rfl rfl) Srcs.nil) (S_plain rfl (op_call Tryz.call130 c_minus ⟨(Has.t rfl), trivial⟩)) ?_
  refine D_step (Ei := [(1, _)]) rfl rfl (Srcs.cons (Src.pre rfl rfl) Srcs.nil) (S_plain rfl (op_fldB fa_49_1 (Has.t rfl) rfl)) ?_
  refine D_step (Ei := [(6, _)]) rfl rfl (Srcs.cons (Src.op 3 rfl rfl) Srcs.nil) (S_plain rfl (op_ldBA Tryz.isAgg47 Tryz.sizeOf47 (Has.t rfl) (i := 0) rfl rfl rfl)) ?_
  refine D_step (Ei := [(7, _)]) rfl rfl (Srcs.cons (Src.op 4 rfl rfl) Srcs.nil) (S_plain rfl (op_call Tryz.call130 c_minus ⟨(Has.t rfl), trivial⟩)) ?_
  refine D_step (Ei := [(1, _)]) rfl rfl (Srcs.cons (Src.pre rfl rfl) Srcs.nil) (S_plain rfl (op_fldB fa_49_2 (Has.t rfl) rfl)) ?_
  refine D_step (Ei := [(9, _)]) rfl rfl (Srcs.cons (Src.op 6 rfl rfl) Srcs.nil) (S_plain rfl (op_ldB Tryz.isAgg45 Tryz.sizeOf45 (Has.t rfl) (i := 0) rfl rfl)) ?_
  refine D_done mixed rfl (by kernel_rfl) (F_val (F_val (F_val (F_val (F_val (F_val (F_val (F_val (F_nil ?_)))))))))
  refine R_op rfl rfl rfl (bld_49_0_1_2 (Has.t rfl) (Has.t rfl) (Has.t rfl)) ?_
  refine R_stA Tryz.sizeOf49 (Has.t rfl) (Has.t rfl) rfl (i := 1) rfl (Nat.le_of_ble_eq_true rfl) rfl rfl ?_
  refine R_nil ?_
  refine T_ret1 rfl (rv_to (rv_cell Tryz.isAgg49 Tryz.sizeOf49 rfl (i := 1) rfl rfl) ?_)
  exact (agg_of (by obtain ⟨e1, e2, e3⟩ := Qi.neg_a x; rw [e1, e2, du_of e3]; rfl))
set_option maxRecDepth 20000 in
theorem c_Sub {x y : Qi} {L M : Nat} [hx : FitC x L] [hy : FitC y M] (h : L + M + 1 ≤ 17592186044415) : Fun Tryz.prog 58 [NumT x, NumT y] (NumT (x - y)) := by
  have hxa := Fit_a hx.fit; have hxb := Fit_b hx.fit; have hxd := Fit_d hx.fit
  have hya := Fit_a hy.fit; have hyb := Fit_b hy.fit; have hyd := Fit_d hy.fit
  have hxp := x.den_pos; have hyp := y.den_pos; have hdp := Nat.mul_pos hxp hyp
  refine Fun.intro Tryz.func58 rfl Tryz.ntmps58 rfl (fun cx => ?_)
  refine T_seq ?_
  refine T_region ?_
  refine R_new rfl rfl rfl (new_box (Has.t rfl)) (fun B2 => ?_)
  refine R_new rfl rfl rfl (new_box (Has.t rfl)) (fun B3 => ?_)
  refine R_new rfl rfl rfl (new_alloc (Ts := [Is (.bool false), Is (.slice none 0 0), Is (.bool false), Is (.slice none 0 0), Is (.slice none 0 0)]) Tryz.zeroValue49 rfl (fun V => Cells.cons' ⟨rfl, trivial⟩ (Cells.cons' ⟨rfl, trivial⟩ (Cells.cons' ⟨rfl, trivial⟩ (Cells.cons' ⟨rfl, trivial⟩ (Cells.cons' ⟨rfl, trivial⟩ (Cells.nil))))))) (fun B4 => ?_)
  refine R_nil ?_
  refine T_seq ?_
  refine D_start (m := 3) ?_
  refine D_step (Ei := [(2, _)]) rfl rfl (Srcs.cons (Src.pre rfl rfl) Srcs.nil) (S_plain rfl (op_ldBA Tryz.isAgg49 Tryz.sizeOf49 (Has.t rfl) (i := 0) rfl rfl rfl)) ?_
  refine D_step (Ei := [(3, _)]) rfl rfl (Srcs.cons (Src.pre rfl rfl) Srcs.nil) (S_plain rfl (op_ldBA Tryz.isAgg49 Tryz.sizeOf49 (Has.t rfl) (i := 1) rfl rfl rfl)) ?_
  refine D_step (Ei := [(6, _)]) rfl rfl (Srcs.cons (Src.op 1 rfl rfl) Srcs.nil) (S_plain rfl (op_call Tryz.call134 c_Neg ⟨(Has.t rfl), trivial⟩)) ?_
  refine D_done mixed rfl (by kernel_rfl) (F_val (F_val (F_val (F_nil ?_))))
  refine R_op rfl rfl rfl (op_call Tryz.call59 (c_Add (by omega)) ⟨(Has.t rfl), (Has.t rfl), trivial⟩) ?_
  refine R_stA Tryz.sizeOf49 (Has.t rfl) (Has.t rfl) rfl (i := 2) rfl (Nat.le_of_ble_eq_true rfl) rfl rfl ?_
  refine R_nil ?_
  refine T_ret1 rfl (rv_to (rv_cell Tryz.isAgg49 Tryz.sizeOf49 rfl (i := 2) rfl rfl) ?_)
  exact (num_of (Qi.sub_def x y).symm)
set_option maxRecDepth 20000 in
theorem c_Mul {x y : Qi} {L M : Nat} [hx : FitC x L] [hy : FitC y M] (h : L + M + 1 ≤ 17592186044415) : Fun Tryz.prog 56 [NumT x, NumT y] (NumT (x * y)) := by
  have hxa := Fit_a hx.fit; have hxb := Fit_b hx.fit; have hxd := Fit_d hx.fit
  have hya := Fit_a hy.fit; have hyb := Fit_b hy.fit; have hyd := Fit_d hy.fit
  have hxp := x.den_pos; have hyp := y.den_pos; have hdp := Nat.mul_pos hxp hyp
  have e1 := dl_absmul x.a y.a; have e2 := dl_absmul x.b y.b; have e3 := dl_absmul x.a y.b; have e4 := dl_absmul x.b y.a; have e5 := dl_mul x.den y.den; have e8 := dl_neg (x.b * y.b)
  have e6 := dl_absadd (x := x.a * y.a) (y := -(x.b * y.b)) (L := L + M) (by omega) (by omega); have e7 := dl_absadd (x := x.a * y.b) (y := x.b * y.a) (L := L + M) (by omega) (by omega)
  refine Fun.intro Tryz.func56 rfl Tryz.ntmps56 rfl (fun cx => ?_)
  refine T_seq ?_
  refine T_region ?_
  refine R_new rfl rfl rfl (new_box (Has.t rfl)) (fun B2 => ?_)
  refine R_new rfl rfl rfl (new_box (Has.t rfl)) (fun B3 => ?_)
  refine R_new rfl rfl rfl (new_alloc (Ts := [Is (.bool false), Is (.slice none 0 0), Is (.bool false), Is (.slice none 0 0), Is (.slice none 0 0)]) Tryz.zeroValue49 rfl (fun V => Cells.cons' ⟨rfl, trivial⟩ (Cells.cons' ⟨rfl, trivial⟩ (Cells.cons' ⟨rfl, trivial⟩ (Cells.cons' ⟨rfl, trivial⟩ (Cells.cons' ⟨rfl, trivial⟩ (Cells.nil))))))) (fun B4 => ?_)
  refine R_nil ?_
  refine T_seq ?_
  refine D_start (m := 13) ?_
  refine D_step (Ei := [(2, _)]) rfl rfl (Srcs.cons (Src.pre rfl rfl) Srcs.nil) (S_plain rfl (op_fldB fa_49_0 (Has.t rfl) rfl)) ?_
  refine D_step (Ei := [(7, _)]) rfl rfl (Srcs.cons (Src.op 0 rfl rfl) Srcs.nil) (S_plain rfl (op_ldBA Tryz.isAgg47 Tryz.sizeOf47 (Has.t rfl) (i := 0) rfl rfl rfl)) ?_
  refine D_step (Ei := [(3, _)]) rfl rfl (Srcs.cons (Src.pre rfl rfl) Srcs.nil) (S_plain rfl (op_fldB fa_49_0 (Has.t rfl) rfl)) ?_
  refine D_step (Ei := [(9, _)]) rfl rfl (Srcs.cons (Src.op 2 rfl rfl) Srcs.nil) (S_plain rfl (op_ldBA Tryz.isAgg47 Tryz.sizeOf47 (Has.t rfl) (i := 1) rfl rfl rfl)) ?_
  refine D_step (Ei := [(8, _), (10, _)]) rfl rfl (Srcs.cons (Src.op 1 rfl rfl) (Srcs.cons (Src.op 3 rfl rfl) Srcs.nil)) (S_plain rfl (op_call Tryz.call128 (c_times (by omega) (by omega)) ⟨(Has.t rfl), (Has.t rfl), trivial⟩)) ?_
  refine D_step (Ei := [(2, _)]) rfl rfl (Srcs.cons (Src.pre rfl rfl) Srcs.nil) (S_plain rfl (op_fldB fa_49_1 (Has.t rfl) rfl)) ?_
  refine D_step (Ei := [(12, _)]) rfl rfl (Srcs.cons (Src.op 5 rfl rfl) Srcs.nil) (S_plain rfl (op_ldBA Tryz.isAgg47 Tryz.sizeOf47 (Has.t rfl) (i := 0) rfl rfl rfl)) ?_
  refine D_step (Ei := [(3, _)]) rfl rfl (Srcs.cons (Src.pre rfl rfl) Srcs.nil) (S_plain rfl (op_fldB fa_49_1 (Has.t rfl) rfl)) ?_
  refine D_step (Ei := [(14, _)]) rfl rfl (Srcs.cons (Src.op 7 rfl rfl) Srcs.nil) (S_plain rfl (op_ldBA Tryz.isAgg47 Tryz.sizeOf47 (Has.t rfl) (i := 1) rfl rfl rfl)) ?_
  refine D_step (Ei := [(13, _), (15, _)]) rfl rfl (Srcs.cons (Src.op 6 rfl rfl) (Srcs.cons (Src.op 8 rfl rfl) Srcs.nil)) (S_plain rfl (op_call Tryz.call128 (c_times (by omega) (by omega)) ⟨(Has.t rfl), (Has.t rfl), trivial⟩)) ?_
  refine D_step (Ei := [(16, _)]) rfl rfl (Srcs.cons (Src.op 9 rfl rfl) Srcs.nil) (S_plain rfl (op_call Tryz.call130 c_minus ⟨(Has.t rfl), trivial⟩)) ?_
  refine D_step (Ei := [(11, _), (17, _)]) rfl rfl (Srcs.cons (Src.op 4 rfl rfl) (Srcs.cons (Src.op 10 rfl rfl) Srcs.nil)) (S_plain rfl (op_call Tryz.call129 (c_plus (by omega) (by omega)) ⟨(Has.t rfl), (Has.t rfl), trivial⟩)) ?_
  refine D_new (Ei := []) rfl rfl rfl Srcs.nil (new_alloc (Ts := [Is (.bool false), Is (.slice none 0 0)]) Tryz.zeroValue47 rfl (fun V => Cells.cons' ⟨rfl, trivial⟩ (Cells.cons' ⟨rfl, trivial⟩ (Cells.nil)))) ?_
  refine D_done mixed rfl (by kernel_rfl) (F_val (F_val (F_val (F_val (F_val (F_val (F_val (F_val (F_val (F_val (F_val (F_val (F_new (fun B5 => F_nil ?_))))))))))))))
  refine R_stA Tryz.sizeOf47 (Has.t rfl) (Has.t rfl) rfl (i := 3) rfl (Nat.le_of_ble_eq_true rfl) rfl rfl ?_
  refine R_nil ?_
  refine T_seq ?_
  refine D_start (m := 12) ?_
  refine D_step (Ei := [(2, _)]) rfl rfl (Srcs.cons (Src.pre rfl rfl) Srcs.nil) (S_plain rfl (op_fldB fa_49_0 (Has.t rfl) rfl)) ?_
  refine D_step (Ei := [(19, _)]) rfl rfl (Srcs.cons (Src.op 0 rfl rfl) Srcs.nil) (S_plain rfl (op_ldBA Tryz.isAgg47 Tryz.sizeOf47 (Has.t rfl) (i := 0) rfl rfl rfl)) ?_
  refine D_step (Ei := [(3, _)]) rfl rfl (Srcs.cons (Src.pre rfl rfl) Srcs.nil) (S_plain rfl (op_fldB fa_49_1 (Has.t rfl) rfl)) ?_
  refine D_step (Ei := [(21, _)]) rfl rfl (Srcs.cons (Src.op 2 rfl rfl) Srcs.nil) (S_plain rfl (op_ldBA Tryz.isAgg47 Tryz.sizeOf47 (Has.t rfl) (i := 1) rfl rfl rfl)) ?_
  refine D_step (Ei := [(20, _), (22, _)]) rfl rfl (Srcs.cons (Src.op 1 rfl rfl) (Srcs.cons (Src.op 3 rfl rfl) Srcs.nil)) (S_plain rfl (op_call Tryz.call128 (c_times (by omega) (by omega)) ⟨(Has.t rfl), (Has.t rfl), trivial⟩)) ?_
  refine D_step (Ei := [(2, _)]) rfl rfl (Srcs.cons (Src.pre rfl rfl) Srcs.nil) (S_plain rfl (op_fldB fa_49_1 (Has.t rfl) rfl)) ?_
  refine D_step (Ei := [(24, _)]) rfl rfl (Srcs.cons (Src.op 5 rfl rfl) Srcs.nil) (S_plain rfl (op_ldBA Tryz.isAgg47 Tryz.sizeOf47 (Has.t rfl) (i := 0) rfl rfl rfl)) ?_
  refine D_step (Ei := [(3, _)]) rfl rfl (Srcs.cons (Src.pre rfl rfl) Srcs.nil) (S_plain rfl (op_fldB fa_49_0 (Has.t rfl) rfl)) ?_
  refine D_step (Ei := [(26, _)]) rfl rfl (Srcs.cons (Src.op 7 rfl rfl) Srcs.nil) (S_plain rfl (op_ldBA Tryz.isAgg47 Tryz.sizeOf47 (Has.t rfl) (i := 1) rfl rfl rfl)) ?_
  refine D_step (Ei := [(25, _), (27, _)]) rfl rfl (Srcs.cons (Src.op 6 rfl rfl) (Srcs.cons (Src.op 8 rfl rfl) Srcs.nil)) (S_plain rfl (op_call Tryz.call128 (c_times (by omega) (by omega)) ⟨(Has.t rfl), (Has.t rfl), trivial⟩)) ?_
  refine D_step (Ei := [(23, _), (28, _)]) rfl rfl (Srcs.cons (Src.op 4 rfl rfl) (Srcs.cons (Src.op 9 rfl rfl) Srcs.nil)) (S_plain rfl (op_call Tryz.call129 (c_plus (by omega) (by omega)) ⟨(Has.t rfl), (Has.t rfl), trivial⟩)) ?_
  refine D_new (Ei := []) rfl rfl rfl Srcs.nil (new_alloc (Ts := [Is (.bool false), Is (.slice none 0 0)]) Tryz.zeroValue47 rfl (fun V => Cells.cons' ⟨rfl, trivial⟩ (Cells.cons' ⟨rfl, trivial⟩ (Cells.nil)))) ?_
  refine D_done mixed rfl (by kernel_rfl) (F_val (F_val (F_val (F_val (F_val (F_val (F_val (F_val (F_val (F_val (F_val (F_new (fun B6 => F_nil ?_)))))))))))))
  refine R_stA Tryz.sizeOf47 (Has.t rfl) (Has.t rfl) rfl (i := 4) rfl (Nat.le_of_ble_eq_true rfl) rfl rfl ?_
  refine R_nil ?_
  refine T_seq ?_
  refine D_start (m := 7) ?_
  refine D_step (Ei := [(5, _)]) rfl rfl (Srcs.cons (Src.pre rfl rfl) Srcs.nil) (S_plain rfl (op_ldBA Tryz.isAgg47 Tryz.sizeOf47 (Has.t rfl) (i := 3) rfl rfl rfl)) ?_
  refine D_step (Ei := [(6, _)]) rfl rfl (Srcs.cons (Src.pre rfl rfl) Srcs.nil) (S_plain rfl (op_ldBA Tryz.isAgg47 Tryz.sizeOf47 (Has.t rfl) (i := 4) rfl rfl rfl)) ?_
  refine D_step (Ei := [(2, _)]) rfl rfl (Srcs.cons (Src.pre rfl rfl) Srcs.nil) (S_plain rfl (op_ldBA Tryz.isAgg49 Tryz.sizeOf49 (Has.t rfl) (i := 0) rfl rfl rfl)) ?_
  refine D_step (Ei := [(32, _)]) rfl rfl (Srcs.cons (Src.op 2 rfl rfl) Srcs.nil) (S_plain rfl (op_call Tryz.call108 c_den ⟨(Has.t rfl), trivial⟩)) ?_
  refine D_step (Ei := [(3, _)]) rfl rfl (Srcs.cons (Src.pre rfl rfl) Srcs.nil) (S_plain rfl (op_ldBA Tryz.isAgg49 Tryz.sizeOf49 (Has.t rfl) (i := 1) rfl rfl rfl)) ?_
  refine D_step (Ei := [(34, _)]) rfl rfl (Srcs.cons (Src.op 4 rfl rfl) Srcs.nil) (S_plain rfl (op_call Tryz.call108 c_den ⟨(Has.t rfl), trivial⟩)) ?_
  refine D_step (Ei := [(33, _), (35, _)]) rfl rfl (Srcs.cons (Src.op 3 rfl rfl) (Srcs.cons (Src.op 5 rfl rfl) Srcs.nil)) (S_plain rfl (op_call Tryz.call132 (c_mul (by omega) (by omega)) ⟨(Has.t rfl), (Has.t rfl), trivial⟩)) ?_
  refine D_done mixed rfl (by kernel_rfl) (F_val (F_val (F_val (F_val (F_val (F_val (F_val (F_nil ?_))))))))
  refine R_op rfl rfl rfl (op_call Tryz.call131 (c_over (by first | assumption | omega) (by omega) (by omega) (by omega)) ⟨(Has.t rfl), (Has.t rfl), (Has.t rfl), trivial⟩) ?_
  refine R_stA Tryz.sizeOf49 (Has.t rfl) (Has.t rfl) rfl (i := 2) rfl (Nat.le_of_ble_eq_true rfl) rfl rfl ?_
  refine R_nil ?_
  refine T_ret1 rfl (rv_to (rv_cell Tryz.isAgg49 Tryz.sizeOf49 rfl (i := 2) rfl rfl) ?_)
  exact (num_of (Qi.mk_mul x y))
set_option maxRecDepth 20000 in
theorem c_Clear {x : Qi} {L : Nat} [hx : FitC x L] (h : L ≤ 17592186044415) : Fun Tryz.prog 60 [NumT x] (BoolT (!decide (x = Qi.zero))) := by
  have hxa := Fit_a hx.fit; have hxb := Fit_b hx.fit; have hxd := Fit_d hx.fit
  refine Fun.intro Tryz.func60 rfl Tryz.ntmps60 rfl (fun cx => ?_)
  refine T_seq ?_
  refine T_region ?_
  refine R_new rfl rfl rfl (new_box (Has.t rfl)) (fun B1 => ?_)
  refine R_op rfl rfl rfl (op_assign Has.c) ?_
  refine R_nil ?_
  refine T_seq ?_
  refine T_region ?_
  refine R_op rfl rfl rfl (op_fldB fa_49_0 (Has.t rfl) rfl) ?_
  refine R_op rfl rfl rfl (op_fldB fa_47_1 (Has.t rfl) rfl) ?_
  refine R_op rfl rfl rfl (op_ldB Tryz.isAgg45 Tryz.sizeOf45 (Has.t rfl) (i := 0) rfl rfl) ?_
  refine R_op rfl rfl rfl (op_len Tryz.runUnderlying45 (Has.t rfl) len_map) ?_
  refine R_op rfl rfl rfl (op_fldB fa_49_1 (Has.t rfl) rfl) ?_
  refine R_op rfl rfl rfl (op_fldB fa_47_1 (Has.t rfl) rfl) ?_
  refine R_op rfl rfl rfl (op_ldB Tryz.isAgg45 Tryz.sizeOf45 (Has.t rfl) (i := 0) rfl rfl) ?_
  refine R_op rfl rfl rfl (op_len Tryz.runUnderlying45 (Has.t rfl) len_map) ?_
  refine R_op rfl rfl rfl (op_addN (Has.t rfl) (Has.t rfl) (by show _ < 9223372036854775808; first | omega | (simp only [lim]; omega))) ?_
  refine R_op rfl rfl rfl (op_gtrN (Has.t rfl) (Has.cN 0)) ?_
  refine R_op rfl rfl rfl (op_assign (Has.t rfl)) ?_
  refine R_nil ?_
  refine T_ret1 rfl (rv_to (rv_tmp rfl) ?_)
  exact (bool_of (clear_eq x))
set_option maxRecDepth 20000 in
theorem c_Real {x : Qi} : Fun Tryz.prog 32 [NumT x] (BoolT (decide (x.b = 0))) := by
  refine Fun.intro Tryz.func32 rfl Tryz.ntmps32 rfl (fun cx => ?_)
  refine T_seq ?_
  refine T_region ?_
  refine R_new rfl rfl rfl (new_box (Has.t rfl)) (fun B1 => ?_)
  refine R_op rfl rfl rfl (op_assign Has.c) ?_
  refine R_nil ?_
  refine T_seq ?_
  refine T_region ?_
  refine R_op rfl rfl rfl (op_fldB fa_49_1 (Has.t rfl) rfl) ?_
  refine R_op rfl rfl rfl (op_fldB fa_47_1 (Has.t rfl) rfl) ?_
  refine R_op rfl rfl rfl (op_ldB Tryz.isAgg45 Tryz.sizeOf45 (Has.t rfl) (i := 0) rfl rfl) ?_
  refine R_op rfl rfl rfl (op_len Tryz.runUnderlying45 (Has.t rfl) len_map) ?_
  refine R_op rfl rfl rfl (op_eqlN (Has.t rfl) (Has.cN 0)) ?_
  refine R_op rfl rfl rfl (op_assign (Has.t rfl)) ?_
  refine R_nil ?_
  refine T_ret1 rfl (rv_to (rv_tmp rfl) ?_)
  exact (bool_of (real_eq x))
set_option maxRecDepth 20000 in
theorem c_Cmp {x y : Qi} {L M : Nat} [hx : FitC x L] [hy : FitC y M] (h : L + M ≤ 17592186044415) : Fun Tryz.prog 33 [NumT x, NumT y] (IntT .i64 (cmpQ x y)) := by
  have hxa := Fit_a hx.fit; have hxb := Fit_b hx.fit; have hxd := Fit_d hx.fit
  have hya := Fit_a hy.fit; have hyb := Fit_b hy.fit; have hyd := Fit_d hy.fit
  have e1 := dl_absscaled x.a y.den; have e2 := dl_absscaled y.a x.den; have e3 := dl_absscaled x.b y.den; have e4 := dl_absscaled y.b x.den
  refine Fun.intro Tryz.func33 rfl Tryz.ntmps33 rfl (fun cx => ?_)
  refine T_seq ?_
  refine T_region ?_
  refine R_new rfl rfl rfl (new_box (Has.t rfl)) (fun B2 => ?_)
  refine R_new rfl rfl rfl (new_box (Has.t rfl)) (fun B3 => ?_)
  refine R_op rfl rfl rfl (op_assign (Has.cN 0)) ?_
  refine R_nil ?_
  refine T_seq ?_
  refine T_seq ?_
  refine D_start (m := 9) ?_
  refine D_step (Ei := [(2, _)]) rfl rfl (Srcs.cons (Src.pre rfl rfl) Srcs.nil) (S_plain rfl (op_fldB fa_49_0 (Has.t rfl) rfl)) ?_
  refine D_step (Ei := [(6, _)]) rfl rfl (Srcs.cons (Src.op 0 rfl rfl) Srcs.nil) (S_plain rfl (op_ldBA Tryz.isAgg47 Tryz.sizeOf47 (Has.t rfl) (i := 0) rfl rfl rfl)) ?_
  refine D_step (Ei := [(3, _)]) rfl rfl (Srcs.cons (Src.pre rfl rfl) Srcs.nil) (S_plain rfl (op_ldBA Tryz.isAgg49 Tryz.sizeOf49 (Has.t rfl) (i := 1) rfl rfl rfl)) ?_
  refine D_step (Ei := [(8, _)]) rfl rfl (Srcs.cons (Src.op 2 rfl rfl) Srcs.nil) (S_plain rfl (op_call Tryz.call108 c_den ⟨(Has.t rfl), trivial⟩)) ?_
  refine D_step (Ei := [(7, _), (9, _)]) rfl rfl (Srcs.cons (Src.op 1 rfl rfl) (Srcs.cons (Src.op 3 rfl rfl) Srcs.nil)) (S_plain rfl (op_call Tryz.call107 (c_scaled (by omega) (by omega)) ⟨(Has.t rfl), (Has.t rfl), trivial⟩)) ?_
  refine D_step (Ei := [(3, _)]) rfl rfl (Srcs.cons (Src.pre rfl rfl) Srcs.nil) (S_plain rfl (op_fldB fa_49_0 (Has.t rfl) rfl)) ?_
  refine D_step (Ei := [(11, _)]) rfl rfl (Srcs.cons (Src.op 5 rfl rfl) Srcs.nil) (S_plain rfl (op_ldBA Tryz.isAgg47 Tryz.sizeOf47 (Has.t rfl) (i := 1) rfl rfl rfl)) ?_
  refine D_step (Ei := [(2, _)]) rfl rfl (Srcs.cons (Src.pre rfl rfl) Srcs.nil) (S_plain rfl (op_ldBA Tryz.isAgg49 Tryz.sizeOf49 (Has.t rfl) (i := 0) rfl rfl rfl)) ?_
  refine D_step (Ei := [(13, _)]) rfl rfl (Srcs.cons (Src.op 7 rfl rfl) Srcs.nil) (S_plain rfl (op_call Tryz.call108 c_den ⟨(Has.t rfl), trivial⟩)) ?_
  refine D_done mixed rfl (by kernel_rfl) (F_val (F_val (F_val (F_val (F_val (F_val (F_val (F_val (F_val (F_nil ?_))))))))))
  refine R_op rfl rfl rfl (op_call Tryz.call107 (c_scaled (by omega) (by omega)) ⟨(Has.t rfl), (Has.t rfl), trivial⟩) ?_
  refine R_op rfl rfl rfl (op_call Tryz.call100 (c_wcmp (by omega) (by omega)) ⟨(Has.t rfl), (Has.t rfl), trivial⟩) ?_
  refine R_op rfl rfl rfl (op_assign (Has.t rfl)) ?_
  refine R_nil ?_
  refine T_seq ?_
  refine T_region ?_
  refine R_op rfl rfl rfl (op_move (Has.t rfl)) ?_
  refine R_op rfl rfl rfl (op_neq (Has.t rfl) Has.c) ?_
  refine R_nil ?_
  refine T_cond (Has.t rfl) (fun hb => ?_) (fun hb => ?_)
  · simp only [Bool.not_eq_true', decide_eq_false_iff_not] at hb
    refine T_seq ?_
    refine T_region ?_
    refine R_op rfl rfl rfl (op_move (Has.t rfl)) ?_
    refine R_op rfl rfl rfl (op_assign (Has.t rfl)) ?_
    refine R_nil ?_
    refine T_ret1 rfl (rv_to (rv_tmp rfl) ?_)
    exact (int_of (by rw [cmpQ, if_pos hb]))
  · simp only [Bool.not_eq_false', decide_eq_true_eq] at hb
    refine T_skip ?_
    refine T_seq ?_
    refine D_start (m := 9) ?_
    refine D_step (Ei := [(2, _)]) rfl rfl (Srcs.cons (Src.pre rfl rfl) Srcs.nil) (S_plain rfl (op_fldB fa_49_1 (Has.t rfl) rfl)) ?_
    refine D_step (Ei := [(20, _)]) rfl rfl (Srcs.cons (Src.op 0 rfl rfl) Srcs.nil) (S_plain rfl (op_ldBA Tryz.isAgg47 Tryz.sizeOf47 (Has.t rfl) (i := 0) rfl rfl rfl)) ?_
    refine D_step (Ei := [(3, _)]) rfl rfl (Srcs.cons (Src.pre rfl rfl) Srcs.nil) (S_plain rfl (op_ldBA Tryz.isAgg49 Tryz.sizeOf49 (Has.t rfl) (i := 1) rfl rfl rfl)) ?_
    refine D_step (Ei := [(22, _)]) rfl rfl (Srcs.cons (Src.op 2 rfl rfl) Srcs.nil) (S_plain rfl (op_call Tryz.call108 c_den ⟨(Has.t rfl), trivial⟩)) ?_
    refine D_step (Ei := [(21, _), (23, _)]) rfl rfl (Srcs.cons (Src.op 1 rfl rfl) (Srcs.cons (Src.op 3 rfl rfl) Srcs.nil)) (S_plain rfl (op_call Tryz.call107 (c_scaled (by omega) (by omega)) ⟨(Has.t rfl), (Has.t rfl), trivial⟩)) ?_
    refine D_step (Ei := [(3, _)]) rfl rfl (Srcs.cons (Src.pre rfl rfl) Srcs.nil) (S_plain rfl (op_fldB fa_49_1 (Has.t rfl) rfl)) ?_
    refine D_step (Ei := [(25, _)]) rfl rfl (Srcs.cons (Src.op 5 rfl rfl) Srcs.nil) (S_plain rfl (op_ldBA Tryz.isAgg47 Tryz.sizeOf47 (Has.t rfl) (i := 1) rfl rfl rfl)) ?_
    refine D_step (Ei := [(2, _)]) rfl rfl (Srcs.cons (Src.pre rfl rfl) Srcs.nil) (S_plain rfl (op_ldBA Tryz.isAgg49 Tryz.sizeOf49 (Has.t rfl) (i := 0) rfl rfl rfl)) ?_
    refine D_step (Ei := [(27, _)]) rfl rfl (Srcs.cons (Src.op 7 rfl rfl) Srcs.nil) (S_plain rfl (op_call Tryz.call108 c_den ⟨(Has.t rfl), trivial⟩)) ?_
    refine D_done mixed rfl (by kernel_rfl) (F_val (F_val (F_val (F_val (F_val (F_val (F_val (F_val (F_val (F_nil ?_))))))))))
    refine R_op rfl rfl rfl (op_call Tryz.call107 (c_scaled (by omega) (by omega)) ⟨(Has.t rfl), (Has.t rfl), trivial⟩) ?_
    refine R_op rfl rfl rfl (op_call Tryz.call100 (c_wcmp (by omega) (by omega)) ⟨(Has.t rfl), (Has.t rfl), trivial⟩) ?_
    refine R_op rfl rfl rfl (op_assign (Has.t rfl)) ?_
    refine R_nil ?_
    refine T_ret1 rfl (rv_to (rv_tmp rfl) ?_)
    exact (int_of (by rw [cmpQ, if_neg (by simpa using hb)]))
end Go.Proofs.YtppibhcfaahgpaaGreat
namespace Go.Proofs.YtppibhcfaahgpaaGreat
open Go Go.RowKit
theorem bld_47_ {n : Nat} {E : Env} {H : Hp} {d : Option Tmp} {t : TypeId} {pos : String} {af : Array Edge} {g : Option (Nat × Bool)}  :
    OpTy Tryz.prog n E H ⟨d, .build 47 #[], t, pos, af, g⟩ (AggT [Is (.bool false), Is (.slice none 0 0)]) :=
  op_build (parts := []) fun a V w hs => by
    refine ⟨.agg #[(.bool false), (.slice none 0 0)], ?_, [(.bool false), (.slice none 0 0)], rfl, Cells.cons' (⟨rfl, trivial⟩) (Cells.cons' (⟨rfl, trivial⟩) (Cells.nil))⟩
    simp [Instr.build, Instr.fill, Sem.run_bind, Result.andThen, cells_agg, Tryz.zeroValue47, Tryz.runUnderlying47, Tryz.sizeOf4, Tryz.sizeOf45]
theorem fa_27_0 (a : Addr) (w : World) : (Instr.fieldAt 27 (.pointer (some a)) 0).run Tryz.prog w = .ok (.pointer (some (a.add 0))) w := by
  simp [Instr.fieldAt, Instr.sureAddr, fieldPlace, Sem.run_bind, Result.andThen, Tryz.runUnderlying27, Tryz.sizeOf2]
theorem fa_27_1 (a : Addr) (w : World) : (Instr.fieldAt 27 (.pointer (some a)) 1).run Tryz.prog w = .ok (.pointer (some (a.add 1))) w := by
  simp [Instr.fieldAt, Instr.sureAddr, fieldPlace, Sem.run_bind, Result.andThen, Tryz.runUnderlying27, Tryz.sizeOf2]
theorem fa_27_2 (a : Addr) (w : World) : (Instr.fieldAt 27 (.pointer (some a)) 2).run Tryz.prog w = .ok (.pointer (some (a.add 2))) w := by
  simp [Instr.fieldAt, Instr.sureAddr, fieldPlace, Sem.run_bind, Result.andThen, Tryz.runUnderlying27, Tryz.sizeOf2]
theorem info_49 : Tryz.prog.info? 49 = some Tryz.t49 := by kernel_rfl
theorem und_30 : Tryz.prog.underlying 30 = some (.slice 49) := by kernel_rfl
end Go.Proofs.YtppibhcfaahgpaaGreat
namespace Go.Proofs.YtppibhcfaahgpaaGreat
open Go Go.RowKit
set_option maxRecDepth 20000 in
theorem c_part {a : Int} {d : Nat} (hd : 0 < d) (ha : (dg a.natAbs).length ≤ 8796093022208) (hd2 : (dg d).length ≤ 8796093022208) : Fun Tryz.prog 150 [WholeT a, NatT d] (StrT (ptxt a d)) := by
  have h1 := mk_a_len a hd; have h2 := mk_d_len a hd
  obtain ⟨x, hx⟩ : ∃ x, x = Qi.mk' a 0 d := ⟨_, rfl⟩
  rw [ptxt, ← hx]
  rw [← hx] at h1 h2
  have h3 := dec_len x.a.natAbs; have h4 := dec_len x.den
  have h5 : (dg (0 : Int).natAbs).length ≤ 0 := by rw [show (0 : Int).natAbs = 0 from rfl, dg_zero]; exact Nat.le_refl _
  refine Fun.intro Tryz.func150 rfl Tryz.ntmps150 rfl (fun cx => ?_)
  refine T_seq ?_
  refine T_region ?_
  refine R_new rfl rfl rfl (new_box (Has.t rfl)) (fun B2 => ?_)
  refine R_op rfl rfl rfl (op_assign (Has.cS (l := []) rfl)) ?_
  refine R_nil ?_
  refine T_seq ?_
  refine T_region ?_
  refine R_op rfl rfl rfl (op_ldBA Tryz.isAgg47 Tryz.sizeOf47 (Has.t rfl) (i := 0) rfl rfl rfl) ?_
  refine R_op rfl rfl rfl (OpTy.imp (bld_47_ ) zero_whole) ?_
  refine R_op rfl rfl rfl (op_move (Has.t rfl)) ?_
  refine R_op rfl rfl rfl (OpTy.imp (op_call Tryz.call131 (c_over (by first | assumption | omega) (by omega) (by omega) (by omega)) ⟨(Has.t rfl), (Has.t rfl), (Has.t rfl), trivial⟩) (num_of hx.symm)) ?_
  refine R_new rfl rfl rfl (new_alloc (Ts := [Is (.bool false), Is (.slice none 0 0), Is (.bool false), Is (.slice none 0 0), Is (.slice none 0 0)]) Tryz.zeroValue49 rfl (fun V => Cells.cons' ⟨rfl, trivial⟩ (Cells.cons' ⟨rfl, trivial⟩ (Cells.cons' ⟨rfl, trivial⟩ (Cells.cons' ⟨rfl, trivial⟩ (Cells.cons' ⟨rfl, trivial⟩ (Cells.nil))))))) (fun B5 => ?_)
  refine R_stA Tryz.sizeOf49 (Has.t rfl) (Has.t rfl) rfl (i := 1) rfl (Nat.le_of_ble_eq_true rfl) rfl rfl ?_
  refine R_nil ?_
  refine T_seq ?_
  refine T_region ?_
  refine R_op rfl rfl rfl (op_fldB fa_49_0 (Has.t rfl) rfl) ?_
  refine R_op rfl rfl rfl (op_fldB fa_47_1 (Has.t rfl) rfl) ?_
  refine R_op rfl rfl rfl (op_ldB Tryz.isAgg45 Tryz.sizeOf45 (Has.t rfl) (i := 1) rfl rfl) ?_
  refine R_op rfl rfl rfl (op_call Tryz.call198 (c_digits (by omega)) ⟨(Has.t rfl), trivial⟩) ?_
  refine R_op rfl rfl rfl (op_assign (Has.t rfl)) ?_
  refine R_nil ?_
  refine T_seq ?_
  refine T_join (fun (uu : Unit) => True) (fun (uu : Unit) => [(5, PtrB B5 0), (6, StrT (if x.a < 0 then 45 :: dec x.a.natAbs else dec x.a.natAbs))]) (fun (uu : Unit) => [box B2 47 [BoolT (decide (a < 0)), NatT (a).natAbs], box B5 49 [BoolT (decide ((x).a < 0)), NatT (x).a.natAbs, BoolT (decide ((x).b < 0)), NatT (x).b.natAbs, NatT (du (x))]]) ?_ (fun uu _ => ?_)
  · refine T_seq ?_
    refine T_region ?_
    refine R_op rfl rfl rfl (op_fldB fa_49_0 (Has.t rfl) rfl) ?_
    refine R_op rfl rfl rfl (op_fldB fa_47_0 (Has.t rfl) rfl) ?_
    refine R_op rfl rfl rfl (op_ldB Tryz.isAgg4 Tryz.sizeOf4 (Has.t rfl) (i := 1) rfl rfl) ?_
    refine R_nil ?_
    refine T_cond (Has.t rfl) (fun hb => ?_) (fun hb => ?_)
    · simp only [decide_eq_true_eq] at hb
      refine T_region ?_
      refine R_op rfl rfl rfl (op_move (Has.t rfl)) ?_
      refine R_op rfl rfl rfl (op_addS (Has.cS (l := [45]) rfl) (Has.t rfl) (by first | omega | (simp; omega))) ?_
      refine R_op rfl rfl rfl (op_assign (Has.t rfl)) ?_
      refine R_nil ?_
      refine T_joined () trivial (Sub.cons rfl (Sub.to rfl (str_to (by rw [if_pos hb]; rfl)) Sub.nil)) (HSub.cons (box_of rfl) (HSub.cons (box_of rfl) HSub.nil))
    · simp only [decide_eq_false_iff_not] at hb
      refine T_skip ?_
      refine T_joined () trivial (Sub.cons rfl (Sub.to rfl (str_to (by rw [if_neg hb])) Sub.nil)) (HSub.cons (box_of rfl) (HSub.cons (box_of rfl) HSub.nil))
  · have h6 : (if x.a < 0 then 45 :: dec x.a.natAbs else dec x.a.natAbs).length ≤ (dec x.a.natAbs).length + 1 := by split <;> simp
    have h7 := dl_du x
    refine T_seq ?_
    refine T_join (fun (uu : Unit) => True) (fun (uu : Unit) => [(6, StrT ((if x.a < 0 then 45 :: dec x.a.natAbs else dec x.a.natAbs) ++ (if x.den = 1 then [] else 47 :: dec x.den)))]) (fun (uu : Unit) => [box B2 47 [BoolT (decide (a < 0)), NatT (a).natAbs], box B5 49 [BoolT (decide ((x).a < 0)), NatT (x).a.natAbs, BoolT (decide ((x).b < 0)), NatT (x).b.natAbs, NatT (du (x))]]) ?_ (fun uu _ => ?_)
    · refine T_seq ?_
      refine T_region ?_
      refine R_op rfl rfl rfl (op_fldB fa_49_2 (Has.t rfl) rfl) ?_
      refine R_op rfl rfl rfl (op_ldB Tryz.isAgg45 Tryz.sizeOf45 (Has.t rfl) (i := 1) rfl rfl) ?_
      refine R_op rfl rfl rfl (op_len Tryz.runUnderlying45 (Has.t rfl) len_map) ?_
      refine R_op rfl rfl rfl (op_gtrN (Has.t rfl) (Has.cN 0)) ?_
      refine R_nil ?_
      refine T_cond (Has.t rfl) (fun hb => ?_) (fun hb => ?_)
      · simp only [decide_eq_true_eq] at hb
        have h8 : du x = x.den := du_self (fun e => by rw [e, dg_zero] at hb; simp at hb)
        have h9 : x.den ≠ 1 := fun e => by rw [du, if_pos e, dg_zero] at hb; simp at hb
        have h10 := dec_len (du x)
        refine T_region ?_
        refine R_op rfl rfl rfl (op_move (Has.t rfl)) ?_
        refine R_op rfl rfl rfl (op_fldB fa_49_2 (Has.t rfl) rfl) ?_
        refine R_op rfl rfl rfl (op_ldB Tryz.isAgg45 Tryz.sizeOf45 (Has.t rfl) (i := 1) rfl rfl) ?_
        refine R_op rfl rfl rfl (op_call Tryz.call198 (c_digits (by omega)) ⟨(Has.t rfl), trivial⟩) ?_
        refine R_op rfl rfl rfl (op_addS (Has.cS (l := [47]) rfl) (Has.t rfl) (by simp only [List.length_cons, List.length_nil]; omega)) ?_
        refine R_op rfl rfl rfl (op_addS (Has.t rfl) (Has.t rfl) (by simp only [List.length_append, List.length_cons, List.length_nil]; omega)) ?_
        refine R_op rfl rfl rfl (op_assign (Has.t rfl)) ?_
        refine R_nil ?_
        refine T_joined () trivial (Sub.to rfl (str_to (by rw [if_neg h9, h8]; rfl)) Sub.nil) (HSub.refl _)
      · simp only [decide_eq_false_iff_not] at hb
        have h9 : x.den = 1 := du_zero (dg_length_zero.1 (by omega))
        refine T_skip ?_
        refine T_joined () trivial (Sub.to rfl (str_to (by rw [if_pos h9, List.append_nil])) Sub.nil) (HSub.refl _)
    · refine T_seq ?_
      refine T_region ?_
      refine R_op rfl rfl rfl (op_move (Has.t rfl)) ?_
      refine R_op rfl rfl rfl (op_assign (Has.t rfl)) ?_
      refine R_nil ?_
      exact T_ret1 rfl (rv_tmp rfl)
set_option maxRecDepth 20000 in
theorem c_Text {x : Qi} {L : Nat} [hx : FitC x L] (h : L ≤ 8796093022208) : Fun Tryz.prog 75 [NumT x] (StrT (txt x)) := by
  have hxa := Fit_a hx.fit; have hxb := Fit_b hx.fit; have hxd := Fit_d hx.fit; have hdp := x.den_pos
  have l1 := ptxt_len x.a hdp; have l2 := ptxt_len x.b hdp
  refine Fun.intro Tryz.func75 rfl Tryz.ntmps75 rfl (fun cx => ?_)
  refine T_seq ?_
  refine T_region ?_
  refine R_new rfl rfl rfl (new_box (Has.t rfl)) (fun B1 => ?_)
  refine R_op rfl rfl rfl (op_assign (Has.cS (l := []) rfl)) ?_
  refine R_nil ?_
  refine T_seq ?_
  refine T_seq ?_
  refine T_region ?_
  refine R_op rfl rfl rfl (op_ldBA Tryz.isAgg49 Tryz.sizeOf49 (Has.t rfl) (i := 0) rfl rfl rfl) ?_
  refine R_op rfl rfl rfl (op_call Tryz.call32 c_Real ⟨(Has.t rfl), trivial⟩) ?_
  refine R_nil ?_
  refine T_cond (Has.t rfl) (fun hb => ?_) (fun hb => ?_)
  · simp only [decide_eq_true_eq] at hb
    refine T_seq ?_
    refine D_start (m := 4) ?_
    refine D_step (Ei := [(1, _)]) rfl rfl (Srcs.cons (Src.pre rfl rfl) Srcs.nil) (S_plain rfl (op_fldB fa_49_0 (Has.t rfl) rfl)) ?_
    refine D_step (Ei := [(6, _)]) rfl rfl (Srcs.cons (Src.op 0 rfl rfl) Srcs.nil) (S_plain rfl (op_ldBA Tryz.isAgg47 Tryz.sizeOf47 (Has.t rfl) (i := 0) rfl rfl rfl)) ?_
    refine D_step (Ei := [(1, _)]) rfl rfl (Srcs.cons (Src.pre rfl rfl) Srcs.nil) (S_plain rfl (op_ldBA Tryz.isAgg49 Tryz.sizeOf49 (Has.t rfl) (i := 0) rfl rfl rfl)) ?_
    refine D_step (Ei := [(8, _)]) rfl rfl (Srcs.cons (Src.op 2 rfl rfl) Srcs.nil) (S_plain rfl (op_call Tryz.call108 c_den ⟨(Has.t rfl), trivial⟩)) ?_
    refine D_done mixed rfl (by kernel_rfl) (F_val (F_val (F_val (F_val (F_nil ?_)))))
    refine R_op rfl rfl rfl (op_call Tryz.call150 (c_part (by assumption) (by omega) (by omega)) ⟨(Has.t rfl), (Has.t rfl), trivial⟩) ?_
    refine R_op rfl rfl rfl (op_assign (Has.t rfl)) ?_
    refine R_nil ?_
    refine T_ret1 rfl (rv_to (rv_tmp rfl) ?_)
    exact (str_to (by rw [txt, if_pos hb]))
  · simp only [decide_eq_false_iff_not] at hb
    refine T_skip ?_
    refine T_seq ?_
    refine D_start (m := 4) ?_
    refine D_step (Ei := [(1, _)]) rfl rfl (Srcs.cons (Src.pre rfl rfl) Srcs.nil) (S_plain rfl (op_fldB fa_49_1 (Has.t rfl) rfl)) ?_
    refine D_step (Ei := [(11, _)]) rfl rfl (Srcs.cons (Src.op 0 rfl rfl) Srcs.nil) (S_plain rfl (op_ldBA Tryz.isAgg47 Tryz.sizeOf47 (Has.t rfl) (i := 0) rfl rfl rfl)) ?_
    refine D_step (Ei := [(1, _)]) rfl rfl (Srcs.cons (Src.pre rfl rfl) Srcs.nil) (S_plain rfl (op_ldBA Tryz.isAgg49 Tryz.sizeOf49 (Has.t rfl) (i := 0) rfl rfl rfl)) ?_
    refine D_step (Ei := [(13, _)]) rfl rfl (Srcs.cons (Src.op 2 rfl rfl) Srcs.nil) (S_plain rfl (op_call Tryz.call108 c_den ⟨(Has.t rfl), trivial⟩)) ?_
    refine D_done mixed rfl (by kernel_rfl) (F_val (F_val (F_val (F_val (F_nil ?_)))))
    refine R_op rfl rfl rfl (op_call Tryz.call150 (c_part (by assumption) (by omega) (by omega)) ⟨(Has.t rfl), (Has.t rfl), trivial⟩) ?_
    refine R_op rfl rfl rfl (op_addS (Has.t rfl) (Has.cS (l := [105]) rfl) (by simp only [List.length_append, List.length_cons, List.length_nil]; omega)) ?_
    refine R_op rfl rfl rfl (op_assign (Has.t rfl)) ?_
    refine R_nil ?_
    refine T_seq ?_
    refine T_seq ?_
    refine T_region ?_
    refine R_op rfl rfl rfl (op_fldB fa_49_0 (Has.t rfl) rfl) ?_
    refine R_op rfl rfl rfl (op_fldB fa_47_1 (Has.t rfl) rfl) ?_
    refine R_op rfl rfl rfl (op_ldB Tryz.isAgg45 Tryz.sizeOf45 (Has.t rfl) (i := 0) rfl rfl) ?_
    refine R_op rfl rfl rfl (op_len Tryz.runUnderlying45 (Has.t rfl) len_map) ?_
    refine R_op rfl rfl rfl (op_eqlN (Has.t rfl) (Has.cN 0)) ?_
    refine R_nil ?_
    refine T_cond (Has.t rfl) (fun hc => ?_) (fun hc => ?_)
    · simp only [decide_eq_true_eq] at hc
      have ha : x.a = 0 := by have := dg_length_zero.1 hc; omega
      refine T_seq ?_
      refine T_region ?_
      refine R_op rfl rfl rfl (op_move (Has.t rfl)) ?_
      refine R_op rfl rfl rfl (op_assign (Has.t rfl)) ?_
      refine R_nil ?_
      refine T_ret1 rfl (rv_to (rv_tmp rfl) ?_)
      exact (str_to (by rw [txt, if_neg hb, if_pos ha]))
    · simp only [decide_eq_false_iff_not] at hc
      have ha : x.a ≠ 0 := fun e => hc (by rw [e]; exact dg_length_zero.2 rfl)
      refine T_skip ?_
      refine T_seq ?_
      refine T_join (fun (uu : Unit) => True) (fun (uu : Unit) => [(1, PtrB B1 0), (3, StrT ((if x.b < 0 then ptxt x.b x.den else 43 :: ptxt x.b x.den) ++ [105]))]) (fun (uu : Unit) => [box B1 49 [BoolT (decide ((x).a < 0)), NatT (x).a.natAbs, BoolT (decide ((x).b < 0)), NatT (x).b.natAbs, NatT (du (x))]]) ?_ (fun uu _ => ?_)
      · refine T_seq ?_
        refine T_region ?_
        refine R_op rfl rfl rfl (op_fldB fa_49_1 (Has.t rfl) rfl) ?_
        refine R_op rfl rfl rfl (op_fldB fa_47_0 (Has.t rfl) rfl) ?_
        refine R_op rfl rfl rfl (op_ldB Tryz.isAgg4 Tryz.sizeOf4 (Has.t rfl) (i := 0) rfl rfl) ?_
        refine R_op rfl rfl rfl (op_not (Has.t rfl)) ?_
        refine R_nil ?_
        refine T_cond (Has.t rfl) (fun hd => ?_) (fun hd => ?_)
        · have hn : ¬ x.b < 0 := by simpa using hd
          refine T_region ?_
          refine R_op rfl rfl rfl (op_move (Has.t rfl)) ?_
          refine R_op rfl rfl rfl (op_addS (Has.cS (l := [43]) rfl) (Has.t rfl) (by simp only [List.length_append, List.length_cons, List.length_nil]; omega)) ?_
          refine R_op rfl rfl rfl (op_assign (Has.t rfl)) ?_
          refine R_nil ?_
          refine T_joined () trivial (Sub.cons rfl (Sub.to rfl (str_to (by rw [if_neg hn]; rfl)) Sub.nil)) (HSub.cons (box_of rfl) HSub.nil)
        · have hn : x.b < 0 := by simpa using hd
          refine T_skip ?_
          refine T_joined () trivial (Sub.cons rfl (Sub.to rfl (str_to (by rw [if_pos hn])) Sub.nil)) (HSub.cons (box_of rfl) HSub.nil)
      · have l3 : ((if x.b < 0 then ptxt x.b x.den else 43 :: ptxt x.b x.den) ++ [105]).length ≤ (ptxt x.b x.den).length + 2 := by split <;> simp
        refine T_seq ?_
        refine D_start (m := 6) ?_
        refine D_step (Ei := [(1, _)]) rfl rfl (Srcs.cons (Src.pre rfl rfl) Srcs.nil) (S_plain rfl (op_fldB fa_49_0 (Has.t rfl) rfl)) ?_
        refine D_step (Ei := [(29, _)]) rfl rfl (Srcs.cons (Src.op 0 rfl rfl) Srcs.nil) (S_plain rfl (op_ldBA Tryz.isAgg47 Tryz.sizeOf47 (Has.t rfl) (i := 0) rfl rfl rfl)) ?_
        refine D_step (Ei := [(1, _)]) rfl rfl (Srcs.cons (Src.pre rfl rfl) Srcs.nil) (S_plain rfl (op_ldBA Tryz.isAgg49 Tryz.sizeOf49 (Has.t rfl) (i := 0) rfl rfl rfl)) ?_
        refine D_step (Ei := [(31, _)]) rfl rfl (Srcs.cons (Src.op 2 rfl rfl) Srcs.nil) (S_plain rfl (op_call Tryz.call108 c_den ⟨(Has.t rfl), trivial⟩)) ?_
        refine D_step (Ei := [(30, _), (32, _)]) rfl rfl (Srcs.cons (Src.op 1 rfl rfl) (Srcs.cons (Src.op 3 rfl rfl) Srcs.nil)) (S_plain rfl (op_call Tryz.call150 (c_part (by assumption) (by omega) (by omega)) ⟨(Has.t rfl), (Has.t rfl), trivial⟩)) ?_
        refine D_step (Ei := [(3, _)]) rfl rfl (Srcs.cons (Src.pre rfl rfl) Srcs.nil) (S_plain rfl (op_move (Has.t rfl))) ?_
        refine D_done mixed rfl (by kernel_rfl) (F_val (F_val (F_val (F_val (F_val (F_val (F_nil ?_)))))))
        refine R_op rfl rfl rfl (op_addS (Has.t rfl) (Has.t rfl) (by omega)) ?_
        refine R_op rfl rfl rfl (op_assign (Has.t rfl)) ?_
        refine R_nil ?_
        refine T_ret1 rfl (rv_to (rv_tmp rfl) ?_)
        exact (str_to (by rw [txt, if_neg hb, if_neg ha]))
set_option maxRecDepth 20000 in
theorem c_lawOf {r : Rt} : Fun Tryz.prog 18 [RatT r] (NumT r.q) := by
  have hr1 := r.h1; have hr2 := r.h2; have hr3 := r.h3; have hr4 := r.h4; have hr5 := r.d1; have hr6 := r.d2; have hr0 := r.d0
  refine Fun.intro Tryz.func18 rfl Tryz.ntmps18 rfl (fun cx => ?_)
  refine T_seq ?_
  refine T_region ?_
  refine R_new rfl rfl rfl (new_box (Has.t rfl)) (fun B1 => ?_)
  refine R_new rfl rfl rfl (new_alloc (Ts := [Is (.bool false), Is (.slice none 0 0), Is (.bool false), Is (.slice none 0 0), Is (.slice none 0 0)]) Tryz.zeroValue49 rfl (fun V => Cells.cons' ⟨rfl, trivial⟩ (Cells.cons' ⟨rfl, trivial⟩ (Cells.cons' ⟨rfl, trivial⟩ (Cells.cons' ⟨rfl, trivial⟩ (Cells.cons' ⟨rfl, trivial⟩ (Cells.nil))))))) (fun B2 => ?_)
  refine R_nil ?_
  refine T_seq ?_
  refine T_join (fun (uu : Unit) => True) (fun (uu : Unit) => [(1, PtrB B1 0), (2, PtrB B2 0)]) (fun (uu : Unit) => [box B1 27 [IntT .i64 r.re, IntT .i64 r.im, IntT .i64 r.d], box B2 49 [Is (.bool false), Is (.slice none 0 0), Is (.bool false), Is (.slice none 0 0), Is (.slice none 0 0)]]) ?_ (fun uu _ => ?_)
  · refine T_seq ?_
    refine T_region ?_
    refine R_op rfl rfl rfl (op_fldB fa_27_2 (Has.t rfl) rfl) ?_
    refine R_op rfl rfl rfl (op_ldB Tryz.isAgg2 Tryz.sizeOf2 (Has.t rfl) (i := 0) rfl rfl) ?_
    refine R_op rfl rfl rfl (op_eql (Has.t rfl) Has.c) ?_
    refine R_nil ?_
    refine T_cond (Has.t rfl) (fun hb => ?_) (fun hb => ?_)
    · simp only [decide_eq_true_eq] at hb
      refine T_region ?_
      refine R_op rfl rfl rfl (op_fldB fa_27_2 (Has.t rfl) rfl) ?_
      refine R_st Tryz.sizeOf2 (Has.t rfl) (Has.cN 1) (i := 0) rfl (Nat.le_of_ble_eq_true rfl) rfl ?_
      refine R_nil ?_
      refine T_joined () trivial (Sub.cons rfl (Sub.cons rfl Sub.nil)) (HSub.cons (box_of (by rw [Rt.d, if_pos hb]; rfl)) (HSub.cons (box_of rfl) HSub.nil))
    · simp only [decide_eq_false_iff_not] at hb
      refine T_skip ?_
      refine T_joined () trivial (Sub.cons rfl (Sub.cons rfl Sub.nil)) (HSub.cons (box_of (by rw [Rt.d, if_neg hb])) (HSub.cons (box_of rfl) HSub.nil))
  · refine T_seq ?_
    refine T_region ?_
    refine R_op rfl rfl rfl (op_fldB fa_27_0 (Has.t rfl) rfl) ?_
    refine R_op rfl rfl rfl (op_ldB Tryz.isAgg2 Tryz.sizeOf2 (Has.t rfl) (i := 0) rfl rfl) ?_
    refine R_op rfl rfl rfl (op_fldB fa_27_1 (Has.t rfl) rfl) ?_
    refine R_op rfl rfl rfl (op_ldB Tryz.isAgg2 Tryz.sizeOf2 (Has.t rfl) (i := 0) rfl rfl) ?_
    refine R_op rfl rfl rfl (op_fldB fa_27_2 (Has.t rfl) rfl) ?_
    refine R_op rfl rfl rfl (op_ldB Tryz.isAgg2 Tryz.sizeOf2 (Has.t rfl) (i := 0) rfl rfl) ?_
    refine R_op rfl rfl rfl (op_call Tryz.call83 (c_New hr1 hr2 hr3 hr4 hr5 hr6 hr0) ⟨(Has.t rfl), (Has.t rfl), (Has.t rfl), trivial⟩) ?_
    refine R_op rfl rfl rfl (op_move (Has.t rfl)) ?_
    refine R_op rfl rfl rfl (op_extract (Has.t rfl) rfl) ?_
    refine R_op rfl rfl rfl (op_extract (Has.t rfl) rfl) ?_
    refine R_new rfl rfl rfl (new_alloc (Ts := [Is (.bool false), Is (.slice none 0 0), Is (.bool false), Is (.slice none 0 0), Is (.slice none 0 0)]) Tryz.zeroValue49 rfl (fun V => Cells.cons' ⟨rfl, trivial⟩ (Cells.cons' ⟨rfl, trivial⟩ (Cells.cons' ⟨rfl, trivial⟩ (Cells.cons' ⟨rfl, trivial⟩ (Cells.cons' ⟨rfl, trivial⟩ (Cells.nil))))))) (fun B3 => ?_)
    refine R_stA Tryz.sizeOf49 (Has.t rfl) (Has.t rfl) rfl (i := 2) rfl (Nat.le_of_ble_eq_true rfl) rfl rfl ?_
    refine R_op rfl rfl rfl (op_assign (Has.t rfl)) ?_
    refine R_nil ?_
    refine T_seq ?_
    refine T_region ?_
    refine R_op rfl rfl rfl (op_ldBA Tryz.isAgg49 Tryz.sizeOf49 (Has.t rfl) (i := 2) rfl rfl rfl) ?_
    refine R_stA Tryz.sizeOf49 (Has.t rfl) (Has.t rfl) rfl (i := 1) rfl (Nat.le_of_ble_eq_true rfl) rfl rfl ?_
    refine R_nil ?_
    exact T_ret1 rfl (rv_cell Tryz.isAgg49 Tryz.sizeOf49 rfl (i := 1) rfl rfl)
set_option maxRecDepth 20000 in
theorem c_lawList {l : List Rt} (hl : l.length ≤ 1000000) : Fun Tryz.prog 30 [RatsT l] (NumsT (l.map Rt.q)) := by
  refine Fun.intro Tryz.func30 rfl Tryz.ntmps30 rfl (fun cx => ?_)
  refine T_seq ?_
  refine T_region ?_
  refine R_op rfl rfl rfl (op_assign Has.c) ?_
  refine R_nil ?_
  refine T_seq ?_
  refine T_region ?_
  refine R_op rfl rfl rfl (op_move (Has.t rfl)) ?_
  refine R_op rfl rfl rfl (op_len Tryz.runUnderlying22 (Has.t rfl) len_map) ?_
  refine R_new rfl rfl rfl (new_makeO (T := NumT Qi.zero) (i := Tryz.t49) und_30 info_49 rfl rfl (Has.t rfl) rfl num_zero_p (El.ag rfl) (by show 88 * _ ≤ _; omega) (by omega)) (fun B8 => ?_)
  refine R_op rfl rfl rfl (op_assign (Has.t rfl)) ?_
  refine R_nil ?_
  refine T_seq ?_
  refine T_seq ?_
  refine T_region ?_
  refine R_op rfl rfl rfl (op_move (Has.t rfl)) ?_
  refine R_op rfl rfl rfl (op_len Tryz.runUnderlying22 (Has.t rfl) len_map) ?_
  refine R_op rfl rfl rfl (op_move (Has.cN 0)) ?_
  refine R_nil ?_
  refine T_block ?_
  refine T_loop2 (fun (k : Nat) (out : List Qi) => FillS (fun i => (l.getD i default).q) l.length out k) (fun (k : Nat) (out : List Qi) => l.length - k) (fun (k : Nat) (out : List Qi) => [(3, Is B8), (9, RatsT l), (10, NT .i64 l.length), (11, NT .i64 k)]) (fun (k : Nat) (out : List Qi) => [rowO 49 5 B8 (out.map NumT)]) 0 (List.replicate l.length Qi.zero) (FillS.start _ _ _)
    (Sub.cons rfl (Sub.cons rfl (Sub.cons rfl (Sub.cons rfl Sub.nil)))) (HSub.cons (rowO_of (rep_mapF NumT _ _)) HSub.nil) (fun k out hS => ?_)
  refine T_seq ?_
  refine T_region ?_
  refine R_op rfl rfl rfl (op_lssN (Has.t rfl) (Has.t rfl)) ?_
  refine R_nil ?_
  refine T_seq ?_
  refine T_cond (Has.t rfl) (fun hk => ?_) (fun hk => ?_)
  · simp only [decide_eq_true_eq] at hk
    have hlen := hS.len
    refine T_skip ?_
    refine T_seq ?_
    refine T_block ?_
    refine T_seq ?_
    refine T_region ?_
    refine R_op rfl rfl rfl (op_move (Has.t rfl)) ?_
    refine R_op rfl rfl rfl (op_idx Tryz.runUnderlying22 Tryz.sizeOf27 (Has.t rfl) (Has.t rfl) rfl (map_get (getD_some (d := default) hk))) ?_
    refine R_op rfl rfl rfl (op_ld Tryz.isAgg27 Tryz.sizeOf27 (Has.t rfl)) ?_
    refine R_new rfl rfl rfl (new_alloc (Ts := [Is (.int .i64 0), Is (.int .i64 0), Is (.int .i64 0)]) Tryz.zeroValue27 rfl (fun V => Cells.cons' ⟨rfl, trivial⟩ (Cells.cons' ⟨rfl, trivial⟩ (Cells.cons' ⟨rfl, trivial⟩ (Cells.nil))))) (fun B5 => ?_)
    refine R_op rfl rfl rfl (op_assign (Has.t rfl)) ?_
    refine R_stA Tryz.sizeOf27 (Has.t rfl) (Has.t rfl) rfl (i := 1) rfl (Nat.le_of_ble_eq_true rfl) rfl rfl ?_
    refine R_nil ?_
    refine T_region ?_
    refine R_op rfl rfl rfl (op_move (Has.t rfl)) ?_
    refine R_op rfl rfl rfl (op_move (Has.t rfl)) ?_
    refine R_op rfl rfl rfl (op_ldBA Tryz.isAgg27 Tryz.sizeOf27 (Has.t rfl) (i := 1) rfl rfl rfl) ?_
    refine R_op rfl rfl rfl (op_call Tryz.call18 c_lawOf ⟨(Has.t rfl), trivial⟩) ?_
    refine R_op rfl rfl rfl (op_idxO Tryz.runUnderlying30 Tryz.sizeOf49 (Has.t rfl) (Has.t rfl) rfl (i := 0) rfl (by first | omega | (simp; omega)) rfl) ?_
    refine R_stO Tryz.sizeOf49 (Has.t rfl) (Has.t rfl) (El.ag rfl) (i := 0) rfl rfl (by first | omega | (simp; omega)) rfl ?_
    refine R_nil ?_
    refine T_blk ?_
    refine T_region ?_
    refine R_op rfl rfl rfl (op_addN (Has.t rfl) (Has.cN 1) (by show _ < 9223372036854775808; first | omega | (simp only [lim]; omega))) ?_
    refine R_op rfl rfl rfl (op_move (Has.t rfl)) ?_
    refine R_nil ?_
    refine T_keep [0] rfl (by decide) ?_
    refine T_again (k + 1, _) (hS.next hk rfl) (by dsimp only; omega) (Sub.cons rfl (Sub.cons rfl (Sub.cons rfl (Sub.cons rfl Sub.nil)))) (HSub.cons (rowO_of (set_mapF NumT _ _ _)) HSub.nil)
  · simp only [decide_eq_false_iff_not] at hk
    obtain rfl : k = l.length := Nat.le_antisymm hS.kle (by omega)
    have hfin := hS.fin
    rw [tab_list l Rt.q] at hfin
    refine T_exit rfl ?_
    refine T_freeze (i := 0) (tt := 3) rfl rfl frz_row ?_
    refine T_seq ?_
    refine T_region ?_
    refine R_op rfl rfl rfl (op_move (Has.t rfl)) ?_
    refine R_op rfl rfl rfl (op_assign (Has.t rfl)) ?_
    refine R_nil ?_
    refine T_ret1 rfl (rv_to (rv_tmp rfl) ?_)
    exact (slT_of (by rw [hfin]))
end Go.Proofs.YtppibhcfaahgpaaGreat
namespace Go.Proofs.YtppibhcfaahgpaaGreat
open Go Go.RowKit
set_option maxRecDepth 20000 in
theorem c_rtrim (ds : List Nat) (hd : Dig ds) (hl : ds.length ≤ 1152921504606846976) : Fun Tryz.prog 207 [DsT ds] (NatT (val ds)) := by
  refine Fun.intro Tryz.func207 rfl Tryz.ntmps207 rfl (fun cx => ?_)
  refine T_seq ?_
  refine T_region ?_
  refine R_op rfl rfl rfl (op_assign Has.c) ?_
  refine R_nil ?_
  refine T_seq ?_
  refine T_region ?_
  refine R_op rfl rfl rfl (op_move (Has.t rfl)) ?_
  refine R_op rfl rfl rfl (op_len Tryz.runUnderlying44 (Has.t rfl) len_map) ?_
  refine R_op rfl rfl rfl (op_assign (Has.t rfl)) ?_
  refine R_nil ?_
  refine T_seq ?_
  refine T_block ?_
  refine T_loop (fun (k : Nat) => k ≤ ds.length ∧ ∀ i, k ≤ i → i < ds.length → ds.getD i 0 = 0) (fun (k : Nat) => k) (fun (k : Nat) => [(0, DsT ds), (3, NT .i64 k)]) (fun (k : Nat) => []) ds.length ⟨Nat.le_refl _, fun i h1 h2 => by omega⟩
    (Sub.cons rfl (Sub.cons rfl Sub.nil)) HSub.nil (fun k ⟨hk, hz⟩ => ?_)
  refine T_seq ?_
  refine T_seq ?_
  refine T_region ?_
  refine R_op rfl rfl rfl (op_move (Has.t rfl)) ?_
  refine R_op rfl rfl rfl (op_gtrN (Has.t rfl) (Has.cN 0)) ?_
  refine R_op rfl rfl rfl (op_move (Has.t rfl)) ?_
  refine R_step rfl rfl (S_when rfl rfl (Has.t rfl) (fun h => op_move (Has.t rfl))) ?_
  refine R_step rfl rfl (S_when rfl rfl (Has.t rfl) (fun h => op_move (Has.t rfl))) ?_
  refine R_step rfl rfl (S_when rfl rfl (Has.t rfl) (fun h => op_subN (Has.w rfl h) (Has.cN 1) (by first | omega | (simp at h; omega)) (by show _ < 9223372036854775808; first | omega | (simp at h; omega)))) ?_
  refine R_step rfl rfl (S_when rfl rfl (Has.t rfl) (fun h => op_idx Tryz.runUnderlying44 Tryz.sizeOf97 (Has.w rfl h) (Has.w rfl h) rfl (map_get (get_some (by first | omega | (simp at h; omega)))))) ?_
  refine R_step rfl rfl (S_when rfl rfl (Has.t rfl) (fun h => op_ld Tryz.isAgg97 Tryz.sizeOf97 (Has.w rfl h))) ?_
  refine R_step rfl rfl (S_when rfl rfl (Has.t rfl) (fun h => op_eqlN (Has.w rfl h) (Has.cN 0))) ?_
  refine R_op rfl rfl rfl (op_and (Has.t rfl) (fun h => (Has.w rfl h))) ?_
  refine R_nil ?_
  refine T_cond (Has.t rfl) (fun hb => ?_) (fun hb => ?_)
  · simp at hb
    refine T_skip ?_
    refine T_block ?_
    refine T_region ?_
    refine R_op rfl rfl rfl (op_move (Has.t rfl)) ?_
    refine R_op rfl rfl rfl (op_subN (Has.t rfl) (Has.cN 1) (by omega) (by show _ < 9223372036854775808; first | omega | (simp only [lim]; omega))) ?_
    refine R_op rfl rfl rfl (op_assign (Has.t rfl)) ?_
    refine R_nil ?_
    refine T_blk ?_
    refine T_again (k - 1) ⟨by omega, fun i h1 h2 => ?_⟩ (by omega) (Sub.cons rfl (Sub.cons rfl Sub.nil)) HSub.nil
    by_cases e2 : i = k - 1
    · subst e2; simpa using hb.2
    · exact hz i (by omega) h2
  · have hn : k = 0 ∨ ds.getD (k - 1) 0 ≠ 0 := by
      simp only [Bool.and_eq_false_iff, decide_eq_false_iff_not] at hb
      rcases hb with h1 | h1
      · left; omega
      · right; exact h1
    have hfin := dg_take hd hk hz hn
    refine T_exit rfl ?_
    refine T_seq ?_
    refine T_region ?_
    refine R_op rfl rfl rfl (op_move (Has.t rfl)) ?_
    refine R_op rfl rfl rfl (op_move (Has.t rfl)) ?_
    refine R_op rfl rfl rfl (op_slice0 Tryz.runUnderlying44 Tryz.sizeOf97 (Has.t rfl) (Has.t rfl) (fun m e => by cases e) (by omega) (by simp; omega) rfl) ?_
    refine R_op rfl rfl rfl (op_assign (Has.t rfl)) ?_
    refine R_nil ?_
    refine T_ret1 rfl (rv_to (rv_tmp rfl) ?_)
    exact (dsT_take (by rw [hfin]; simp))
set_option maxRecDepth 20000 in
theorem c_rNatOf {m : Nat} (hm : m < 18446744073709551616) : Fun Tryz.prog 201 [NT .u64 m] (NatT m) := by
  refine Fun.intro Tryz.func201 rfl Tryz.ntmps201 rfl (fun cx => ?_)
  refine T_seq ?_
  refine T_region ?_
  refine R_op rfl rfl rfl (op_assign Has.c) ?_
  refine R_nil ?_
  refine T_seq ?_
  refine T_region ?_
  refine R_op rfl rfl rfl (op_move (Has.t rfl)) ?_
  refine R_op rfl rfl rfl (op_convU rfl Tryz.runUnderlying235 Tryz.runUnderlying97 (Has.t rfl)) ?_
  refine R_op rfl rfl rfl (op_move (Has.t rfl)) ?_
  refine R_op rfl rfl rfl (op_shrN (Has.t rfl) (Has.cN 32) (by decide)) ?_
  refine R_op rfl rfl rfl (op_convU rfl Tryz.runUnderlying235 Tryz.runUnderlying97 (Has.t rfl)) ?_
  refine R_op rfl rfl rfl (op_bslice (xs := [.tmp 4, .tmp 7]) Tryz.runUnderlying44 Tryz.sizeOf97 Tryz.zeroValue97 (Elems.cons (Has.t rfl) (Elems.cons (Has.t rfl) Elems.nil)) rfl rfl rfl) ?_
  refine R_op rfl rfl rfl (op_call Tryz.call207 (c_rtrim [m % 4294967296, m / 2 ^ 32 % 4294967296] (dig2 _ _) (by simp)) ⟨(Has.t rfl), trivial⟩) ?_
  refine R_op rfl rfl rfl (op_assign (Has.t rfl)) ?_
  refine R_nil ?_
  refine T_ret1 rfl (rv_to (rv_tmp rfl) ?_)
  exact (natT_of (natOf_val hm))
set_option maxRecDepth 20000 in
theorem c_rNatCmp {m n : Nat} (hm : (dg m).length ≤ 1152921504606846976) (hn : (dg n).length ≤ 1152921504606846976) : Fun Tryz.prog 116 [NatT m, NatT n] (IntT .i64 (cmpZ m n)) := by
  refine Fun.intro Tryz.func116 rfl Tryz.ntmps116 rfl (fun cx => ?_)
  refine T_seq ?_
  refine T_region ?_
  refine R_op rfl rfl rfl (op_assign (Has.cN 0)) ?_
  refine R_nil ?_
  refine T_seq ?_
  refine T_seq ?_
  refine T_region ?_
  refine R_op rfl rfl rfl (op_move (Has.t rfl)) ?_
  refine R_op rfl rfl rfl (op_len Tryz.runUnderlying44 (Has.t rfl) len_map) ?_
  refine R_op rfl rfl rfl (op_move (Has.t rfl)) ?_
  refine R_op rfl rfl rfl (op_len Tryz.runUnderlying44 (Has.t rfl) len_map) ?_
  refine R_op rfl rfl rfl (op_neqN (Has.t rfl) (Has.t rfl)) ?_
  refine R_nil ?_
  refine T_cond (Has.t rfl) (fun hb => ?_) (fun hb => ?_)
  · simp at hb
    refine T_seq ?_
    refine T_seq ?_
    refine T_region ?_
    refine R_op rfl rfl rfl (op_move (Has.t rfl)) ?_
    refine R_op rfl rfl rfl (op_len Tryz.runUnderlying44 (Has.t rfl) len_map) ?_
    refine R_op rfl rfl rfl (op_move (Has.t rfl)) ?_
    refine R_op rfl rfl rfl (op_len Tryz.runUnderlying44 (Has.t rfl) len_map) ?_
    refine R_op rfl rfl rfl (op_lssN (Has.t rfl) (Has.t rfl)) ?_
    refine R_nil ?_
    refine T_cond (Has.t rfl) (fun hb2 => ?_) (fun hb2 => ?_)
    · simp at hb2
      have hlt := cmp_lt hb2
      refine T_seq ?_
      refine T_region ?_
      refine R_op rfl rfl rfl (op_assign Has.c) ?_
      refine R_nil ?_
      refine T_ret1 rfl (rv_to (rv_tmp rfl) ?_)
      exact (int_of (by simp [cmpZ, hlt]))
    · simp at hb2
      have hlt := cmp_lt (a := n) (b := m) (by omega)
      refine T_skip ?_
      refine T_seq ?_
      refine T_region ?_
      refine R_op rfl rfl rfl (op_assign (Has.cN 1)) ?_
      refine R_nil ?_
      refine T_ret1 rfl (rv_to (rv_tmp rfl) ?_)
      exact (int_of (by simp [cmpZ, hlt, Nat.lt_asymm hlt]))
  · simp at hb
    refine T_skip ?_
    refine T_seq ?_
    refine T_seq ?_
    refine T_region ?_
    refine R_op rfl rfl rfl (op_move (Has.t rfl)) ?_
    refine R_op rfl rfl rfl (op_len Tryz.runUnderlying44 (Has.t rfl) len_map) ?_
    refine R_op rfl rfl rfl (op_sub (Has.t rfl) Has.c (w64 (by omega))) ?_
    refine R_op rfl rfl rfl (op_assign (Has.t rfl)) ?_
    refine R_nil ?_
    refine T_block ?_
    refine T_loop (fun (k : Nat) => k ≤ (dg m).length ∧ ∀ i, k ≤ i → i < (dg m).length → (dg m).getD i 0 = (dg n).getD i 0) (fun (k : Nat) => k) (fun (k : Nat) => [(0, NatT m), (1, NatT n), (5, IntT .i64 ((k : Int) - 1))]) (fun (k : Nat) => []) (dg m).length ⟨Nat.le_refl _, fun i h1 h2 => by omega⟩
      (Sub.cons rfl (Sub.cons rfl (Sub.cons rfl Sub.nil))) HSub.nil (fun k ⟨hk, he⟩ => ?_)
    refine T_seq ?_
    refine T_seq ?_
    refine T_region ?_
    refine R_op rfl rfl rfl (op_move (Has.t rfl)) ?_
    refine R_op rfl rfl rfl (op_geq (Has.t rfl) Has.c) ?_
    refine R_nil ?_
    refine T_cond (Has.t rfl) (fun hk1 => ?_) (fun hk1 => ?_)
    · simp at hk1
      refine T_skip ?_
      refine T_seq ?_
      refine T_block ?_
      refine T_seq ?_
      refine D_start (m := 8) ?_
      refine D_step (Ei := [(0, _)]) rfl rfl (Srcs.cons (Src.pre rfl rfl) Srcs.nil) (S_plain rfl (op_move (Has.t rfl))) ?_
      refine D_step (Ei := [(5, _)]) rfl rfl (Srcs.cons (Src.pre rfl rfl) Srcs.nil) (S_plain rfl (op_move (Has.t rfl))) ?_
      refine D_step (Ei := [(23, _), (24, _)]) rfl rfl (Srcs.cons (Src.op 0 rfl rfl) (Srcs.cons (Src.op 1 rfl rfl) Srcs.nil)) (S_plain rfl (op_idx Tryz.runUnderlying44 Tryz.sizeOf97 (Has.t rfl) (Has.t rfl) (show ((k : Int) - 1) = ((k - 1 : Nat) : Int) by omega) (map_get (get_some (by omega))))) ?_
      refine D_step (Ei := [(25, _)]) rfl rfl (Srcs.cons (Src.op 2 rfl rfl) Srcs.nil) (S_plain rfl (op_ld Tryz.isAgg97 Tryz.sizeOf97 (Has.t rfl))) ?_
      refine D_step (Ei := [(1, _)]) rfl rfl (Srcs.cons (Src.pre rfl rfl) Srcs.nil) (S_plain rfl (op_move (Has.t rfl))) ?_
      refine D_step (Ei := [(5, _)]) rfl rfl (Srcs.cons (Src.pre rfl rfl) Srcs.nil) (S_plain rfl (op_move (Has.t rfl))) ?_
      refine D_step (Ei := [(27, _), (28, _)]) rfl rfl (Srcs.cons (Src.op 4 rfl rfl) (Srcs.cons (Src.op 5 rfl rfl) Srcs.nil)) (S_plain rfl (op_idx Tryz.runUnderlying44 Tryz.sizeOf97 (Has.t rfl) (Has.t rfl) (show ((k : Int) - 1) = ((k - 1 : Nat) : Int) by omega) (map_get (get_some (by omega))))) ?_
      refine D_step (Ei := [(29, _)]) rfl rfl (Srcs.cons (Src.op 6 rfl rfl) Srcs.nil) (S_plain rfl (op_ld Tryz.isAgg97 Tryz.sizeOf97 (Has.t rfl))) ?_
      refine D_done mixed rfl (by kernel_rfl) (F_val (F_val (F_val (F_val (F_val (F_val (F_val (F_val (F_nil ?_)))))))))
      refine R_op rfl rfl rfl (op_neqN (Has.t rfl) (Has.t rfl)) ?_
      refine R_nil ?_
      refine T_cond (Has.t rfl) (fun h1 => ?_) (fun h1 => ?_)
      · simp only [Bool.not_eq_true', decide_eq_false_iff_not] at h1
        refine T_seq ?_
        refine T_seq ?_
        refine D_start (m := 8) ?_
        refine D_step (Ei := [(0, _)]) rfl rfl (Srcs.cons (Src.pre rfl rfl) Srcs.nil) (S_plain rfl (op_move (Has.t rfl))) ?_
        refine D_step (Ei := [(5, _)]) rfl rfl (Srcs.cons (Src.pre rfl rfl) Srcs.nil) (S_plain rfl (op_move (Has.t rfl))) ?_
        refine D_step (Ei := [(32, _), (33, _)]) rfl rfl (Srcs.cons (Src.op 0 rfl rfl) (Srcs.cons (Src.op 1 rfl rfl) Srcs.nil)) (S_plain rfl (op_idx Tryz.runUnderlying44 Tryz.sizeOf97 (Has.t rfl) (Has.t rfl) (show ((k : Int) - 1) = ((k - 1 : Nat) : Int) by omega) (map_get (get_some (by omega))))) ?_
        refine D_step (Ei := [(34, _)]) rfl rfl (Srcs.cons (Src.op 2 rfl rfl) Srcs.nil) (S_plain rfl (op_ld Tryz.isAgg97 Tryz.sizeOf97 (Has.t rfl))) ?_
        refine D_step (Ei := [(1, _)]) rfl rfl (Srcs.cons (Src.pre rfl rfl) Srcs.nil) (S_plain rfl (op_move (Has.t rfl))) ?_
        refine D_step (Ei := [(5, _)]) rfl rfl (Srcs.cons (Src.pre rfl rfl) Srcs.nil) (S_plain rfl (op_move (Has.t rfl))) ?_
        refine D_step (Ei := [(36, _), (37, _)]) rfl rfl (Srcs.cons (Src.op 4 rfl rfl) (Srcs.cons (Src.op 5 rfl rfl) Srcs.nil)) (S_plain rfl (op_idx Tryz.runUnderlying44 Tryz.sizeOf97 (Has.t rfl) (Has.t rfl) (show ((k : Int) - 1) = ((k - 1 : Nat) : Int) by omega) (map_get (get_some (by omega))))) ?_
        refine D_step (Ei := [(38, _)]) rfl rfl (Srcs.cons (Src.op 6 rfl rfl) Srcs.nil) (S_plain rfl (op_ld Tryz.isAgg97 Tryz.sizeOf97 (Has.t rfl))) ?_
        refine D_done mixed rfl (by kernel_rfl) (F_val (F_val (F_val (F_val (F_val (F_val (F_val (F_val (F_nil ?_)))))))))
        refine R_op rfl rfl rfl (op_lssN (Has.t rfl) (Has.t rfl)) ?_
        refine R_nil ?_
        refine T_cond (Has.t rfl) (fun h2 => ?_) (fun h2 => ?_)
        · simp only [decide_eq_true_eq] at h2
          have hlt := cmp_top (dig_dg m) (dig_dg n) hb (k := k - 1) (by omega) (fun i h2 h3 => he i (by omega) h3) h2
          rw [val_dg, val_dg] at hlt
          refine T_seq ?_
          refine T_region ?_
          refine R_op rfl rfl rfl (op_assign Has.c) ?_
          refine R_nil ?_
          refine T_ret1 rfl (rv_to (rv_tmp rfl) ?_)
          exact (int_of (by simp [cmpZ, hlt]))
        · simp only [decide_eq_false_iff_not] at h2
          have hlt := cmp_top (dig_dg n) (dig_dg m) hb.symm (k := k - 1) (by omega) (fun i h2 h3 => (he i (by omega) (by omega)).symm) (by omega)
          rw [val_dg, val_dg] at hlt
          refine T_skip ?_
          refine T_seq ?_
          refine T_region ?_
          refine R_op rfl rfl rfl (op_assign (Has.cN 1)) ?_
          refine R_nil ?_
          refine T_ret1 rfl (rv_to (rv_tmp rfl) ?_)
          exact (int_of (by simp [cmpZ, hlt, Nat.lt_asymm hlt]))
      · simp only [Bool.not_eq_false', decide_eq_true_eq] at h1
        refine T_skip ?_
        refine T_blk ?_
        refine T_region ?_
        refine R_op rfl rfl rfl (op_move (Has.t rfl)) ?_
        refine R_op rfl rfl rfl (op_sub (Has.t rfl) Has.c (w64 (by omega))) ?_
        refine R_op rfl rfl rfl (op_assign (Has.t rfl)) ?_
        refine R_nil ?_
        refine T_again (k - 1) ⟨by omega, fun i h3 h4 => (by by_cases e : i = k - 1; (· subst e; omega); exact he i (by omega) h4)⟩ (by omega) (Sub.cons rfl (Sub.cons rfl (Sub.to rfl (int_of (by omega)) Sub.nil))) HSub.nil
    · simp at hk1
      have hk0 : k = 0 := by omega
      have heq : m = n := by
        have : dg m = dg n := by
          apply List.ext_getElem?
          intro i
          by_cases hi : i < (dg m).length
          · have h5 := he i (by omega) hi
            have h6 : i < (dg n).length := by omega
            simp [List.getD, hi, h6] at h5
            simp [hi, h6, h5]
          · rw [List.getElem?_eq_none (by omega), List.getElem?_eq_none (by omega)]
        rw [← val_dg m, this, val_dg]
      refine T_exit rfl ?_
      refine T_seq ?_
      refine T_region ?_
      refine R_op rfl rfl rfl (op_assign (Has.cN 0)) ?_
      refine R_nil ?_
      refine T_ret1 rfl (rv_to (rv_tmp rfl) ?_)
      exact (int_of (by simp [cmpZ, heq]))
set_option maxRecDepth 20000 in
theorem c_rNatAdd {m n : Nat} (hm : (dg m).length ≤ 17592186044416) (hn : (dg n).length ≤ 17592186044416) : Fun Tryz.prog 205 [NatT m, NatT n] (NatT (m + n)) := by
  refine Fun.intro Tryz.func205 rfl Tryz.ntmps205 rfl (fun cx => ?_)
  refine T_seq ?_
  refine T_region ?_
  refine R_op rfl rfl rfl (op_assign Has.c) ?_
  refine R_nil ?_
  refine T_seq ?_
  refine T_join2 (fun (p : Nat) (q : Nat) => p + q = m + n ∧ (dg q).length ≤ (dg p).length ∧ (dg p).length ≤ 17592186044416) (fun (p : Nat) (q : Nat) => [(0, NatT p), (1, NatT q)]) (fun (p : Nat) (q : Nat) => []) ?_ (fun p q ⟨hpq, hle, hlp⟩ => ?_)
  · refine T_seq ?_
    refine T_region ?_
    refine R_op rfl rfl rfl (op_move (Has.t rfl)) ?_
    refine R_op rfl rfl rfl (op_len Tryz.runUnderlying44 (Has.t rfl) len_map) ?_
    refine R_op rfl rfl rfl (op_move (Has.t rfl)) ?_
    refine R_op rfl rfl rfl (op_len Tryz.runUnderlying44 (Has.t rfl) len_map) ?_
    refine R_op rfl rfl rfl (op_lssN (Has.t rfl) (Has.t rfl)) ?_
    refine R_nil ?_
    refine T_cond (Has.t rfl) (fun hb => ?_) (fun hb => ?_)
    · simp at hb
      refine T_region ?_
      refine R_op rfl rfl rfl (op_move (Has.t rfl)) ?_
      refine R_op rfl rfl rfl (op_move (Has.t rfl)) ?_
      refine R_op rfl rfl rfl (op_assign (Has.t rfl)) ?_
      refine R_op rfl rfl rfl (op_assign (Has.t rfl)) ?_
      refine R_nil ?_
      refine T_joined (n, m) ⟨Nat.add_comm _ _, Nat.le_of_lt hb, hn⟩ (Sub.cons rfl (Sub.cons rfl Sub.nil)) HSub.nil
    · simp at hb
      refine T_skip ?_
      refine T_joined (m, n) ⟨rfl, hb, hm⟩ (Sub.cons rfl (Sub.cons rfl Sub.nil)) HSub.nil
  · refine T_seq ?_
    refine T_region ?_
    refine R_op rfl rfl rfl (op_move (Has.t rfl)) ?_
    refine R_op rfl rfl rfl (op_len Tryz.runUnderlying44 (Has.t rfl) len_map) ?_
    refine R_op rfl rfl rfl (op_addN (Has.t rfl) (Has.cN 1) (by show _ < 9223372036854775808; first | omega | (simp only [lim]; omega))) ?_
    refine R_new rfl rfl rfl (new_make (T := U32T 0) (i := Tryz.t97) Tryz.underlying44 info_97 rfl rfl (Has.t rfl) rfl (fun _ => rfl) trivial (by show 4 * _ ≤ _; omega) (by omega)) (fun B19 => ?_)
    refine R_op rfl rfl rfl (op_assign (Has.t rfl)) ?_
    refine R_nil ?_
    refine T_seq ?_
    refine T_region ?_
    refine R_op rfl rfl rfl (op_assign (Has.cN 0)) ?_
    refine R_nil ?_
    refine T_seq ?_
    refine T_seq ?_
    refine T_region ?_
    refine R_op rfl rfl rfl (op_assign (Has.cN 0)) ?_
    refine R_nil ?_
    refine T_block ?_
    refine T_loop3 (fun (k : Nat) (out : List Nat) (c : Nat) => AddS (dg p) (dg q) out k c) (fun (k : Nat) (out : List Nat) (c : Nat) => (dg p).length - k) (fun (k : Nat) (out : List Nat) (c : Nat) => [(0, NatT p), (1, NatT q), (5, Is (.slice (some ⟨B19, 0, none⟩) ((dg p).length + 1) ((dg p).length + 1))), (6, NT .u64 c), (7, NT .i64 k)]) (fun (k : Nat) (out : List Nat) (c : Nat) => [box B19 97 (out.map U32T)]) 0 (List.replicate ((dg p).length + 1) 0) 0 (AddS.start _ _)
      (Sub.cons rfl (Sub.cons rfl (Sub.cons rfl (Sub.cons rfl (Sub.cons rfl Sub.nil))))) (HSub.cons (box_of (rep_map _)) HSub.nil) (fun k out c hS => ?_)
    refine T_seq ?_
    refine T_seq ?_
    refine T_region ?_
    refine R_op rfl rfl rfl (op_move (Has.t rfl)) ?_
    refine R_op rfl rfl rfl (op_move (Has.t rfl)) ?_
    refine R_op rfl rfl rfl (op_len Tryz.runUnderlying44 (Has.t rfl) len_map) ?_
    refine R_op rfl rfl rfl (op_lssN (Has.t rfl) (Has.t rfl)) ?_
    refine R_nil ?_
    refine T_cond (Has.t rfl) (fun hb => ?_) (fun hb => ?_)
    · simp at hb
      have hlen := hS.len; have hcl := hS.cle; have hxk := getD_lt (dig_dg p) k; have hyk := getD_lt (dig_dg q) k
      simp only [BB] at hxk hyk
      refine T_skip ?_
      refine T_seq ?_
      refine T_block ?_
      refine T_seq ?_
      refine T_region ?_
      refine R_op rfl rfl rfl (op_move (Has.t rfl)) ?_
      refine R_op rfl rfl rfl (op_move (Has.t rfl)) ?_
      refine R_op rfl rfl rfl (op_idx Tryz.runUnderlying44 Tryz.sizeOf97 (Has.t rfl) (Has.t rfl) rfl (map_get (get_some (by omega)))) ?_
      refine R_op rfl rfl rfl (op_ld Tryz.isAgg97 Tryz.sizeOf97 (Has.t rfl)) ?_
      refine R_op rfl rfl rfl (op_convN Tryz.runUnderlying97 Tryz.runUnderlying235 (Has.t rfl) (by show _ < 18446744073709551616; first | omega | (simp only [lim]; omega))) ?_
      refine R_op rfl rfl rfl (op_move (Has.t rfl)) ?_
      refine R_op rfl rfl rfl (op_addN (Has.t rfl) (Has.t rfl) (by show _ < 18446744073709551616; first | omega | (simp only [lim]; omega))) ?_
      refine R_op rfl rfl rfl (op_assign (Has.t rfl)) ?_
      refine R_nil ?_
      refine T_seq ?_
      refine T_join (fun (s : Nat) => s = (dg p).getD k 0 + (dg q).getD k 0 + c) (fun (s : Nat) => [(0, NatT p), (1, NatT q), (5, Is (.slice (some ⟨B19, 0, none⟩) ((dg p).length + 1) ((dg p).length + 1))), (7, NT .i64 k), (8, NT .u64 s)]) (fun (s : Nat) => [box B19 97 (out.map U32T)]) ?_ (fun s hs => ?_)
      · refine T_seq ?_
        refine T_region ?_
        refine R_op rfl rfl rfl (op_move (Has.t rfl)) ?_
        refine R_op rfl rfl rfl (op_move (Has.t rfl)) ?_
        refine R_op rfl rfl rfl (op_len Tryz.runUnderlying44 (Has.t rfl) len_map) ?_
        refine R_op rfl rfl rfl (op_lssN (Has.t rfl) (Has.t rfl)) ?_
        refine R_nil ?_
        refine T_cond (Has.t rfl) (fun hk2 => ?_) (fun hk2 => ?_)
        · simp at hk2
          refine T_region ?_
          refine R_op rfl rfl rfl (op_move (Has.t rfl)) ?_
          refine R_op rfl rfl rfl (op_move (Has.t rfl)) ?_
          refine R_op rfl rfl rfl (op_move (Has.t rfl)) ?_
          refine R_op rfl rfl rfl (op_idx Tryz.runUnderlying44 Tryz.sizeOf97 (Has.t rfl) (Has.t rfl) rfl (map_get (get_some (by omega)))) ?_
          refine R_op rfl rfl rfl (op_ld Tryz.isAgg97 Tryz.sizeOf97 (Has.t rfl)) ?_
          refine R_op rfl rfl rfl (op_convN Tryz.runUnderlying97 Tryz.runUnderlying235 (Has.t rfl) (by show _ < 18446744073709551616; first | omega | (simp only [lim]; omega))) ?_
          refine R_op rfl rfl rfl (op_addN (Has.t rfl) (Has.t rfl) (by show _ < 18446744073709551616; first | omega | (simp only [lim]; omega))) ?_
          refine R_op rfl rfl rfl (op_assign (Has.t rfl)) ?_
          refine R_nil ?_
          refine T_joined ((dg p).getD k 0 + c + (dg q).getD k 0) (by omega) (Sub.cons rfl (Sub.cons rfl (Sub.cons rfl (Sub.cons rfl (Sub.cons rfl Sub.nil))))) (HSub.refl _)
        · simp at hk2
          have hq0 : (dg q).getD k 0 = 0 := by simp [List.getD, List.getElem?_eq_none hk2]
          refine T_skip ?_
          refine T_joined ((dg p).getD k 0 + c) (by omega) (Sub.cons rfl (Sub.cons rfl (Sub.cons rfl (Sub.cons rfl (Sub.cons rfl Sub.nil))))) (HSub.refl _)
      · refine T_seq ?_
        refine T_region ?_
        refine R_op rfl rfl rfl (op_move (Has.t rfl)) ?_
        refine R_op rfl rfl rfl (op_move (Has.t rfl)) ?_
        refine R_op rfl rfl rfl (op_move (Has.t rfl)) ?_
        refine R_op rfl rfl rfl (op_convU rfl Tryz.runUnderlying235 Tryz.runUnderlying97 (Has.t rfl)) ?_
        refine R_op rfl rfl rfl (op_idxB Tryz.runUnderlying44 Tryz.sizeOf97 (Has.t rfl) (Has.t rfl) rfl (by omega) (by rw [Nat.mul_one, Nat.zero_add])) ?_
        refine R_st Tryz.sizeOf97 (Has.t rfl) (Has.t rfl) (i := 0) rfl (by first | omega | (simp; omega)) rfl ?_
        refine R_nil ?_
        refine T_region ?_
        refine R_op rfl rfl rfl (op_move (Has.t rfl)) ?_
        refine R_op rfl rfl rfl (op_shrN (Has.t rfl) (Has.cN 32) (by decide)) ?_
        refine R_op rfl rfl rfl (op_assign (Has.t rfl)) ?_
        refine R_nil ?_
        refine T_blk ?_
        refine T_region ?_
        refine R_op rfl rfl rfl (op_move (Has.t rfl)) ?_
        refine R_op rfl rfl rfl (op_addN (Has.t rfl) (Has.cN 1) (by show _ < 9223372036854775808; first | omega | (simp only [lim]; omega))) ?_
        refine R_op rfl rfl rfl (op_assign (Has.t rfl)) ?_
        refine R_nil ?_
        refine T_again (k + 1, out.set k (s % 4294967296), s / 4294967296) (by show AddS _ _ (out.set k (s % 4294967296)) (k + 1) (s / 4294967296); rw [hs]; exact hS.next (dig_dg p) (dig_dg q) hb) (by dsimp only; omega) (Sub.cons rfl (Sub.cons rfl (Sub.cons rfl (Sub.cons rfl (Sub.cons rfl Sub.nil))))) (HSub.cons (box_of (set_map _ _ _)) HSub.nil)
    · simp at hb
      have hkl : k = (dg p).length := Nat.le_antisymm hS.kle hb
      subst hkl
      have hlen := hS.len; have hcl := hS.cle
      refine T_exit rfl ?_
      refine T_seq ?_
      refine T_region ?_
      refine R_op rfl rfl rfl (op_move (Has.t rfl)) ?_
      refine R_op rfl rfl rfl (op_move (Has.t rfl)) ?_
      refine R_op rfl rfl rfl (op_len Tryz.runUnderlying44 (Has.t rfl) len_map) ?_
      refine R_op rfl rfl rfl (op_move (Has.t rfl)) ?_
      refine R_op rfl rfl rfl (op_convN Tryz.runUnderlying235 Tryz.runUnderlying97 (Has.t rfl) (by show _ < 4294967296; first | omega | (simp only [lim]; omega))) ?_
      refine R_op rfl rfl rfl (op_idxB Tryz.runUnderlying44 Tryz.sizeOf97 (Has.t rfl) (Has.t rfl) rfl (by omega) (by rw [Nat.mul_one, Nat.zero_add])) ?_
      refine R_st Tryz.sizeOf97 (Has.t rfl) (Has.t rfl) (i := 0) rfl (by first | omega | (simp; omega)) rfl ?_
      refine R_nil ?_
      refine T_seq ?_
      have hfin := hS.fin hle
      refine T_freeze (i := 0) (tt := 5) rfl rfl (frz_ds (set_map _ _ _) (by simp [hlen]) (Nat.le_refl _)) ?_
      refine T_region ?_
      refine R_op rfl rfl rfl (op_move (Has.t rfl)) ?_
      refine R_op rfl rfl rfl (op_call Tryz.call207 (c_rtrim _ (dig_set hS.dig (by simp only [BB]; omega)) (by simp [hlen]; omega)) ⟨(Has.t rfl), trivial⟩) ?_
      refine R_op rfl rfl rfl (op_assign (Has.t rfl)) ?_
      refine R_nil ?_
      refine T_ret1 rfl (rv_to (rv_tmp rfl) ?_)
      exact (natT_of (by rw [hfin, val_dg, val_dg]; exact hpq))
set_option maxRecDepth 20000 in
theorem c_rNatSub {m n : Nat} (hm : (dg m).length ≤ 17592186044416) (hnm : n ≤ m) : Fun Tryz.prog 206 [NatT m, NatT n] (NatT (m - n)) := by
  have hle := val_mono_len hnm
  refine Fun.intro Tryz.func206 rfl Tryz.ntmps206 rfl (fun cx => ?_)
  refine T_seq ?_
  refine T_region ?_
  refine R_op rfl rfl rfl (op_assign Has.c) ?_
  refine R_nil ?_
  refine T_seq ?_
  refine T_region ?_
  refine R_op rfl rfl rfl (op_move (Has.t rfl)) ?_
  refine R_op rfl rfl rfl (op_len Tryz.runUnderlying44 (Has.t rfl) len_map) ?_
  refine R_new rfl rfl rfl (new_make (T := U32T 0) (i := Tryz.t97) Tryz.underlying44 info_97 rfl rfl (Has.t rfl) rfl (fun _ => rfl) trivial (by show 4 * _ ≤ _; omega) (by omega)) (fun B11 => ?_)
  refine R_op rfl rfl rfl (op_assign (Has.t rfl)) ?_
  refine R_nil ?_
  refine T_seq ?_
  refine T_region ?_
  refine R_op rfl rfl rfl (op_assign (Has.cN 0)) ?_
  refine R_nil ?_
  refine T_seq ?_
  refine T_seq ?_
  refine T_region ?_
  refine R_op rfl rfl rfl (op_assign (Has.cN 0)) ?_
  refine R_nil ?_
  refine T_block ?_
  refine T_loop3 (fun (k : Nat) (out : List Nat) (c : Nat) => SubS (dg m) (dg n) out k c) (fun (k : Nat) (out : List Nat) (c : Nat) => (dg m).length - k) (fun (k : Nat) (out : List Nat) (c : Nat) => [(0, NatT m), (1, NatT n), (5, Is (.slice (some ⟨B11, 0, none⟩) (dg m).length (dg m).length)), (6, NT .u64 c), (7, NT .i64 k)]) (fun (k : Nat) (out : List Nat) (c : Nat) => [box B11 97 (out.map U32T)]) 0 (List.replicate (dg m).length 0) 0 (SubS.start _ _)
    (Sub.cons rfl (Sub.cons rfl (Sub.cons rfl (Sub.cons rfl (Sub.cons rfl Sub.nil))))) (HSub.cons (box_of (rep_map _)) HSub.nil) (fun k out c hS => ?_)
  refine T_seq ?_
  refine T_seq ?_
  refine T_region ?_
  refine R_op rfl rfl rfl (op_move (Has.t rfl)) ?_
  refine R_op rfl rfl rfl (op_move (Has.t rfl)) ?_
  refine R_op rfl rfl rfl (op_len Tryz.runUnderlying44 (Has.t rfl) len_map) ?_
  refine R_op rfl rfl rfl (op_lssN (Has.t rfl) (Has.t rfl)) ?_
  refine R_nil ?_
  refine T_cond (Has.t rfl) (fun hb => ?_) (fun hb => ?_)
  · simp at hb
    have hlen := hS.len; have hcl := hS.cle; have hxk := getD_lt (dig_dg m) k; have hyk := getD_lt (dig_dg n) k
    simp only [BB] at hxk hyk
    refine T_skip ?_
    refine T_seq ?_
    refine T_block ?_
    refine T_seq ?_
    refine T_region ?_
    refine R_op rfl rfl rfl (op_move (Has.t rfl)) ?_
    refine R_op rfl rfl rfl (op_move (Has.t rfl)) ?_
    refine R_op rfl rfl rfl (op_idx Tryz.runUnderlying44 Tryz.sizeOf97 (Has.t rfl) (Has.t rfl) rfl (map_get (get_some (by omega)))) ?_
    refine R_op rfl rfl rfl (op_ld Tryz.isAgg97 Tryz.sizeOf97 (Has.t rfl)) ?_
    refine R_op rfl rfl rfl (op_convN Tryz.runUnderlying97 Tryz.runUnderlying235 (Has.t rfl) (by show _ < 18446744073709551616; first | omega | (simp only [lim]; omega))) ?_
    refine R_op rfl rfl rfl (op_move (Has.t rfl)) ?_
    refine R_op rfl rfl rfl (op_subU rfl (Has.t rfl) (Has.t rfl) (by show _ ≤ 18446744073709551616; first | omega | (simp only [lim]; omega))) ?_
    refine R_op rfl rfl rfl (op_assign (Has.t rfl)) ?_
    refine R_nil ?_
    refine T_seq ?_
    refine T_join (fun (s : Nat) => s = (((dg m).getD k 0 + 18446744073709551616 - c) % 18446744073709551616 + 18446744073709551616 - (dg n).getD k 0) % 18446744073709551616) (fun (s : Nat) => [(0, NatT m), (1, NatT n), (5, Is (.slice (some ⟨B11, 0, none⟩) (dg m).length (dg m).length)), (7, NT .i64 k), (8, NT .u64 s)]) (fun (s : Nat) => [box B11 97 (out.map U32T)]) ?_ (fun s hs => ?_)
    · refine T_seq ?_
      refine T_region ?_
      refine R_op rfl rfl rfl (op_move (Has.t rfl)) ?_
      refine R_op rfl rfl rfl (op_move (Has.t rfl)) ?_
      refine R_op rfl rfl rfl (op_len Tryz.runUnderlying44 (Has.t rfl) len_map) ?_
      refine R_op rfl rfl rfl (op_lssN (Has.t rfl) (Has.t rfl)) ?_
      refine R_nil ?_
      refine T_cond (Has.t rfl) (fun hk2 => ?_) (fun hk2 => ?_)
      · simp at hk2
        refine T_region ?_
        refine R_op rfl rfl rfl (op_move (Has.t rfl)) ?_
        refine R_op rfl rfl rfl (op_move (Has.t rfl)) ?_
        refine R_op rfl rfl rfl (op_move (Has.t rfl)) ?_
        refine R_op rfl rfl rfl (op_idx Tryz.runUnderlying44 Tryz.sizeOf97 (Has.t rfl) (Has.t rfl) rfl (map_get (get_some (by omega)))) ?_
        refine R_op rfl rfl rfl (op_ld Tryz.isAgg97 Tryz.sizeOf97 (Has.t rfl)) ?_
        refine R_op rfl rfl rfl (op_convN Tryz.runUnderlying97 Tryz.runUnderlying235 (Has.t rfl) (by show _ < 18446744073709551616; first | omega | (simp only [lim]; omega))) ?_
        refine R_op rfl rfl rfl (op_subU rfl (Has.t rfl) (Has.t rfl) (by show _ ≤ 18446744073709551616; first | omega | (simp only [lim]; omega))) ?_
        refine R_op rfl rfl rfl (op_assign (Has.t rfl)) ?_
        refine R_nil ?_
        refine T_joined _ rfl (Sub.cons rfl (Sub.cons rfl (Sub.cons rfl (Sub.cons rfl (Sub.cons rfl Sub.nil))))) (HSub.refl _)
      · simp at hk2
        have hq0 : (dg n).getD k 0 = 0 := by simp [List.getD, List.getElem?_eq_none hk2]
        refine T_skip ?_
        refine T_joined (((dg m).getD k 0 + 18446744073709551616 - c) % 18446744073709551616) (by omega) (Sub.cons rfl (Sub.cons rfl (Sub.cons rfl (Sub.cons rfl (Sub.cons rfl Sub.nil))))) (HSub.refl _)
    · refine T_seq ?_
      refine T_region ?_
      refine R_op rfl rfl rfl (op_move (Has.t rfl)) ?_
      refine R_op rfl rfl rfl (op_move (Has.t rfl)) ?_
      refine R_op rfl rfl rfl (op_move (Has.t rfl)) ?_
      refine R_op rfl rfl rfl (op_convU rfl Tryz.runUnderlying235 Tryz.runUnderlying97 (Has.t rfl)) ?_
      refine R_op rfl rfl rfl (op_idxB Tryz.runUnderlying44 Tryz.sizeOf97 (Has.t rfl) (Has.t rfl) rfl (by omega) (by rw [Nat.mul_one, Nat.zero_add])) ?_
      refine R_st Tryz.sizeOf97 (Has.t rfl) (Has.t rfl) (i := 0) rfl (by first | omega | (simp; omega)) rfl ?_
      refine R_nil ?_
      refine T_region ?_
      refine R_op rfl rfl rfl (op_move (Has.t rfl)) ?_
      refine R_op rfl rfl rfl (op_shrN (Has.t rfl) (Has.cN 63) (by decide)) ?_
      refine R_op rfl rfl rfl (op_assign (Has.t rfl)) ?_
      refine R_nil ?_
      refine T_blk ?_
      refine T_region ?_
      refine R_op rfl rfl rfl (op_move (Has.t rfl)) ?_
      refine R_op rfl rfl rfl (op_addN (Has.t rfl) (Has.cN 1) (by show _ < 9223372036854775808; first | omega | (simp only [lim]; omega))) ?_
      refine R_op rfl rfl rfl (op_assign (Has.t rfl)) ?_
      refine R_nil ?_
      refine T_again (k + 1, out.set k (s % 4294967296), s / 9223372036854775808) (by
          show SubS _ _ (out.set k (s % 4294967296)) (k + 1) (s / 9223372036854775808)
          have h1 := hS.next (dig_dg m) (dig_dg n) hb
          rw [← show s % 4294967296 = ((dg m).getD k 0 + 8589934592 - (dg n).getD k 0 - c) % 4294967296 by omega, ← show s / 9223372036854775808 = (if (dg m).getD k 0 < (dg n).getD k 0 + c then 1 else 0) by (split <;> omega)] at h1
          exact h1) (by dsimp only; omega) (Sub.cons rfl (Sub.cons rfl (Sub.cons rfl (Sub.cons rfl (Sub.cons rfl Sub.nil))))) (HSub.cons (box_of (set_map _ _ _)) HSub.nil)
  · simp at hb
    have hkl : k = (dg m).length := Nat.le_antisymm hS.kle hb
    subst hkl
    have hlen := hS.len
    have hfin := hS.fin (dig_dg m) hle (by rw [val_dg, val_dg]; exact hnm)
    rw [val_dg, val_dg] at hfin
    refine T_exit rfl ?_
    refine T_freeze (i := 0) (tt := 5) rfl rfl (frz_ds rfl hlen.symm (Nat.le_refl _)) ?_
    refine T_seq ?_
    refine T_region ?_
    refine R_op rfl rfl rfl (op_move (Has.t rfl)) ?_
    refine R_op rfl rfl rfl (op_call Tryz.call207 (c_rtrim _ hS.dig (by omega)) ⟨(Has.t rfl), trivial⟩) ?_
    refine R_op rfl rfl rfl (op_assign (Has.t rfl)) ?_
    refine R_nil ?_
    refine T_ret1 rfl (rv_to (rv_tmp rfl) ?_)
    exact (natT_of hfin)
set_option maxRecDepth 20000 in
theorem c_rNatMul {m n : Nat} (hm : (dg m).length ≤ 17592186044416) (hn : (dg n).length ≤ 17592186044416) : Fun Tryz.prog 161 [NatT m, NatT n] (NatT (m * n)) := by
  refine Fun.intro Tryz.func161 rfl Tryz.ntmps161 rfl (fun cx => ?_)
  refine T_seq ?_
  refine T_region ?_
  refine R_op rfl rfl rfl (op_assign Has.c) ?_
  refine R_nil ?_
  refine T_seq ?_
  refine T_region ?_
  refine R_op rfl rfl rfl (op_move (Has.t rfl)) ?_
  refine R_op rfl rfl rfl (op_len Tryz.runUnderlying44 (Has.t rfl) len_map) ?_
  refine R_op rfl rfl rfl (op_move (Has.t rfl)) ?_
  refine R_op rfl rfl rfl (op_len Tryz.runUnderlying44 (Has.t rfl) len_map) ?_
  refine R_op rfl rfl rfl (op_addN (Has.t rfl) (Has.t rfl) (by show _ < 9223372036854775808; first | omega | (simp only [lim]; omega))) ?_
  refine R_new rfl rfl rfl (new_make (T := U32T 0) (i := Tryz.t97) Tryz.underlying44 info_97 rfl rfl (Has.t rfl) rfl (fun _ => rfl) trivial (by show 4 * _ ≤ _; omega) (by omega)) (fun B15 => ?_)
  refine R_op rfl rfl rfl (op_assign (Has.t rfl)) ?_
  refine R_nil ?_
  refine T_seq ?_
  refine T_seq ?_
  refine T_region ?_
  refine R_op rfl rfl rfl (op_assign (Has.cN 0)) ?_
  refine R_nil ?_
  refine T_block ?_
  refine T_loop2 (fun (i : Nat) (out : List Nat) => MulS (dg m) (dg n) out i) (fun (i : Nat) (out : List Nat) => (dg m).length - i) (fun (i : Nat) (out : List Nat) => [(0, NatT m), (1, NatT n), (5, Is (.slice (some ⟨B15, 0, none⟩) ((dg m).length + (dg n).length) ((dg m).length + (dg n).length))), (6, NT .i64 i)]) (fun (i : Nat) (out : List Nat) => [box B15 97 (out.map U32T)]) 0 (List.replicate ((dg m).length + (dg n).length) 0) (MulS.start _ _)
    (Sub.cons rfl (Sub.cons rfl (Sub.cons rfl (Sub.cons rfl Sub.nil)))) (HSub.cons (box_of (rep_map _)) HSub.nil) (fun i out hS => ?_)
  refine T_seq ?_
  refine T_seq ?_
  refine T_region ?_
  refine R_op rfl rfl rfl (op_move (Has.t rfl)) ?_
  refine R_op rfl rfl rfl (op_move (Has.t rfl)) ?_
  refine R_op rfl rfl rfl (op_len Tryz.runUnderlying44 (Has.t rfl) len_map) ?_
  refine R_op rfl rfl rfl (op_lssN (Has.t rfl) (Has.t rfl)) ?_
  refine R_nil ?_
  refine T_cond (Has.t rfl) (fun hb => ?_) (fun hb => ?_)
  · simp at hb
    have hxi := getD_lt (dig_dg m) i
    simp only [BB] at hxi
    refine T_skip ?_
    refine T_seq ?_
    refine T_block ?_
    refine T_seq ?_
    refine T_region ?_
    refine R_op rfl rfl rfl (op_assign (Has.cN 0)) ?_
    refine R_nil ?_
    refine T_seq ?_
    refine T_seq ?_
    refine T_region ?_
    refine R_op rfl rfl rfl (op_assign (Has.cN 0)) ?_
    refine R_nil ?_
    refine T_block ?_
    refine T_loop3 (fun (k : Nat) (out2 : List Nat) (c : Nat) => MulR (dg m) (dg n) out2 i k c) (fun (k : Nat) (out2 : List Nat) (c : Nat) => (dg n).length - k) (fun (k : Nat) (out2 : List Nat) (c : Nat) => [(0, NatT m), (1, NatT n), (5, Is (.slice (some ⟨B15, 0, none⟩) ((dg m).length + (dg n).length) ((dg m).length + (dg n).length))), (6, NT .i64 i), (7, NT .u64 c), (8, NT .i64 k)]) (fun (k : Nat) (out2 : List Nat) (c : Nat) => [box B15 97 (out2.map U32T)]) 0 out 0 (hS.row hb)
      (Sub.cons rfl (Sub.cons rfl (Sub.cons rfl (Sub.cons rfl (Sub.cons rfl (Sub.cons rfl Sub.nil)))))) (HSub.refl _) (fun k out2 c hR => ?_)
    refine T_seq ?_
    refine T_seq ?_
    refine T_region ?_
    refine R_op rfl rfl rfl (op_move (Has.t rfl)) ?_
    refine R_op rfl rfl rfl (op_move (Has.t rfl)) ?_
    refine R_op rfl rfl rfl (op_len Tryz.runUnderlying44 (Has.t rfl) len_map) ?_
    refine R_op rfl rfl rfl (op_lssN (Has.t rfl) (Has.t rfl)) ?_
    refine R_nil ?_
    refine T_cond (Has.t rfl) (fun hk => ?_) (fun hk => ?_)
    · simp at hk
      have hlen := hR.len; have hcl := hR.clt; have hyk := getD_lt (dig_dg n) k; have hok := getD_lt hR.dig (i + k)
      have hbnd := mul_bound (getD_lt (dig_dg m) i) (getD_lt (dig_dg n) k) (getD_lt hR.dig (i + k)) hR.clt
      simp only [BB] at hcl hyk hok hbnd
      refine T_skip ?_
      refine T_seq ?_
      refine T_block ?_
      refine T_seq ?_
      refine D_start (m := 20) ?_
      refine D_step (Ei := [(0, _)]) rfl rfl (Srcs.cons (Src.pre rfl rfl) Srcs.nil) (S_plain rfl (op_move (Has.t rfl))) ?_
      refine D_step (Ei := [(6, _)]) rfl rfl (Srcs.cons (Src.pre rfl rfl) Srcs.nil) (S_plain rfl (op_move (Has.t rfl))) ?_
      refine D_step (Ei := [(28, _), (29, _)]) rfl rfl (Srcs.cons (Src.op 0 rfl rfl) (Srcs.cons (Src.op 1 rfl rfl) Srcs.nil)) (S_plain rfl (op_idx Tryz.runUnderlying44 Tryz.sizeOf97 (Has.t rfl) (Has.t rfl) rfl (map_get (get_some (by omega))))) ?_
      refine D_step (Ei := [(30, _)]) rfl rfl (Srcs.cons (Src.op 2 rfl rfl) Srcs.nil) (S_plain rfl (op_ld Tryz.isAgg97 Tryz.sizeOf97 (Has.t rfl))) ?_
      refine D_step (Ei := [(31, _)]) rfl rfl (Srcs.cons (Src.op 3 rfl rfl) Srcs.nil) (S_plain rfl (op_convN Tryz.runUnderlying97 Tryz.runUnderlying235 (Has.t rfl) (by show _ < 18446744073709551616; first | omega | (simp only [lim]; omega)))) ?_
      refine D_step (Ei := [(1, _)]) rfl rfl (Srcs.cons (Src.pre rfl rfl) Srcs.nil) (S_plain rfl (op_move (Has.t rfl))) ?_
      refine D_step (Ei := [(8, _)]) rfl rfl (Srcs.cons (Src.pre rfl rfl) Srcs.nil) (S_plain rfl (op_move (Has.t rfl))) ?_
      refine D_step (Ei := [(33, _), (34, _)]) rfl rfl (Srcs.cons (Src.op 5 rfl rfl) (Srcs.cons (Src.op 6 rfl rfl) Srcs.nil)) (S_plain rfl (op_idx Tryz.runUnderlying44 Tryz.sizeOf97 (Has.t rfl) (Has.t rfl) rfl (map_get (get_some (by omega))))) ?_
      refine D_step (Ei := [(35, _)]) rfl rfl (Srcs.cons (Src.op 7 rfl rfl) Srcs.nil) (S_plain rfl (op_ld Tryz.isAgg97 Tryz.sizeOf97 (Has.t rfl))) ?_
      refine D_step (Ei := [(36, _)]) rfl rfl (Srcs.cons (Src.op 8 rfl rfl) Srcs.nil) (S_plain rfl (op_convN Tryz.runUnderlying97 Tryz.runUnderlying235 (Has.t rfl) (by show _ < 18446744073709551616; first | omega | (simp only [lim]; omega)))) ?_
      refine D_step (Ei := [(32, _), (37, _)]) rfl rfl (Srcs.cons (Src.op 4 rfl rfl) (Srcs.cons (Src.op 9 rfl rfl) Srcs.nil)) (S_plain rfl (op_mulN (Has.t rfl) (Has.t rfl) (by show _ < 18446744073709551616; first | omega | (simp only [lim]; omega)))) ?_
      refine D_step (Ei := [(5, _)]) rfl rfl (Srcs.cons (Src.pre rfl rfl) Srcs.nil) (S_plain rfl (op_move (Has.t rfl))) ?_
      refine D_step (Ei := [(6, _)]) rfl rfl (Srcs.cons (Src.pre rfl rfl) Srcs.nil) (S_plain rfl (op_move (Has.t rfl))) ?_
      refine D_step (Ei := [(8, _)]) rfl rfl (Srcs.cons (Src.pre rfl rfl) Srcs.nil) (S_plain rfl (op_move (Has.t rfl))) ?_
      refine D_step (Ei := [(40, _), (41, _)]) rfl rfl (Srcs.cons (Src.op 12 rfl rfl) (Srcs.cons (Src.op 13 rfl rfl) Srcs.nil)) (S_plain rfl (op_addN (Has.t rfl) (Has.t rfl) (by show _ < 9223372036854775808; first | omega | (simp only [lim]; omega)))) ?_
      refine D_step (Ei := [(39, _), (42, _)]) rfl rfl (Srcs.cons (Src.op 11 rfl rfl) (Srcs.cons (Src.op 14 rfl rfl) Srcs.nil)) (S_plain rfl (op_idxB Tryz.runUnderlying44 Tryz.sizeOf97 (Has.t rfl) (Has.t rfl) rfl (by omega) (by rw [Nat.mul_one, Nat.zero_add]))) ?_
      refine D_step (Ei := [(43, _)]) rfl rfl (Srcs.cons (Src.op 15 rfl rfl) Srcs.nil) (S_plain rfl (op_ldB Tryz.isAgg97 Tryz.sizeOf97 (Has.t rfl) (i := 0) rfl (map_get (get_some (by omega))))) ?_
      refine D_step (Ei := [(44, _)]) rfl rfl (Srcs.cons (Src.op 16 rfl rfl) Srcs.nil) (S_plain rfl (op_convN Tryz.runUnderlying97 Tryz.runUnderlying235 (Has.t rfl) (by show _ < 18446744073709551616; first | omega | (simp only [lim]; omega)))) ?_
      refine D_step (Ei := [(38, _), (45, _)]) rfl rfl (Srcs.cons (Src.op 10 rfl rfl) (Srcs.cons (Src.op 17 rfl rfl) Srcs.nil)) (S_plain rfl (op_addN (Has.t rfl) (Has.t rfl) (by show _ < 18446744073709551616; first | omega | (simp only [lim]; omega)))) ?_
      refine D_step (Ei := [(7, _)]) rfl rfl (Srcs.cons (Src.pre rfl rfl) Srcs.nil) (S_plain rfl (op_move (Has.t rfl))) ?_
      refine D_done mixed rfl (by kernel_rfl) (F_val (F_val (F_val (F_val (F_val (F_val (F_val (F_val (F_val (F_val (F_val (F_val (F_val (F_val (F_val (F_val (F_val (F_val (F_val (F_val (F_nil ?_)))))))))))))))))))))
      refine R_op rfl rfl rfl (op_addN (Has.t rfl) (Has.t rfl) (by show _ < 18446744073709551616; first | omega | (simp only [lim]; omega))) ?_
      refine R_op rfl rfl rfl (op_assign (Has.t rfl)) ?_
      refine R_nil ?_
      refine T_seq ?_
      refine T_region ?_
      refine R_op rfl rfl rfl (op_move (Has.t rfl)) ?_
      refine R_op rfl rfl rfl (op_move (Has.t rfl)) ?_
      refine R_op rfl rfl rfl (op_move (Has.t rfl)) ?_
      refine R_op rfl rfl rfl (op_addN (Has.t rfl) (Has.t rfl) (by show _ < 9223372036854775808; first | omega | (simp only [lim]; omega))) ?_
      refine R_op rfl rfl rfl (op_move (Has.t rfl)) ?_
      refine R_op rfl rfl rfl (op_convU rfl Tryz.runUnderlying235 Tryz.runUnderlying97 (Has.t rfl)) ?_
      refine R_op rfl rfl rfl (op_idxB Tryz.runUnderlying44 Tryz.sizeOf97 (Has.t rfl) (Has.t rfl) rfl (by omega) (by rw [Nat.mul_one, Nat.zero_add])) ?_
      refine R_st Tryz.sizeOf97 (Has.t rfl) (Has.t rfl) (i := 0) rfl (by first | omega | (simp; omega)) rfl ?_
      refine R_nil ?_
      refine T_region ?_
      refine R_op rfl rfl rfl (op_move (Has.t rfl)) ?_
      refine R_op rfl rfl rfl (op_shrN (Has.t rfl) (Has.cN 32) (by decide)) ?_
      refine R_op rfl rfl rfl (op_assign (Has.t rfl)) ?_
      refine R_nil ?_
      refine T_blk ?_
      refine T_region ?_
      refine R_op rfl rfl rfl (op_move (Has.t rfl)) ?_
      refine R_op rfl rfl rfl (op_addN (Has.t rfl) (Has.cN 1) (by show _ < 9223372036854775808; first | omega | (simp only [lim]; omega))) ?_
      refine R_op rfl rfl rfl (op_assign (Has.t rfl)) ?_
      refine R_nil ?_
      refine T_again (k + 1, _, _) (hR.next (dig_dg m) (dig_dg n) hk (Nat.add_comm _ _)) (by dsimp only; omega) (Sub.cons rfl (Sub.cons rfl (Sub.cons rfl (Sub.cons rfl (Sub.cons rfl (Sub.cons rfl Sub.nil)))))) (HSub.cons (box_of (set_map _ _ _)) HSub.nil)
    · simp at hk
      have hkl : k = (dg n).length := Nat.le_antisymm hR.kle hk
      subst hkl
      have hlen := hR.len; have hcl := hR.clt
      simp only [BB] at hcl
      refine T_exit rfl ?_
      refine T_region ?_
      refine R_op rfl rfl rfl (op_move (Has.t rfl)) ?_
      refine R_op rfl rfl rfl (op_move (Has.t rfl)) ?_
      refine R_op rfl rfl rfl (op_move (Has.t rfl)) ?_
      refine R_op rfl rfl rfl (op_len Tryz.runUnderlying44 (Has.t rfl) len_map) ?_
      refine R_op rfl rfl rfl (op_addN (Has.t rfl) (Has.t rfl) (by show _ < 9223372036854775808; first | omega | (simp only [lim]; omega))) ?_
      refine R_op rfl rfl rfl (op_move (Has.t rfl)) ?_
      refine R_op rfl rfl rfl (op_convN Tryz.runUnderlying235 Tryz.runUnderlying97 (Has.t rfl) (by show _ < 4294967296; first | omega | (simp only [lim]; omega))) ?_
      refine R_op rfl rfl rfl (op_idxB Tryz.runUnderlying44 Tryz.sizeOf97 (Has.t rfl) (Has.t rfl) rfl (by omega) (by rw [Nat.mul_one, Nat.zero_add])) ?_
      refine R_st Tryz.sizeOf97 (Has.t rfl) (Has.t rfl) (i := 0) rfl (by first | omega | (simp; omega)) rfl ?_
      refine R_nil ?_
      refine T_blk ?_
      refine T_region ?_
      refine R_op rfl rfl rfl (op_move (Has.t rfl)) ?_
      refine R_op rfl rfl rfl (op_addN (Has.t rfl) (Has.cN 1) (by show _ < 9223372036854775808; first | omega | (simp only [lim]; omega))) ?_
      refine R_op rfl rfl rfl (op_assign (Has.t rfl)) ?_
      refine R_nil ?_
      refine T_again (i + 1, _) (hR.fin) (by dsimp only; omega) (Sub.cons rfl (Sub.cons rfl (Sub.cons rfl (Sub.cons rfl Sub.nil)))) (HSub.cons (box_of (set_map _ _ _)) HSub.nil)
  · simp at hb
    have hkl : i = (dg m).length := Nat.le_antisymm hS.ile hb
    subst hkl
    have hlen := hS.len
    have hfin := hS.fin
    rw [val_dg, val_dg] at hfin
    refine T_exit rfl ?_
    refine T_freeze (i := 0) (tt := 5) rfl rfl (frz_ds rfl hlen.symm (Nat.le_refl _)) ?_
    refine T_seq ?_
    refine T_region ?_
    refine R_op rfl rfl rfl (op_move (Has.t rfl)) ?_
    refine R_op rfl rfl rfl (op_call Tryz.call207 (c_rtrim _ hS.dig (by omega)) ⟨(Has.t rfl), trivial⟩) ?_
    refine R_op rfl rfl rfl (op_assign (Has.t rfl)) ?_
    refine R_nil ?_
    refine T_ret1 rfl (rv_to (rv_tmp rfl) ?_)
    exact (natT_of hfin)
set_option maxRecDepth 20000 in
theorem c_rDigit {m y : Nat} (hm : (dg m).length ≤ 17592186044416) (hy : 0 < y) (hyb : y < BB) : Fun Tryz.prog 229 [NatT m, U32T y] (TupT [NatT (m / y), U32T (m % y)]) := by
  refine Fun.intro Tryz.func229 rfl Tryz.ntmps229 rfl (fun cx => ?_)
  have hyb2 := hyb
  simp only [BB] at hyb2
  refine T_seq ?_
  refine T_region ?_
  refine R_op rfl rfl rfl (op_assign Has.c) ?_
  refine R_op rfl rfl rfl (op_assign (Has.cN 0)) ?_
  refine R_nil ?_
  refine T_seq ?_
  refine T_region ?_
  refine R_op rfl rfl rfl (op_move (Has.t rfl)) ?_
  refine R_op rfl rfl rfl (op_len Tryz.runUnderlying44 (Has.t rfl) len_map) ?_
  refine R_new rfl rfl rfl (new_make (T := U32T 0) (i := Tryz.t97) Tryz.underlying44 info_97 rfl rfl (Has.t rfl) rfl (fun _ => rfl) trivial (by show 4 * _ ≤ _; omega) (by omega)) (fun B12 => ?_)
  refine R_op rfl rfl rfl (op_assign (Has.t rfl)) ?_
  refine R_nil ?_
  refine T_seq ?_
  refine T_region ?_
  refine R_op rfl rfl rfl (op_assign (Has.cN 0)) ?_
  refine R_nil ?_
  refine T_seq ?_
  refine T_seq ?_
  refine T_region ?_
  refine R_op rfl rfl rfl (op_move (Has.t rfl)) ?_
  refine R_op rfl rfl rfl (op_len Tryz.runUnderlying44 (Has.t rfl) len_map) ?_
  refine R_op rfl rfl rfl (op_sub (Has.t rfl) Has.c (w64 (by omega))) ?_
  refine R_op rfl rfl rfl (op_assign (Has.t rfl)) ?_
  refine R_nil ?_
  refine T_block ?_
  refine T_loop3 (fun (k : Nat) (out : List Nat) (r : Nat) => ShortS (dg m) y out k r) (fun (k : Nat) (out : List Nat) (r : Nat) => k) (fun (k : Nat) (out : List Nat) (r : Nat) => [(0, NatT m), (1, U32T y), (6, Is (.slice (some ⟨B12, 0, none⟩) (dg m).length (dg m).length)), (7, NT .u64 r), (8, IntT .i64 ((k : Int) - 1))]) (fun (k : Nat) (out : List Nat) (r : Nat) => [box B12 97 (out.map U32T)]) (dg m).length (List.replicate (dg m).length 0) 0 (ShortS.start _ hy)
    (Sub.cons rfl (Sub.cons rfl (Sub.cons rfl (Sub.cons rfl (Sub.cons rfl Sub.nil))))) (HSub.cons (box_of (rep_map _)) HSub.nil) (fun k out r hS => ?_)
  refine T_seq ?_
  refine T_seq ?_
  refine T_region ?_
  refine R_op rfl rfl rfl (op_move (Has.t rfl)) ?_
  refine R_op rfl rfl rfl (op_geq (Has.t rfl) Has.c) ?_
  refine R_nil ?_
  refine T_cond (Has.t rfl) (fun hb => ?_) (fun hb => ?_)
  · simp at hb
    have hlen := hS.len; have hkl := hS.kle; have hrl := hS.rlt; have hxk := getD_lt (dig_dg m) (k - 1)
    have hz2 := top64 (Nat.lt_trans hrl hyb) hxk; have hsh := shl32 (Nat.lt_trans hrl hyb); have hq := short_lt' hrl hxk; have hor := or_add (a := r) hxk; have hmod := Nat.mod_lt (r * BB + (dg m).getD (k - 1) 0) hy
    have hxk2 := hxk
    simp only [BB] at hxk2
    refine T_skip ?_
    refine T_seq ?_
    refine T_block ?_
    refine T_seq ?_
    refine T_region ?_
    refine R_op rfl rfl rfl (op_move (Has.t rfl)) ?_
    refine R_op rfl rfl rfl (op_shlN (Has.t rfl) (Has.cN 32) (by decide) hsh) ?_
    refine R_op rfl rfl rfl (op_move (Has.t rfl)) ?_
    refine R_op rfl rfl rfl (op_move (Has.t rfl)) ?_
    refine R_op rfl rfl rfl (op_idx Tryz.runUnderlying44 Tryz.sizeOf97 (Has.t rfl) (Has.t rfl) (show ((k : Int) - 1) = ((k - 1 : Nat) : Int) by omega) (map_get (get_some (by omega)))) ?_
    refine R_op rfl rfl rfl (op_ld Tryz.isAgg97 Tryz.sizeOf97 (Has.t rfl)) ?_
    refine R_op rfl rfl rfl (op_convN Tryz.runUnderlying97 Tryz.runUnderlying235 (Has.t rfl) (by show _ < 18446744073709551616; first | omega | (simp only [lim]; omega))) ?_
    refine R_op rfl rfl rfl (OpTy.nat (op_orN rfl (Has.t rfl) (Has.t rfl) (by show _ < 18446744073709551616; first | omega | (simp only [lim]; omega)) (by show _ < 18446744073709551616; first | omega | (simp only [lim]; omega))) hor) ?_
    refine R_op rfl rfl rfl (op_assign (Has.t rfl)) ?_
    refine R_nil ?_
    refine T_seq ?_
    refine T_region ?_
    refine R_op rfl rfl rfl (op_move (Has.t rfl)) ?_
    refine R_op rfl rfl rfl (op_move (Has.t rfl)) ?_
    refine R_op rfl rfl rfl (op_move (Has.t rfl)) ?_
    refine R_op rfl rfl rfl (op_move (Has.t rfl)) ?_
    refine R_op rfl rfl rfl (op_convN Tryz.runUnderlying97 Tryz.runUnderlying235 (Has.t rfl) (by show _ < 18446744073709551616; first | omega | (simp only [lim]; omega))) ?_
    refine R_op rfl rfl rfl (op_quoN (Has.t rfl) (Has.t rfl) (by omega) (by show _ < 18446744073709551616; exact hz2)) ?_
    refine R_op rfl rfl rfl (op_convN Tryz.runUnderlying235 Tryz.runUnderlying97 (Has.t rfl) (by show _ < 4294967296; exact hq)) ?_
    refine R_op rfl rfl rfl (op_idxB Tryz.runUnderlying44 Tryz.sizeOf97 (Has.t rfl) (Has.t rfl) (show ((k : Int) - 1) = ((k - 1 : Nat) : Int) by omega) (by omega) (by rw [Nat.mul_one, Nat.zero_add])) ?_
    refine R_st Tryz.sizeOf97 (Has.t rfl) (Has.t rfl) (i := 0) rfl (by first | omega | (simp; omega)) rfl ?_
    refine R_nil ?_
    refine T_region ?_
    refine R_op rfl rfl rfl (op_move (Has.t rfl)) ?_
    refine R_op rfl rfl rfl (op_move (Has.t rfl)) ?_
    refine R_op rfl rfl rfl (op_convN Tryz.runUnderlying97 Tryz.runUnderlying235 (Has.t rfl) (by show _ < 18446744073709551616; first | omega | (simp only [lim]; omega))) ?_
    refine R_op rfl rfl rfl (op_remN (Has.t rfl) (Has.t rfl) (by omega)) ?_
    refine R_op rfl rfl rfl (op_assign (Has.t rfl)) ?_
    refine R_nil ?_
    refine T_blk ?_
    refine T_region ?_
    refine R_op rfl rfl rfl (op_move (Has.t rfl)) ?_
    refine R_op rfl rfl rfl (op_sub (Has.t rfl) Has.c (w64 (by omega))) ?_
    refine R_op rfl rfl rfl (op_assign (Has.t rfl)) ?_
    refine R_nil ?_
    refine T_again (k - 1, _, _) (hS.next (dig_dg m) (by omega) rfl) (by dsimp only; omega) (Sub.cons rfl (Sub.cons rfl (Sub.cons rfl (Sub.cons rfl (Sub.to rfl (int_of (by omega)) Sub.nil))))) (HSub.cons (box_of (set_map _ _ _)) HSub.nil)
  · simp at hb
    have hk0 : k = 0 := by omega
    subst hk0
    have hlen := hS.len; have hrl := hS.rlt
    have hfin := hS.fin
    rw [val_dg] at hfin
    refine T_exit rfl ?_
    refine T_freeze (i := 0) (tt := 6) rfl rfl (frz_ds rfl hlen.symm (Nat.le_refl _)) ?_
    refine T_seq ?_
    refine T_region ?_
    refine R_op rfl rfl rfl (op_move (Has.t rfl)) ?_
    refine R_op rfl rfl rfl (op_call Tryz.call207 (c_rtrim _ hS.dig (by omega)) ⟨(Has.t rfl), trivial⟩) ?_
    refine R_op rfl rfl rfl (op_move (Has.t rfl)) ?_
    refine R_op rfl rfl rfl (op_convN Tryz.runUnderlying235 Tryz.runUnderlying97 (Has.t rfl) (by show _ < 4294967296; first | omega | (simp only [lim]; omega))) ?_
    refine R_op rfl rfl rfl (op_assign (Has.t rfl)) ?_
    refine R_op rfl rfl rfl (op_assign (Has.t rfl)) ?_
    refine R_nil ?_
    refine T_ret2 rfl (rv_to (rv_tmp rfl) ?_) (rv_to (rv_tmp rfl) ?_)
    · exact (natT_of hfin.1)
    · exact (nt_of hfin.2)
end Go.Proofs.YtppibhcfaahgpaaGreat
