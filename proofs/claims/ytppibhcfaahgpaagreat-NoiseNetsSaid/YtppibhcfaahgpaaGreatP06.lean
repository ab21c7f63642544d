/- The law about networks with noise answers true for all plain data. Conditions: none beyond those of the given statement. -/
import Derived.Test.YtppibhcfaahgpaaGreatP05
set_option linter.unusedVariables false
set_option linter.unusedSimpArgs false
namespace Go.Proofs.YtppibhcfaahgpaaGreat
open Go Go.RowKit
theorem c_rZeros {n : Nat} (hn : n ≤ 1000) : Fun Tryz.prog 41 [NT .i64 n, NT .i64 n] (QM (zeroM n n)) := (c_ZerosO hn hn).fun fun B _ v S V h1 h2 => frz_matF (s := 5) (M := zeroM n n) (zeroM_shp n n).1.symm v S V h1 h2
set_option maxHeartbeats 1000000 in
set_option maxRecDepth 20000 in
theorem c_NoiseNets {z z2 : List Rt} {s c s2 c2 : List (List Rt)} {i j : Int} : Fun Tryz.prog 7 [LawT z s c, LawT z2 s2 c2, IntT .i64 i, IntT .i64 j] (BoolT true) := by
  refine Fun.intro Tryz.func7 rfl Tryz.ntmps7 rfl (fun cx => ?_)
  refine T_seq ?_
  refine T_region ?_
  refine R_new rfl rfl rfl (new_box (Has.t rfl)) (fun B4 => ?_)
  refine R_new rfl rfl rfl (new_box (Has.t rfl)) (fun B5 => ?_)
  refine R_op rfl rfl rfl (op_assign Has.c) ?_
  refine R_nil ?_
  refine T_seq ?_
  refine T_seq ?_
  refine T_region ?_
  refine R_op rfl rfl rfl (op_ldBA Tryz.isAgg25 Tryz.sizeOf25 (Has.t rfl) (i := 0) rfl rfl rfl) ?_
  refine R_op rfl rfl rfl (op_call Tryz.call14 c_few ⟨(Has.t rfl), trivial⟩) ?_
  refine R_op rfl rfl rfl (op_not (Has.t rfl)) ?_
  refine R_op rfl rfl rfl (op_move (Has.t rfl)) ?_
  refine R_step rfl rfl (S_when rfl rfl (Has.t rfl) (fun h => op_ldBA Tryz.isAgg25 Tryz.sizeOf25 (Has.t rfl) (i := 1) rfl rfl rfl)) ?_
  refine R_step rfl rfl (S_when rfl rfl (Has.t rfl) (fun h => op_call Tryz.call14 c_few ⟨(Has.w rfl h), trivial⟩)) ?_
  refine R_step rfl rfl (S_when rfl rfl (Has.t rfl) (fun h => op_not (Has.w rfl h))) ?_
  refine R_op rfl rfl rfl (op_or (Has.t rfl) (fun h => (Has.w rfl h))) ?_
  refine R_nil ?_
  refine T_cond (Has.t rfl) (fun hb => ?_) (fun hb => ?_)
  · refine T_seq ?_
    refine T_region ?_
    refine R_op rfl rfl rfl (op_call Tryz.call15 c_awake trivial) ?_
    refine R_op rfl rfl rfl (op_assign (Has.t rfl)) ?_
    refine R_nil ?_
    exact T_ret1 rfl (rv_tmp rfl)
  · have hf : fewB z s c = true ∧ fewB z2 s2 c2 = true := by simpa using hb
    obtain ⟨hf1, hf2⟩ := hf
    obtain ⟨m1, m2, m3⟩ := md_shape (z := z) (s := s) (c := c)
    obtain ⟨m4, m5, m6⟩ := md_fit (z := z) (s := s) (c := c)
    obtain ⟨n1, n2, n3⟩ := md_shape (z := z2) (s := s2) (c := c2)
    obtain ⟨n4, n5, n6⟩ := md_fit (z := z2) (s := s2) (c := c2)
    have hcl := m2.1
    have hcl2 := n2.1
    have hch : Shp (mdC z s c) (mdC z s c).length (mdC z s c).length := by rw [hcl]; exact m2
    refine T_skip ?_
    refine T_seq ?_
    refine T_region ?_
    refine R_op rfl rfl rfl (op_ldBA Tryz.isAgg25 Tryz.sizeOf25 (Has.t rfl) (i := 0) rfl rfl rfl) ?_
    refine R_op rfl rfl rfl (op_call Tryz.call16 (c_made hf1) ⟨(Has.t rfl), trivial⟩) ?_
    refine R_op rfl rfl rfl (op_move (Has.t rfl)) ?_
    refine R_op rfl rfl rfl (op_extract (Has.t rfl) rfl) ?_
    refine R_op rfl rfl rfl (op_extract (Has.t rfl) rfl) ?_
    refine R_op rfl rfl rfl (op_extract (Has.t rfl) rfl) ?_
    refine R_new rfl rfl rfl (new_alloc (Ts := [Is (.slice none 0 0), Is (.slice none 0 0), Is (.slice none 0 0)]) Tryz.zeroValue35 rfl (fun V => Cells.cons' ⟨rfl, trivial⟩ (Cells.cons' ⟨rfl, trivial⟩ (Cells.cons' ⟨rfl, trivial⟩ (Cells.nil))))) (fun B9 => ?_)
    refine R_new rfl rfl rfl (new_alloc (Ts := [Is (.slice none 0 0), Is (.slice none 0 0), Is (.slice none 0 0)]) Tryz.zeroValue41 rfl (fun V => Cells.cons' ⟨rfl, trivial⟩ (Cells.cons' ⟨rfl, trivial⟩ (Cells.cons' ⟨rfl, trivial⟩ (Cells.nil))))) (fun B10 => ?_)
    refine R_stA Tryz.sizeOf35 (Has.t rfl) (Has.t rfl) rfl (i := 2) rfl (Nat.le_of_ble_eq_true rfl) rfl rfl ?_
    refine R_stA Tryz.sizeOf41 (Has.t rfl) (Has.t rfl) rfl (i := 3) rfl (Nat.le_of_ble_eq_true rfl) rfl rfl ?_
    refine R_op rfl rfl rfl (op_assign (Has.t rfl)) ?_
    refine R_nil ?_
    refine T_seq ?_
    refine T_region ?_
    refine R_op rfl rfl rfl (op_ldBA Tryz.isAgg25 Tryz.sizeOf25 (Has.t rfl) (i := 1) rfl rfl rfl) ?_
    refine R_op rfl rfl rfl (op_call Tryz.call16 (c_made hf2) ⟨(Has.t rfl), trivial⟩) ?_
    refine R_op rfl rfl rfl (op_move (Has.t rfl)) ?_
    refine R_op rfl rfl rfl (op_extract (Has.t rfl) rfl) ?_
    refine R_op rfl rfl rfl (op_extract (Has.t rfl) rfl) ?_
    refine R_op rfl rfl rfl (op_extract (Has.t rfl) rfl) ?_
    refine R_new rfl rfl rfl (new_alloc (Ts := [Is (.slice none 0 0), Is (.slice none 0 0), Is (.slice none 0 0)]) Tryz.zeroValue35 rfl (fun V => Cells.cons' ⟨rfl, trivial⟩ (Cells.cons' ⟨rfl, trivial⟩ (Cells.cons' ⟨rfl, trivial⟩ (Cells.nil))))) (fun B12 => ?_)
    refine R_new rfl rfl rfl (new_alloc (Ts := [Is (.slice none 0 0), Is (.slice none 0 0), Is (.slice none 0 0)]) Tryz.zeroValue41 rfl (fun V => Cells.cons' ⟨rfl, trivial⟩ (Cells.cons' ⟨rfl, trivial⟩ (Cells.cons' ⟨rfl, trivial⟩ (Cells.nil))))) (fun B13 => ?_)
    refine R_stA Tryz.sizeOf35 (Has.t rfl) (Has.t rfl) rfl (i := 4) rfl (Nat.le_of_ble_eq_true rfl) rfl rfl ?_
    refine R_stA Tryz.sizeOf41 (Has.t rfl) (Has.t rfl) rfl (i := 5) rfl (Nat.le_of_ble_eq_true rfl) rfl rfl ?_
    refine R_op rfl rfl rfl (op_assign (Has.t rfl)) ?_
    refine R_nil ?_
    refine T_seq ?_
    refine T_seq ?_
    refine T_region ?_
    refine R_op rfl rfl rfl (op_move (Has.t rfl)) ?_
    refine R_op rfl rfl rfl (op_not (Has.t rfl)) ?_
    refine R_op rfl rfl rfl (op_move (Has.t rfl)) ?_
    refine R_step rfl rfl (S_when rfl rfl (Has.t rfl) (fun h => op_move (Has.t rfl))) ?_
    refine R_step rfl rfl (S_when rfl rfl (Has.t rfl) (fun h => op_not (Has.w rfl h))) ?_
    refine R_op rfl rfl rfl (op_or (Has.t rfl) (fun h => (Has.w rfl h))) ?_
    refine R_op rfl rfl rfl (op_move (Has.t rfl)) ?_
    refine R_step rfl rfl (S_when rfl rfl (Has.t rfl) (fun h => op_ldBA Tryz.isAgg35 Tryz.sizeOf35 (Has.t rfl) (i := 2) rfl rfl rfl)) ?_
    refine R_step rfl rfl (S_when rfl rfl (Has.t rfl) (fun h => op_ldBA Tryz.isAgg41 Tryz.sizeOf41 (Has.t rfl) (i := 3) rfl rfl rfl)) ?_
    refine R_step rfl rfl (S_when rfl rfl (Has.t rfl) (fun h => op_call Tryz.call25 (c_is5 m4 m5 m6 (by decide) (by decide) m1 m2 (by omega)) ⟨(Has.w rfl h), (Has.w rfl h), trivial⟩)) ?_
    refine R_step rfl rfl (S_when rfl rfl (Has.t rfl) (fun h => op_not (Has.w rfl h))) ?_
    refine R_op rfl rfl rfl (op_or (Has.t rfl) (fun h => (Has.w rfl h))) ?_
    refine R_op rfl rfl rfl (op_move (Has.t rfl)) ?_
    refine R_step rfl rfl (S_when rfl rfl (Has.t rfl) (fun h => op_ldBA Tryz.isAgg35 Tryz.sizeOf35 (Has.t rfl) (i := 4) rfl rfl rfl)) ?_
    refine R_step rfl rfl (S_when rfl rfl (Has.t rfl) (fun h => op_ldBA Tryz.isAgg41 Tryz.sizeOf41 (Has.t rfl) (i := 5) rfl rfl rfl)) ?_
    refine R_step rfl rfl (S_when rfl rfl (Has.t rfl) (fun h => op_call Tryz.call25 (c_is5 n4 n5 n6 (by decide) (by decide) n1 n2 (by omega)) ⟨(Has.w rfl h), (Has.w rfl h), trivial⟩)) ?_
    refine R_step rfl rfl (S_when rfl rfl (Has.t rfl) (fun h => op_not (Has.w rfl h))) ?_
    refine R_op rfl rfl rfl (op_or (Has.t rfl) (fun h => (Has.w rfl h))) ?_
    refine R_nil ?_
    refine T_condF (Has.t rfl) (by simp) ?_
    refine T_skip ?_
    refine T_seq ?_
    refine T_region ?_
    refine R_op rfl rfl rfl (op_ldBA Tryz.isAgg35 Tryz.sizeOf35 (Has.t rfl) (i := 2) rfl rfl rfl) ?_
    refine R_op rfl rfl rfl (op_move (Has.t rfl)) ?_
    refine R_op rfl rfl rfl (op_move (Has.t rfl)) ?_
    refine R_op rfl rfl rfl (op_call Tryz.call37 (c_noiAt hch (by omega)) ⟨(Has.t rfl), (Has.t rfl), (Has.t rfl), trivial⟩) ?_
    refine R_op rfl rfl rfl (op_move (Has.t rfl)) ?_
    refine R_op rfl rfl rfl (op_extract (Has.t rfl) rfl) ?_
    refine R_op rfl rfl rfl (op_extract (Has.t rfl) rfl) ?_
    refine R_new rfl rfl rfl (new_alloc (Ts := [Is (.bool false), Is (.slice none 0 0), Is (.bool false), Is (.slice none 0 0), Is (.slice none 0 0)]) Tryz.zeroValue49 rfl (fun V => Cells.cons' ⟨rfl, trivial⟩ (Cells.cons' ⟨rfl, trivial⟩ (Cells.cons' ⟨rfl, trivial⟩ (Cells.cons' ⟨rfl, trivial⟩ (Cells.cons' ⟨rfl, trivial⟩ (Cells.nil))))))) (fun B15 => ?_)
    refine R_stA Tryz.sizeOf49 (Has.t rfl) (Has.t rfl) rfl (i := 6) rfl (Nat.le_of_ble_eq_true rfl) rfl rfl ?_
    refine R_op rfl rfl rfl (op_assign (Has.t rfl)) ?_
    refine R_nil ?_
    refine T_seq ?_
    refine T_seq ?_
    refine T_region ?_
    refine R_op rfl rfl rfl (op_move (Has.t rfl)) ?_
    refine R_op rfl rfl rfl (op_eql (Has.t rfl) Has.c) ?_
    refine R_op rfl rfl rfl (op_fldB fa_41_0 (Has.t rfl) rfl) ?_
    refine R_op rfl rfl rfl (op_ldBA Tryz.isAgg39 Tryz.sizeOf39 (Has.t rfl) (i := 3) rfl rfl rfl) ?_
    refine R_op rfl rfl rfl (op_move (Has.t rfl)) ?_
    refine R_op rfl rfl rfl (op_call Tryz.call38 c_rHas ⟨(Has.t rfl), (Has.t rfl), trivial⟩) ?_
    refine R_op rfl rfl rfl (op_move (Has.t rfl)) ?_
    refine R_step rfl rfl (S_whenU rfl rfl (Has.t rfl) (fun h => op_fldB fa_41_0 (Has.t rfl) rfl)) ?_
    refine R_step rfl rfl (S_whenU rfl rfl (Has.t rfl) (fun h => op_ldBA Tryz.isAgg39 Tryz.sizeOf39 (Has.wu rfl h) (i := 3) rfl rfl rfl)) ?_
    refine R_step rfl rfl (S_whenU rfl rfl (Has.t rfl) (fun h => op_move (Has.t rfl))) ?_
    refine R_step rfl rfl (S_whenU rfl rfl (Has.t rfl) (fun h => op_call Tryz.call38 c_rHas ⟨(Has.wu rfl h), (Has.wu rfl h), trivial⟩)) ?_
    refine R_op rfl rfl rfl (op_and (Has.t rfl) (fun h => (Has.wu rfl h))) ?_
    refine R_op rfl rfl rfl (op_bne Tryz.runUnderlying4 (Has.t rfl) (Has.t rfl)) ?_
    refine R_op rfl rfl rfl (op_move (Has.t rfl)) ?_
    refine R_step rfl rfl (S_whenU rfl rfl (Has.t rfl) (fun h => op_move (Has.t rfl))) ?_
    refine R_step rfl rfl (S_whenU rfl rfl (Has.t rfl) (fun h => op_neq (Has.wu rfl h) Has.c)) ?_
    refine R_step rfl rfl (S_whenU rfl rfl (Has.t rfl) (fun h => op_move (Has.wu rfl h))) ?_
    refine R_step rfl rfl (S_when2 rfl rfl rfl (fun h h2 => op_move (Has.t rfl))) ?_
    refine R_step rfl rfl (S_when2 rfl rfl rfl (fun h h2 => op_neq (Has.wu rfl ⟨h, h2⟩) Has.c)) ?_
    refine R_step rfl rfl (S_whenU rfl rfl (Has.t rfl) (fun h => op_and (Has.wu rfl h) (fun h2 => (Has.wu rfl ⟨h, h2⟩)))) ?_
    refine R_op rfl rfl rfl (op_or (Has.t rfl) (fun h => (Has.wu rfl h))) ?_
    refine R_nil ?_
    refine T_condF (Has.t rfl) (by rw [hcl]; by_cases p : 1 ≤ i ∧ i ≤ ((mdZ z s c).length : Int) <;> by_cases q : 1 ≤ j ∧ j ≤ ((mdZ z s c).length : Int) <;> simp [p, q]) ?_
    refine T_skip ?_
    refine T_seq ?_
    refine T_region ?_
    refine R_op rfl rfl rfl (op_fldB fa_41_0 (Has.t rfl) rfl) ?_
    refine R_op rfl rfl rfl (op_ldBA Tryz.isAgg39 Tryz.sizeOf39 (Has.t rfl) (i := 3) rfl rfl rfl) ?_
    refine R_op rfl rfl rfl (op_fldB fa_41_0 (Has.t rfl) rfl) ?_
    refine R_op rfl rfl rfl (op_ldBA Tryz.isAgg39 Tryz.sizeOf39 (Has.t rfl) (i := 5) rfl rfl rfl) ?_
    refine R_op rfl rfl rfl (op_call Tryz.call39 (c_rEqual m4 n4 m5 n5 (by decide) (by decide) m1 n1 (by omega) (by omega)) ⟨(Has.t rfl), (Has.t rfl), trivial⟩) ?_
    refine R_op rfl rfl rfl (op_move (Has.t rfl)) ?_
    refine R_step rfl rfl (S_when rfl rfl (Has.t rfl) (fun h => op_fldB fa_41_1 (Has.t rfl) rfl)) ?_
    refine R_step rfl rfl (S_when rfl rfl (Has.t rfl) (fun h => op_ldB Tryz.isAgg37 Tryz.sizeOf37 (Has.w rfl h) (i := 3) rfl rfl)) ?_
    refine R_step rfl rfl (S_when rfl rfl (Has.t rfl) (fun h => op_len Tryz.runUnderlying37 (Has.w rfl h) len_map)) ?_
    refine R_step rfl rfl (S_when rfl rfl (Has.t rfl) (fun h => op_fldB fa_41_1 (Has.t rfl) rfl)) ?_
    refine R_step rfl rfl (S_when rfl rfl (Has.t rfl) (fun h => op_ldB Tryz.isAgg37 Tryz.sizeOf37 (Has.w rfl h) (i := 5) rfl rfl)) ?_
    refine R_step rfl rfl (S_when rfl rfl (Has.t rfl) (fun h => op_len Tryz.runUnderlying37 (Has.w rfl h) len_map)) ?_
    refine R_step rfl rfl (S_when rfl rfl (Has.t rfl) (fun h => op_eqlN (Has.w rfl h) (Has.w rfl h))) ?_
    refine R_op rfl rfl rfl (op_and (Has.t rfl) (fun h => (Has.w rfl h))) ?_
    refine R_op rfl rfl rfl (op_assign (Has.t rfl)) ?_
    refine R_nil ?_
    refine T_seq ?_
    refine T_seq ?_
    refine T_region ?_
    refine R_op rfl rfl rfl (op_fldB fa_41_1 (Has.t rfl) rfl) ?_
    refine R_op rfl rfl rfl (op_ldB Tryz.isAgg37 Tryz.sizeOf37 (Has.t rfl) (i := 3) rfl rfl) ?_
    refine R_op rfl rfl rfl (op_len Tryz.runUnderlying37 (Has.t rfl) len_map) ?_
    refine R_op rfl rfl rfl (op_move (Has.cN 0)) ?_
    refine R_nil ?_
    refine T_block ?_
    refine T_keep [2, 3, 4, 5] rfl (by decide) ?_
    obtain ⟨E, hE⟩ : ∃ E, E = (netEq (mdZ z s c) (mdZ z2 s2 c2) (mdS z s c) (mdS z2 s2 c2) && decide ((mdC z s c).length = (mdC z2 s2 c2).length)) := ⟨_, rfl⟩
    have hE1 : E = true → (mdC z2 s2 c2).length = (mdC z s c).length := fun h => by rw [hE] at h; simp at h; exact h.2.symm
    have hE2 : E = true → (mdZ z2 s2 c2).length = (mdZ z s c).length := fun h => by rw [hE] at h; simp at h; rw [(netEq_true h.1).1]
    refine T_loop (fun (k : Nat) => k ≤ (mdZ z s c).length) (fun (k : Nat) => (mdZ z s c).length - k) (fun (k : Nat) => [(9, PtrB B9 0), (10, PtrB B10 0), (12, PtrB B12 0), (13, PtrB B13 0), (17, BoolT (soFar E (mdC z s c) (mdC z2 s2 c2) k)), (105, NT .i64 (mdZ z s c).length), (106, NT .i64 k)]) (fun (k : Nat) => [box B9 35 [NumsT (mdZ z s c), NumM (mdS z s c), NumM (mdC z s c)], box B10 41 [QsT (mdZ z s c), QM (mdS z s c), QM (mdC z s c)], box B12 35 [NumsT (mdZ z2 s2 c2), NumM (mdS z2 s2 c2), NumM (mdC z2 s2 c2)], box B13 41 [QsT (mdZ z2 s2 c2), QM (mdS z2 s2 c2), QM (mdC z2 s2 c2)]]) 0 (Nat.zero_le _)
      (Sub.cons rfl (Sub.cons rfl (Sub.cons rfl (Sub.cons rfl (Sub.to rfl (bool_of (hE.symm.trans (soFar_zero _ _ _))) (Sub.to rfl (nt_of hcl) (Sub.cons rfl Sub.nil))))))) (HSub.refl _) (fun k hk => ?_)
    refine T_seq ?_
    refine T_region ?_
    refine R_op rfl rfl rfl (op_lssN (Has.t rfl) (Has.t rfl)) ?_
    refine R_nil ?_
    refine T_seq ?_
    refine T_cond (Has.t rfl) (fun hd => ?_) (fun hd => ?_)
    · simp only [decide_eq_true_eq] at hd
      have hrl := m2.row hd
      have hrl2 : soFar E (mdC z s c) (mdC z2 s2 c2) k = true → ((mdC z2 s2 c2).getD k []).length = (mdZ z s c).length := fun h => by have h1 := hE2 (soFar_E h); rw [n2.row (by omega)]; exact h1
      refine T_skip ?_
      refine T_seq ?_
      refine T_block ?_
      refine T_seq ?_
      refine T_region ?_
      refine R_op rfl rfl rfl (op_move (Has.t rfl)) ?_
      refine R_op rfl rfl rfl (op_assign (Has.t rfl)) ?_
      refine R_nil ?_
      refine T_seq ?_
      refine T_region ?_
      refine R_op rfl rfl rfl (op_fldB fa_41_1 (Has.t rfl) rfl) ?_
      refine R_op rfl rfl rfl (op_ldB Tryz.isAgg37 Tryz.sizeOf37 (Has.t rfl) (i := 1) rfl rfl) ?_
      refine R_op rfl rfl rfl (op_move (Has.t rfl)) ?_
      refine R_op rfl rfl rfl (op_idx Tryz.runUnderlying37 Tryz.sizeOf36 (Has.t rfl) (Has.t rfl) rfl (map_get (getD_some (d := []) (by omega)))) ?_
      refine R_op rfl rfl rfl (op_ld Tryz.isAgg36 Tryz.sizeOf36 (Has.t rfl)) ?_
      refine R_op rfl rfl rfl (op_len Tryz.runUnderlying36 (Has.t rfl) len_map) ?_
      refine R_op rfl rfl rfl (op_move (Has.cN 0)) ?_
      refine R_nil ?_
      refine T_block ?_
      refine T_loop (fun (l : Nat) => l ≤ (mdZ z s c).length) (fun (l : Nat) => (mdZ z s c).length - l) (fun (l : Nat) => [(9, PtrB B9 0), (10, PtrB B10 0), (12, PtrB B12 0), (13, PtrB B13 0), (17, BoolT (soFar (soFar E (mdC z s c) (mdC z2 s2 c2) k) ((mdC z s c).getD k []) ((mdC z2 s2 c2).getD k []) l)), (18, NT .i64 k), (105, NT .i64 (mdZ z s c).length), (106, NT .i64 k), (114, NT .i64 (mdZ z s c).length), (115, NT .i64 l)]) (fun (l : Nat) => [box B9 35 [NumsT (mdZ z s c), NumM (mdS z s c), NumM (mdC z s c)], box B10 41 [QsT (mdZ z s c), QM (mdS z s c), QM (mdC z s c)], box B12 35 [NumsT (mdZ z2 s2 c2), NumM (mdS z2 s2 c2), NumM (mdC z2 s2 c2)], box B13 41 [QsT (mdZ z2 s2 c2), QM (mdS z2 s2 c2), QM (mdC z2 s2 c2)]]) 0 (Nat.zero_le _)
        (Sub.cons rfl (Sub.cons rfl (Sub.cons rfl (Sub.cons rfl (Sub.to rfl (bool_of (soFar_zero _ _ _)) (Sub.cons rfl (Sub.cons rfl (Sub.cons rfl (Sub.to rfl (nt_of hrl) (Sub.cons rfl Sub.nil)))))))))) (HSub.refl _) (fun l hl => ?_)
      refine T_seq ?_
      refine T_region ?_
      refine R_op rfl rfl rfl (op_lssN (Has.t rfl) (Has.t rfl)) ?_
      refine R_nil ?_
      refine T_seq ?_
      refine T_cond (Has.t rfl) (fun hg => ?_) (fun hg => ?_)
      · simp only [decide_eq_true_eq] at hg
        haveI f1 : FitC (gm (mdC z s c) k l) 2 := m6.get (by decide) k l
        haveI f2 : FitC (gm (mdC z2 s2 c2) k l) 2 := n6.get (by decide) k l
        refine T_skip ?_
        refine T_seq ?_
        refine T_block ?_
        refine T_seq ?_
        refine T_region ?_
        refine R_op rfl rfl rfl (op_move (Has.t rfl)) ?_
        refine R_op rfl rfl rfl (op_assign (Has.t rfl)) ?_
        refine R_nil ?_
        refine D_start (m := 18) ?_
        refine D_step (Ei := [(17, _)]) rfl rfl (Srcs.cons (Src.pre rfl rfl) Srcs.nil) (S_plain rfl (op_move (Has.t rfl))) ?_
        refine D_step (Ei := [(118, _)]) rfl rfl (Srcs.cons (Src.op 0 rfl rfl) Srcs.nil) (S_plain rfl (op_move (Has.t rfl))) ?_
        refine D_step (Ei := [(10, _), (119, _)]) rfl rfl (Srcs.cons (Src.pre rfl rfl) (Srcs.cons (Src.op 1 rfl rfl) Srcs.nil)) (S_when rfl rfl (Has.t rfl) (fun h => op_fldB fa_41_1 (Has.t rfl) rfl)) ?_
        refine D_step (Ei := [(120, _), (119, _)]) rfl rfl (Srcs.cons (Src.op 2 rfl rfl) (Srcs.cons (Src.op 1 rfl rfl) Srcs.nil)) (S_when rfl rfl (Has.t rfl) (fun h => op_ldB Tryz.isAgg37 Tryz.sizeOf37 (Has.w rfl h) (i := 1) rfl rfl)) ?_
        refine D_step (Ei := [(18, _), (119, _)]) rfl rfl (Srcs.cons (Src.pre rfl rfl) (Srcs.cons (Src.op 1 rfl rfl) Srcs.nil)) (S_when rfl rfl (Has.t rfl) (fun h => op_move (Has.t rfl))) ?_
        refine D_step (Ei := [(121, _), (122, _), (119, _)]) rfl rfl (Srcs.cons (Src.op 3 rfl rfl) (Srcs.cons (Src.op 4 rfl rfl) (Srcs.cons (Src.op 1 rfl rfl) Srcs.nil))) (S_when rfl rfl (Has.t rfl) (fun h => op_idx Tryz.runUnderlying37 Tryz.sizeOf36 (Has.w rfl h) (Has.w rfl h) rfl (map_get (getD_some (d := []) (by omega))))) ?_
        refine D_step (Ei := [(123, _), (119, _)]) rfl rfl (Srcs.cons (Src.op 5 rfl rfl) (Srcs.cons (Src.op 1 rfl rfl) Srcs.nil)) (S_when rfl rfl (Has.t rfl) (fun h => op_ld Tryz.isAgg36 Tryz.sizeOf36 (Has.w rfl h))) ?_
        refine D_step (Ei := [(19, _), (119, _)]) rfl rfl (Srcs.cons (Src.pre rfl rfl) (Srcs.cons (Src.op 1 rfl rfl) Srcs.nil)) (S_when rfl rfl (Has.t rfl) (fun h => op_move (Has.t rfl))) ?_
        refine D_step (Ei := [(124, _), (125, _), (119, _)]) rfl rfl (Srcs.cons (Src.op 6 rfl rfl) (Srcs.cons (Src.op 7 rfl rfl) (Srcs.cons (Src.op 1 rfl rfl) Srcs.nil))) (S_when rfl rfl (Has.t rfl) (fun h => op_idx Tryz.runUnderlying36 Tryz.sizeOf57 (Has.w rfl h) (Has.w rfl h) rfl (map_get (getD_some (d := Qi.zero) (by omega))))) ?_
        refine D_step (Ei := [(126, _), (119, _)]) rfl rfl (Srcs.cons (Src.op 8 rfl rfl) (Srcs.cons (Src.op 1 rfl rfl) Srcs.nil)) (S_when rfl rfl (Has.t rfl) (fun h => op_ld Tryz.isAgg57 Tryz.sizeOf57 (Has.w rfl h))) ?_
        refine D_step (Ei := [(13, _), (119, _)]) rfl rfl (Srcs.cons (Src.pre rfl rfl) (Srcs.cons (Src.op 1 rfl rfl) Srcs.nil)) (S_when rfl rfl (Has.t rfl) (fun h => op_fldB fa_41_1 (Has.t rfl) rfl)) ?_
        refine D_step (Ei := [(128, _), (119, _)]) rfl rfl (Srcs.cons (Src.op 10 rfl rfl) (Srcs.cons (Src.op 1 rfl rfl) Srcs.nil)) (S_when rfl rfl (Has.t rfl) (fun h => op_ldB Tryz.isAgg37 Tryz.sizeOf37 (Has.w rfl h) (i := 3) rfl rfl)) ?_
        refine D_step (Ei := [(18, _), (119, _)]) rfl rfl (Srcs.cons (Src.pre rfl rfl) (Srcs.cons (Src.op 1 rfl rfl) Srcs.nil)) (S_when rfl rfl (Has.t rfl) (fun h => op_move (Has.t rfl))) ?_
        refine D_step (Ei := [(129, _), (130, _), (119, _)]) rfl rfl (Srcs.cons (Src.op 11 rfl rfl) (Srcs.cons (Src.op 12 rfl rfl) (Srcs.cons (Src.op 1 rfl rfl) Srcs.nil))) (S_when rfl rfl (Has.t rfl) (fun h => op_idx Tryz.runUnderlying37 Tryz.sizeOf36 (Has.w rfl h) (Has.w rfl h) rfl (map_get (getD_some (d := []) (by have h1 := hE1 (soFar_E (soFar_E h)); omega))))) ?_
        refine D_step (Ei := [(131, _), (119, _)]) rfl rfl (Srcs.cons (Src.op 13 rfl rfl) (Srcs.cons (Src.op 1 rfl rfl) Srcs.nil)) (S_when rfl rfl (Has.t rfl) (fun h => op_ld Tryz.isAgg36 Tryz.sizeOf36 (Has.w rfl h))) ?_
        refine D_step (Ei := [(19, _), (119, _)]) rfl rfl (Srcs.cons (Src.pre rfl rfl) (Srcs.cons (Src.op 1 rfl rfl) Srcs.nil)) (S_when rfl rfl (Has.t rfl) (fun h => op_move (Has.t rfl))) ?_
        refine D_step (Ei := [(132, _), (133, _), (119, _)]) rfl rfl (Srcs.cons (Src.op 14 rfl rfl) (Srcs.cons (Src.op 15 rfl rfl) (Srcs.cons (Src.op 1 rfl rfl) Srcs.nil))) (S_when rfl rfl (Has.t rfl) (fun h => op_idx Tryz.runUnderlying36 Tryz.sizeOf57 (Has.w rfl h) (Has.w rfl h) rfl (map_get (getD_some (d := Qi.zero) (by have h1 := hrl2 (soFar_E h); omega))))) ?_
        refine D_step (Ei := [(134, _), (119, _)]) rfl rfl (Srcs.cons (Src.op 16 rfl rfl) (Srcs.cons (Src.op 1 rfl rfl) Srcs.nil)) (S_when rfl rfl (Has.t rfl) (fun h => op_ld Tryz.isAgg57 Tryz.sizeOf57 (Has.w rfl h))) ?_
        refine D_done mixed rfl (by kernel_rfl) (F_val (F_val (F_val (F_val (F_val (F_val (F_val (F_val (F_val (F_val (F_val (F_val (F_val (F_val (F_val (F_val (F_val (F_val (F_nil ?_)))))))))))))))))))
        refine R_step rfl rfl (S_when rfl rfl (Has.t rfl) (fun h => op_call Tryz.call40 (c_rSame (x := gm (mdC z s c) k l) (y := gm (mdC z2 s2 c2) k l) (L := 2) (M := 2) (by decide) (by decide)) ⟨(Has.w rfl h), (Has.w rfl h), trivial⟩)) ?_
        refine R_op rfl rfl rfl (op_and (Has.t rfl) (fun h => (Has.w rfl h))) ?_
        refine R_op rfl rfl rfl (op_assign (Has.t rfl)) ?_
        refine R_nil ?_
        refine T_blk ?_
        refine T_region ?_
        refine R_op rfl rfl rfl (op_addN (Has.t rfl) (Has.cN 1) (by show _ < 9223372036854775808; first | omega | (simp only [lim]; omega))) ?_
        refine R_op rfl rfl rfl (op_move (Has.t rfl)) ?_
        refine R_nil ?_
        refine T_again (l + 1) hg (by omega) (Sub.cons rfl (Sub.cons rfl (Sub.cons rfl (Sub.cons rfl (Sub.to rfl (bool_of (soFar_next (d := Qi.zero) (by omega) (fun h => by have h1 := hrl2 h; omega))) (Sub.cons rfl (Sub.cons rfl (Sub.cons rfl (Sub.cons rfl (Sub.cons rfl Sub.nil)))))))))) (HSub.refl _)
      · simp only [decide_eq_false_iff_not] at hg
        obtain rfl : l = (mdZ z s c).length := Nat.le_antisymm hl (by omega)
        refine T_exit rfl ?_
        refine T_blk ?_
        refine T_region ?_
        refine R_op rfl rfl rfl (op_addN (Has.t rfl) (Has.cN 1) (by show _ < 9223372036854775808; first | omega | (simp only [lim]; omega))) ?_
        refine R_op rfl rfl rfl (op_move (Has.t rfl)) ?_
        refine R_nil ?_
        refine T_again (k + 1) hd (by omega) (Sub.cons rfl (Sub.cons rfl (Sub.cons rfl (Sub.cons rfl (Sub.to rfl (bool_of ((soFar_fin hrl hrl2).trans (soFar_next (d := []) (by omega) (fun h => by have h1 := hE1 h; omega)))) (Sub.cons rfl (Sub.cons rfl Sub.nil))))))) (HSub.refl _)
    · simp only [decide_eq_false_iff_not] at hd
      obtain rfl : k = (mdZ z s c).length := Nat.le_antisymm hk (by omega)
      have hfin := soFar_fin (E := E) (m := (mdC z2 s2 c2)) hcl (fun h => (hE1 h).trans hcl)
      refine T_exit rfl ?_
      refine T_seq ?_
      refine T_region ?_
      refine R_op rfl rfl rfl (op_ldBA Tryz.isAgg35 Tryz.sizeOf35 (Has.t rfl) (i := 0) rfl rfl rfl) ?_
      refine R_op rfl rfl rfl (op_call Tryz.call23 c_noiNet ⟨(Has.t rfl), trivial⟩) ?_
      refine R_op rfl rfl rfl (op_call Tryz.call26 (c_Quiet (by omega)) ⟨(Has.t rfl), trivial⟩) ?_
      refine R_new rfl rfl rfl (new_alloc (Ts := [Is (.slice none 0 0), Is (.slice none 0 0), Is (.slice none 0 0)]) Tryz.zeroValue35 rfl (fun V => Cells.cons' ⟨rfl, trivial⟩ (Cells.cons' ⟨rfl, trivial⟩ (Cells.cons' ⟨rfl, trivial⟩ (Cells.nil))))) (fun B20 => ?_)
      refine R_stA Tryz.sizeOf35 (Has.t rfl) (Has.t rfl) rfl (i := 4) rfl (Nat.le_of_ble_eq_true rfl) rfl rfl ?_
      refine R_nil ?_
      refine T_seq ?_
      refine D_start (m := 11) ?_
      refine D_step (Ei := [(10, _)]) rfl rfl (Srcs.cons (Src.pre rfl rfl) Srcs.nil) (S_plain rfl (op_fldB fa_41_0 (Has.t rfl) rfl)) ?_
      refine D_step (Ei := [(143, _)]) rfl rfl (Srcs.cons (Src.op 0 rfl rfl) Srcs.nil) (S_plain rfl (op_ldBA Tryz.isAgg39 Tryz.sizeOf39 (Has.t rfl) (i := 1) rfl rfl rfl)) ?_
      refine D_step (Ei := [(10, _)]) rfl rfl (Srcs.cons (Src.pre rfl rfl) Srcs.nil) (S_plain rfl (op_fldB fa_41_1 (Has.t rfl) rfl)) ?_
      refine D_step (Ei := [(145, _)]) rfl rfl (Srcs.cons (Src.op 2 rfl rfl) Srcs.nil) (S_plain rfl (op_ldB Tryz.isAgg37 Tryz.sizeOf37 (Has.t rfl) (i := 1) rfl rfl)) ?_
      refine D_step (Ei := [(146, _)]) rfl rfl (Srcs.cons (Src.op 3 rfl rfl) Srcs.nil) (S_plain rfl (op_len Tryz.runUnderlying37 (Has.t rfl) len_map)) ?_
      refine D_step (Ei := [(10, _)]) rfl rfl (Srcs.cons (Src.pre rfl rfl) Srcs.nil) (S_plain rfl (op_fldB fa_41_1 (Has.t rfl) rfl)) ?_
      refine D_step (Ei := [(148, _)]) rfl rfl (Srcs.cons (Src.op 5 rfl rfl) Srcs.nil) (S_plain rfl (op_ldB Tryz.isAgg37 Tryz.sizeOf37 (Has.t rfl) (i := 1) rfl rfl)) ?_
      refine D_step (Ei := [(149, _)]) rfl rfl (Srcs.cons (Src.op 6 rfl rfl) Srcs.nil) (S_plain rfl (op_len Tryz.runUnderlying37 (Has.t rfl) len_map)) ?_
      refine D_step (Ei := [(147, _), (150, _)]) rfl rfl (Srcs.cons (Src.op 4 rfl rfl) (Srcs.cons (Src.op 7 rfl rfl) Srcs.nil)) (S_plain rfl (op_call Tryz.call41 (Fun.imp (c_rZeros (n := (mdC z s c).length) (by omega)) (slT_of (by rw [hcl]))) ⟨(Has.t rfl), (Has.t rfl), trivial⟩)) ?_
      refine D_step (Ei := [(144, _), (151, _)]) rfl rfl (Srcs.cons (Src.op 1 rfl rfl) (Srcs.cons (Src.op 8 rfl rfl) Srcs.nil)) (S_plain rfl (bld_41_0_1 (Has.t rfl) (Has.t rfl))) ?_
      refine D_new (Ei := []) rfl rfl rfl Srcs.nil (new_alloc (Ts := [Is (.slice none 0 0), Is (.slice none 0 0), Is (.slice none 0 0)]) Tryz.zeroValue41 rfl (fun V => Cells.cons' ⟨rfl, trivial⟩ (Cells.cons' ⟨rfl, trivial⟩ (Cells.cons' ⟨rfl, trivial⟩ (Cells.nil))))) ?_
      refine D_done mixed rfl (by kernel_rfl) (F_val (F_val (F_val (F_val (F_val (F_val (F_val (F_val (F_val (F_val (F_new (fun B21 => F_nil ?_))))))))))))
      refine R_stA Tryz.sizeOf41 (Has.t rfl) (Has.t rfl) rfl (i := 5) rfl (Nat.le_of_ble_eq_true rfl) rfl rfl ?_
      refine R_nil ?_
      refine T_seq ?_
      refine T_region ?_
      refine R_op rfl rfl rfl (op_ldBA Tryz.isAgg35 Tryz.sizeOf35 (Has.t rfl) (i := 0) rfl rfl rfl) ?_
      refine R_op rfl rfl rfl (op_ldBA Tryz.isAgg35 Tryz.sizeOf35 (Has.t rfl) (i := 2) rfl rfl rfl) ?_
      refine R_op rfl rfl rfl (op_call Tryz.call42 (c_noiEqual m4 n4 m5 n5 (by decide) (by decide) m1 n1 (by omega) (by omega) m6 n6 m2 n2) ⟨(Has.t rfl), (Has.t rfl), trivial⟩) ?_
      refine R_op rfl rfl rfl (op_move (Has.t rfl)) ?_
      refine R_op rfl rfl rfl (op_beq Tryz.runUnderlying4 (Has.t rfl) (Has.t rfl)) ?_
      refine R_op rfl rfl rfl (op_move (Has.t rfl)) ?_
      refine R_step rfl rfl (S_when rfl rfl (Has.t rfl) (fun h => op_ldBA Tryz.isAgg35 Tryz.sizeOf35 (Has.t rfl) (i := 0) rfl rfl rfl)) ?_
      refine R_step rfl rfl (S_when rfl rfl (Has.t rfl) (fun h => op_ldBA Tryz.isAgg35 Tryz.sizeOf35 (Has.t rfl) (i := 0) rfl rfl rfl)) ?_
      refine R_step rfl rfl (S_when rfl rfl (Has.t rfl) (fun h => op_call Tryz.call42 (c_noiEqual m4 m4 m5 m5 (by decide) (by decide) m1 m1 (by omega) (by omega) m6 m6 m2 m2) ⟨(Has.w rfl h), (Has.w rfl h), trivial⟩)) ?_
      refine R_op rfl rfl rfl (op_and (Has.t rfl) (fun h => (Has.w rfl h))) ?_
      refine R_op rfl rfl rfl (op_move (Has.t rfl)) ?_
      refine R_step rfl rfl (S_when rfl rfl (Has.t rfl) (fun h => op_ldBA Tryz.isAgg35 Tryz.sizeOf35 (Has.t rfl) (i := 4) rfl rfl rfl)) ?_
      refine R_step rfl rfl (S_when rfl rfl (Has.t rfl) (fun h => op_ldBA Tryz.isAgg41 Tryz.sizeOf41 (Has.t rfl) (i := 5) rfl rfl rfl)) ?_
      refine R_step rfl rfl (S_when rfl rfl (Has.t rfl) (fun h => op_call Tryz.call25 (c_is5 m4 m5 (zeroM_fit (by decide)) (by decide) (by decide) m1 (zeroM_shp _ _) (by omega)) ⟨(Has.w rfl h), (Has.w rfl h), trivial⟩)) ?_
      refine R_op rfl rfl rfl (op_and (Has.t rfl) (fun h => (Has.w rfl h))) ?_
      refine R_op rfl rfl rfl (op_move (Has.t rfl)) ?_
      refine R_step rfl rfl (S_when rfl rfl (Has.t rfl) (fun h => op_call Tryz.call15 c_awake trivial)) ?_
      refine R_op rfl rfl rfl (op_and (Has.t rfl) (fun h => (Has.w rfl h))) ?_
      refine R_op rfl rfl rfl (op_assign (Has.t rfl)) ?_
      refine R_nil ?_
      refine T_ret1 rfl (rv_to (rv_tmp rfl) ?_)
      exact (bool_of (by rw [hfin, hE, netEq_refl]; by_cases p : (mdC z s c) = (mdC z2 s2 c2) <;> simp [p]))
end Go.Proofs.YtppibhcfaahgpaaGreat
namespace Go.Proofs.YtppibhcfaahgpaaGreat
open Go Go.ChangeShapes Go.WideShapes Go.ChangeAt Go.RowKit
set_option maxRecDepth 100000 in
theorem lifted_noiseNets (os : Os) (started : os.Started) (H : Type) (enc : TypeId × Value → H) :
    ReturnsInHanded {} Tryz.checked os 7 .any (Rows.noiseNetsSpec.pre6 enc Tryz.prog Tryz.f7 Rows.noiseNetsRow.domain false) (Rows.noiseNetsSpec.post enc Tryz.prog Tryz.f7 false true false false) := by
  refine returnsInHanded_of_change (C := Tryz.checked) own started (by kernel_rfl) Tryz.func7
    (ChangeSpec.witness6 (enc := enc) (C := Tryz.checked) false ⟨#[], #[.agg #[.slice none 0 0, .slice none 0 0, .slice none 0 0], .agg #[.slice none 0 0, .slice none 0 0, .slice none 0 0], .int .i64 0, .int .i64 0], []⟩ 8 (by kernel_rfl) (by kernel_rfl) (by kernel_rfl) (by kernel_rfl)) ?_
  intro W base args ds gs before hval0 hW hcnd _
  have hval : ∀ (j : Nat) t v, Tryz.f7.params[j]? = some t → args[j]? = some v → Value.okWide Tryz.prog W .any base t v := hval0
  have hW' := hW
  obtain ⟨p, q, hA0, hV, rfl, hfz, hnd⟩ := hW
  have hA : DataW.TrodAll enc Tryz.prog W 0 (fun _ => true) true Tryz.f7.params.toList args.toList ds p := hA0
  rw [Tryz.params7] at hA hval
  obtain ⟨v0, vs0, d0, ds0, p0, q0, hargs, rfl, rfl, h0, r0⟩ := trodAll_cons hA
  obtain ⟨v1, vs1, d1, ds1, p1, q1, rfl, rfl, rfl, h1, r1⟩ := trodAll_cons r0
  obtain ⟨v2, vs2, d2, ds2, p2, q2, rfl, rfl, rfl, h2, r2⟩ := trodAll_cons r1
  obtain ⟨v3, vs3, d3, ds3, p3, q3, rfl, rfl, rfl, h3, r3⟩ := trodAll_cons r2
  obtain ⟨rfl, rfl, rfl⟩ := trodAll_nil r3
  obtain rfl : args = #[v0, v1, v2, v3] := by cases args; simp_all
  obtain ⟨rfl, rfl⟩ := trodVars_none hV
  have lt0 : ∀ x ∈ p0, x.block < W.heap.size := by obtain ⟨m, hm⟩ := h0; exact DataW.trod_lt m _ _ _ hm
  have lt1 : ∀ x ∈ p1, x.block < W.heap.size := by obtain ⟨m, hm⟩ := h1; exact DataW.trod_lt m _ _ _ hm
  have lt2 : ∀ x ∈ p2, x.block < W.heap.size := by obtain ⟨m, hm⟩ := h2; exact DataW.trod_lt m _ _ _ hm
  have lt3 : ∀ x ∈ p3, x.block < W.heap.size := by obtain ⟨m, hm⟩ := h3; exact DataW.trod_lt m _ _ _ hm
  obtain ⟨z, s, c, k0⟩ := trod_lawT (hval 0 25 v0 rfl rfl) h0
  obtain ⟨z2, s2, c2, k1⟩ := trod_lawT (hval 1 25 v1 rfl rfl) h1
  obtain ⟨i, k2, w2⟩ := trod_intT Tryz.underlying3 (hval 2 3 v2 rfl rfl) h2
  obtain ⟨j, k3, w3⟩ := trod_intT Tryz.underlying3 (hval 3 3 v3 rfl rfl) h3
  clear hA0 hval0
  refine (c_NoiseNets (z := z) (s := s) (c := c) (z2 := z2) (s2 := s2) (c2 := c2) (i := i) (j := j) [v0, v1, v2, v3] (hv W) W (fun b o h => h) ⟨k0, k1, k2, k3, trivial⟩).mono fun e W' ⟨v, V', he, _, _, _, bel, hb⟩ => ?_
  obtain rfl := bool_true hb he
  exact ⟨_, rfl, _, _, _, [], _, [], hW', trodAll_mk1 (shut_bool Tryz.underlying4 _), (trodAll_cons_mk (Below.trod laidOut (by kernel_rfl) (of_decide_eq_true (by kernel_rfl)) h0 bel lt0) (trodAll_cons_mk (Below.trod laidOut (by kernel_rfl) (of_decide_eq_true (by kernel_rfl)) h1 bel lt1) (trodAll_cons_mk (Below.trod laidOut (by kernel_rfl) (of_decide_eq_true (by kernel_rfl)) h2 bel lt2) (trodAll_cons_mk (Below.trod laidOut (by kernel_rfl) (of_decide_eq_true (by kernel_rfl)) h3 bel lt3) trodAll_mk0)))), rfl, bel.frame _, fun h => by cases h⟩
theorem noiseNets_proved : Rows.NoiseNetsSaid :=
  OpenClaim.holds_of_wide 7 Tryz.f7 rfl rfl rfl rfl rfl rfl rfl ⟨rfl, rfl, rfl, rfl, rfl⟩ rfl rfl rfl rfl rfl (by kernel_rfl) Tryz.func7 (by kernel_rfl)
    (of_decide_eq_true (by kernel_rfl)) (by unfold Func.isWrapper; first | (rw [if_pos (by decide +kernel)]; kernel_rfl) | (rw [if_neg (by decide +kernel)]; exact ⟨rfl, rfl⟩))
    (fun os started H enc _ => lifted_noiseNets os started H enc)
end Go.Proofs.YtppibhcfaahgpaaGreat
