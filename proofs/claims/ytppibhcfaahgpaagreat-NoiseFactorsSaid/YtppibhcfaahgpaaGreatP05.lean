/- What functions of the program compute, proved by walks over their code, and the plain mathematics of it; a part of the proof in the last text. -/
import Derived.Test.YtppibhcfaahgpaaGreatP04
set_option linter.unusedVariables false
set_option linter.unusedSimpArgs false
namespace Go.Proofs.YtppibhcfaahgpaaGreat
open Go Go.RowKit
set_option maxRecDepth 20000 in
theorem c_New1 {s : List (List Qi)} {n i j : Nat} (hs : Shp s n n) (hi : i < n) (hj : j < n) : Fun Tryz.prog 106 [NT .i64 i, NT .i64 j, PT (NumM s)] (NumT (gm s i j)) := by
  have h1 := hs.1; have h2 := hs.row hi
  refine Fun.intro Tryz.func106 rfl Tryz.ntmps106 rfl (fun cx => ?_)
  refine T_seq ?_
  refine T_region ?_
  refine R_new rfl rfl rfl (new_alloc (Ts := [Is (.bool false), Is (.slice none 0 0), Is (.bool false), Is (.slice none 0 0), Is (.slice none 0 0)]) Tryz.zeroValue49 rfl (fun V => Cells.cons' ⟨rfl, trivial⟩ (Cells.cons' ⟨rfl, trivial⟩ (Cells.cons' ⟨rfl, trivial⟩ (Cells.cons' ⟨rfl, trivial⟩ (Cells.cons' ⟨rfl, trivial⟩ (Cells.nil))))))) (fun B5 => ?_)
  refine R_nil ?_
  refine T_seq ?_
  refine T_region ?_
  refine R_op rfl rfl rfl (op_ld Tryz.isAgg31 Tryz.sizeOf31 (Has.t rfl)) ?_
  refine R_op rfl rfl rfl (op_move (Has.t rfl)) ?_
  refine R_op rfl rfl rfl (op_idx Tryz.runUnderlying31 Tryz.sizeOf30 (Has.t rfl) (Has.t rfl) rfl (map_get (getD_some (d := []) (by omega)))) ?_
  refine R_op rfl rfl rfl (op_ld Tryz.isAgg30 Tryz.sizeOf30 (Has.t rfl)) ?_
  refine R_op rfl rfl rfl (op_move (Has.t rfl)) ?_
  refine R_op rfl rfl rfl (op_idx Tryz.runUnderlying30 Tryz.sizeOf49 (Has.t rfl) (Has.t rfl) rfl (map_get (getD_some (d := Qi.zero) (by omega)))) ?_
  refine R_op rfl rfl rfl (op_ld Tryz.isAgg49 Tryz.sizeOf49 (Has.t rfl)) ?_
  refine R_stA Tryz.sizeOf49 (Has.t rfl) (Has.t rfl) rfl (i := 0) rfl (Nat.le_of_ble_eq_true rfl) rfl rfl ?_
  refine R_nil ?_
  exact T_ret1 rfl (rv_cell Tryz.isAgg49 Tryz.sizeOf49 rfl (i := 0) rfl rfl)
set_option maxRecDepth 20000 in
theorem c_netNew {z : List Qi} {s : List (List Qi)} {L : Nat} (hz : FitL z L) (h : L ≤ 8796093022208) (hl : z.length ≤ 1000) (hl2 : s.length ≤ 1000) : Fun Tryz.prog 29 [NumsT z, NumM s] (TupT [NetT (okL (netErr z s) z) (okL (netErr z s) s), IntT .i64 (netErr z s)]) := by
  refine Fun.intro Tryz.func29 rfl Tryz.ntmps29 rfl (fun cx => ?_)
  refine T_seq ?_
  refine T_region ?_
  refine R_new rfl rfl rfl (new_box1 (Has.t rfl)) (fun B3 => ?_)
  refine R_new rfl rfl rfl (new_alloc (Ts := [Is (.slice none 0 0), Is (.slice none 0 0)]) Tryz.zeroValue33 rfl (fun V => Cells.cons' ⟨rfl, trivial⟩ (Cells.cons' ⟨rfl, trivial⟩ (Cells.nil)))) (fun B4 => ?_)
  refine R_op rfl rfl rfl (op_assign (Has.cN 0)) ?_
  refine R_nil ?_
  refine T_seq ?_
  refine T_seq ?_
  refine T_freeze (i := 0) (tt := 3) rfl rfl frz_ptr1 ?_
  refine T_region ?_
  refine R_op rfl rfl rfl (op_move (Has.t rfl)) ?_
  refine R_op rfl rfl rfl (op_len Tryz.runUnderlying30 (Has.t rfl) len_map) ?_
  refine R_op rfl rfl rfl (op_lssN (Has.t rfl) (Has.cN 1)) ?_
  refine R_op rfl rfl rfl (op_move (Has.t rfl)) ?_
  refine R_step rfl rfl (S_when rfl rfl (Has.t rfl) (fun h => op_move (Has.t rfl))) ?_
  refine R_step rfl rfl (S_when rfl rfl (Has.t rfl) (fun h => op_len Tryz.runUnderlying30 (Has.w rfl h) len_map)) ?_
  refine R_step rfl rfl (S_when rfl rfl (Has.t rfl) (fun h => op_gtrN (Has.w rfl h) (Has.cN 8))) ?_
  refine R_op rfl rfl rfl (op_or (Has.t rfl) (fun h => (Has.w rfl h))) ?_
  refine R_op rfl rfl rfl (op_move (Has.t rfl)) ?_
  refine R_step rfl rfl (S_when rfl rfl (Has.t rfl) (fun h => op_ld Tryz.isAgg31 Tryz.sizeOf31 (Has.t rfl))) ?_
  refine R_step rfl rfl (S_when rfl rfl (Has.t rfl) (fun h => op_len Tryz.runUnderlying31 (Has.w rfl h) len_map)) ?_
  refine R_step rfl rfl (S_when rfl rfl (Has.t rfl) (fun h => op_move (Has.t rfl))) ?_
  refine R_step rfl rfl (S_when rfl rfl (Has.t rfl) (fun h => op_len Tryz.runUnderlying30 (Has.w rfl h) len_map)) ?_
  refine R_step rfl rfl (S_when rfl rfl (Has.t rfl) (fun h => op_neqN (Has.w rfl h) (Has.w rfl h))) ?_
  refine R_op rfl rfl rfl (op_or (Has.t rfl) (fun h => (Has.w rfl h))) ?_
  refine R_nil ?_
  refine T_cond (Has.t rfl) (fun hb => ?_) (fun hb => ?_)
  · have he := netErr_size hb
    refine T_seq ?_
    refine T_region ?_
    refine R_op rfl rfl rfl (OpTy.imp (bld_33_ ) net_nil) ?_
    refine R_stA Tryz.sizeOf33 (Has.t rfl) (Has.t rfl) rfl (i := 1) rfl (Nat.le_of_ble_eq_true rfl) rfl rfl ?_
    refine R_op rfl rfl rfl (op_assign (Has.cN 4)) ?_
    refine R_nil ?_
    refine T_ret2 rfl (rv_to (rv_cell Tryz.isAgg33 Tryz.sizeOf33 rfl (i := 1) rfl rfl) ?_) (rv_to (rv_tmp rfl) ?_)
    · exact (net_bad he (by decide))
    · exact (int_of he.symm)
  · refine T_skip ?_
    refine T_seq ?_
    refine T_seq ?_
    refine T_region ?_
    refine R_op rfl rfl rfl (op_ld Tryz.isAgg31 Tryz.sizeOf31 (Has.t rfl)) ?_
    refine R_op rfl rfl rfl (op_len Tryz.runUnderlying31 (Has.t rfl) len_map) ?_
    refine R_op rfl rfl rfl (op_move (Has.cN 0)) ?_
    refine R_nil ?_
    refine T_block ?_
    refine T_loop (fun (k : Nat) => k ≤ s.length ∧ ∀ (i : Nat) (r : List Qi), i < k → s[i]? = some r → r.length = z.length) (fun (k : Nat) => s.length - k) (fun (k : Nat) => [(0, NumsT z), (3, PT (NumM s)), (4, PtrB B4 0), (25, NumM s), (26, NT .i64 s.length), (27, NT .i64 k)]) (fun (k : Nat) => [SA.emp, box B4 33 [Is (.slice none 0 0), Is (.slice none 0 0)]]) 0 ⟨Nat.zero_le _, fun i r h => by omega⟩
      (Sub.cons rfl (Sub.cons rfl (Sub.cons rfl (Sub.cons rfl (Sub.cons rfl (Sub.cons rfl Sub.nil)))))) (HSub.refl _) (fun k ⟨hk, hr⟩ => ?_)
    refine T_seq ?_
    refine T_region ?_
    refine R_op rfl rfl rfl (op_lssN (Has.t rfl) (Has.t rfl)) ?_
    refine R_nil ?_
    refine T_seq ?_
    refine T_cond (Has.t rfl) (fun hc => ?_) (fun hc => ?_)
    · simp only [decide_eq_true_eq] at hc
      refine T_skip ?_
      refine T_seq ?_
      refine T_block ?_
      refine T_seq ?_
      refine T_region ?_
      refine R_op rfl rfl rfl (op_idx Tryz.runUnderlying31 Tryz.sizeOf30 (Has.t rfl) (Has.t rfl) rfl (map_get (getq hc))) ?_
      refine R_op rfl rfl rfl (op_ld Tryz.isAgg30 Tryz.sizeOf30 (Has.t rfl)) ?_
      refine R_op rfl rfl rfl (op_assign (Has.t rfl)) ?_
      refine R_nil ?_
      refine T_seq ?_
      refine T_region ?_
      refine R_op rfl rfl rfl (op_move (Has.t rfl)) ?_
      refine R_op rfl rfl rfl (op_len Tryz.runUnderlying30 (Has.t rfl) len_map) ?_
      refine R_op rfl rfl rfl (op_move (Has.t rfl)) ?_
      refine R_op rfl rfl rfl (op_len Tryz.runUnderlying30 (Has.t rfl) len_map) ?_
      refine R_op rfl rfl rfl (op_neqN (Has.t rfl) (Has.t rfl)) ?_
      refine R_nil ?_
      refine T_cond (Has.t rfl) (fun hd => ?_) (fun hd => ?_)
      · have hd2 : ¬ (s[k]).length = z.length := by simpa using hd
        have he := netErr_row (getq hc) hd2
        refine T_seq ?_
        refine T_region ?_
        refine R_op rfl rfl rfl (OpTy.imp (bld_33_ ) net_nil) ?_
        refine R_stA Tryz.sizeOf33 (Has.t rfl) (Has.t rfl) rfl (i := 1) rfl (Nat.le_of_ble_eq_true rfl) rfl rfl ?_
        refine R_op rfl rfl rfl (op_assign (Has.cN 4)) ?_
        refine R_nil ?_
        refine T_ret2 rfl (rv_to (rv_cell Tryz.isAgg33 Tryz.sizeOf33 rfl (i := 1) rfl rfl) ?_) (rv_to (rv_tmp rfl) ?_)
        · exact (net_bad he (by decide))
        · exact (int_of he.symm)
      · have hd2 : (s[k]).length = z.length := by simpa using hd
        refine T_skip ?_
        refine T_blk ?_
        refine T_region ?_
        refine R_op rfl rfl rfl (op_addN (Has.t rfl) (Has.cN 1) (by show _ < 9223372036854775808; first | omega | (simp only [lim]; omega))) ?_
        refine R_op rfl rfl rfl (op_move (Has.t rfl)) ?_
        refine R_nil ?_
        refine T_again (k + 1) ⟨hc, fun i r h1 h2 => by
            by_cases e : i = k
            · subst e; rw [getq hc] at h2; obtain rfl := Option.some.inj h2; exact hd2
            · exact hr i r (by omega) h2⟩ (by omega) (Sub.cons rfl (Sub.cons rfl (Sub.cons rfl (Sub.cons rfl (Sub.cons rfl (Sub.cons rfl Sub.nil)))))) (HSub.refl _)
    · simp only [decide_eq_false_iff_not] at hc
      have hall : ∀ (i : Nat) (r : List Qi), s[i]? = some r → r.length = z.length := fun i r h => hr i r (by have := (List.getElem?_eq_some_iff.1 h).1; omega) h
      have hpos := netErr_pos hb hall
      refine T_exit rfl ?_
      refine T_seq ?_
      refine T_seq ?_
      refine T_region ?_
      refine R_op rfl rfl rfl (op_move (Has.t rfl)) ?_
      refine R_op rfl rfl rfl (op_call Tryz.call103 (c_positives hz h (by omega)) ⟨(Has.t rfl), trivial⟩) ?_
      refine R_op rfl rfl rfl (op_assign (Has.t rfl)) ?_
      refine R_nil ?_
      refine T_seq ?_
      refine T_region ?_
      refine R_op rfl rfl rfl (op_move (Has.t rfl)) ?_
      refine R_op rfl rfl rfl (op_neq (Has.t rfl) Has.c) ?_
      refine R_nil ?_
      refine T_cond (Has.t rfl) (fun hd => ?_) (fun hd => ?_)
      · have hd2 : ¬ (if z.all posQ = true then (0 : Int) else 1) = 0 := by simpa using hd
        refine T_seq ?_
        refine T_region ?_
        refine R_op rfl rfl rfl (OpTy.imp (bld_33_ ) net_nil) ?_
        refine R_op rfl rfl rfl (op_move (Has.t rfl)) ?_
        refine R_stA Tryz.sizeOf33 (Has.t rfl) (Has.t rfl) rfl (i := 1) rfl (Nat.le_of_ble_eq_true rfl) rfl rfl ?_
        refine R_op rfl rfl rfl (op_assign (Has.t rfl)) ?_
        refine R_nil ?_
        refine T_ret2 rfl (rv_to (rv_cell Tryz.isAgg33 Tryz.sizeOf33 rfl (i := 1) rfl rfl) ?_) (rv_to (rv_tmp rfl) ?_)
        · exact (net_bad hpos hd2)
        · exact (int_of hpos.symm)
      · have hd2 : (if z.all posQ = true then (0 : Int) else 1) = 0 := by simpa using hd
        have he := hpos.trans hd2
        obtain ⟨h1, h2, hsh, _⟩ := netErr_ok he
        refine T_skip ?_
        refine T_seq ?_
        refine T_region ?_
        refine R_op rfl rfl rfl (op_move (Has.t rfl)) ?_
        refine R_op rfl rfl rfl (op_call Tryz.call104 (c_Clone (by omega)) ⟨(Has.t rfl), trivial⟩) ?_
        refine R_op rfl rfl rfl (op_move (Has.t rfl)) ?_
        refine R_op rfl rfl rfl (op_len Tryz.runUnderlying30 (Has.t rfl) len_map) ?_
        refine R_op rfl rfl rfl (op_clos (γ := Fin z.length × Fin z.length) (Ts := fun x => [NT .i64 x.1.1, NT .i64 x.2.1]) (U := fun x => NumT (gm s x.1.1 x.2.1)) Tryz.call106 (fun x => c_New1 hsh x.1.2 x.2.2) ⟨(Has.t rfl), trivial⟩) ?_
        refine R_op rfl rfl rfl (op_call Tryz.call105 (Fun.imp (c_fill (n := z.length) (f := gm s) (by omega)) (slT_of (by rw [← mat_tab hsh]))) ⟨(Has.t rfl), (Has.t rfl), trivial⟩) ?_
        refine R_op rfl rfl rfl (bld_33_0_1 (Has.t rfl) (Has.t rfl)) ?_
        refine R_stA Tryz.sizeOf33 (Has.t rfl) (Has.t rfl) rfl (i := 1) rfl (Nat.le_of_ble_eq_true rfl) rfl rfl ?_
        refine R_op rfl rfl rfl (op_assign (Has.cN 0)) ?_
        refine R_nil ?_
        refine T_ret2 rfl (rv_to (rv_cell Tryz.isAgg33 Tryz.sizeOf33 rfl (i := 1) rfl rfl) ?_) (rv_to (rv_tmp rfl) ?_)
        · exact (net_good he)
        · exact (int_of he.symm)
set_option maxRecDepth 20000 in
theorem c_Ports {z : List Qi} {s : List (List Qi)} : Fun Tryz.prog 74 [NetT z s] (NT .i64 z.length) := by
  refine Fun.intro Tryz.func74 rfl Tryz.ntmps74 rfl (fun cx => ?_)
  refine T_seq ?_
  refine T_region ?_
  refine R_new rfl rfl rfl (new_box (Has.t rfl)) (fun B1 => ?_)
  refine R_op rfl rfl rfl (op_assign (Has.cN 0)) ?_
  refine R_nil ?_
  refine T_seq ?_
  refine T_region ?_
  refine R_op rfl rfl rfl (op_fldB fa_33_0 (Has.t rfl) rfl) ?_
  refine R_op rfl rfl rfl (op_ldB Tryz.isAgg30 Tryz.sizeOf30 (Has.t rfl) (i := 0) rfl rfl) ?_
  refine R_op rfl rfl rfl (op_len Tryz.runUnderlying30 (Has.t rfl) len_map) ?_
  refine R_op rfl rfl rfl (op_assign (Has.t rfl)) ?_
  refine R_nil ?_
  exact T_ret1 rfl (rv_tmp rfl)
set_option maxRecDepth 20000 in
theorem c_has {z : List Qi} {s : List (List Qi)} {i : Int} : Fun Tryz.prog 137 [NetT z s, IntT .i64 i] (BoolT (decide (1 ≤ i ∧ i ≤ z.length))) := by
  refine Fun.intro Tryz.func137 rfl Tryz.ntmps137 rfl (fun cx => ?_)
  refine T_seq ?_
  refine T_region ?_
  refine R_new rfl rfl rfl (new_box (Has.t rfl)) (fun B2 => ?_)
  refine R_op rfl rfl rfl (op_assign Has.c) ?_
  refine R_nil ?_
  refine T_seq ?_
  refine T_region ?_
  refine R_op rfl rfl rfl (op_move (Has.t rfl)) ?_
  refine R_op rfl rfl rfl (op_geq (Has.t rfl) Has.c) ?_
  refine R_op rfl rfl rfl (op_move (Has.t rfl)) ?_
  refine R_step rfl rfl (S_when rfl rfl (Has.t rfl) (fun h => op_move (Has.t rfl))) ?_
  refine R_step rfl rfl (S_when rfl rfl (Has.t rfl) (fun h => op_fldB fa_33_0 (Has.t rfl) rfl)) ?_
  refine R_step rfl rfl (S_when rfl rfl (Has.t rfl) (fun h => op_ldB Tryz.isAgg30 Tryz.sizeOf30 (Has.w rfl h) (i := 0) rfl rfl)) ?_
  refine R_step rfl rfl (S_when rfl rfl (Has.t rfl) (fun h => op_len Tryz.runUnderlying30 (Has.w rfl h) len_map)) ?_
  refine R_step rfl rfl (S_when rfl rfl (Has.t rfl) (fun h => op_leq (Has.w rfl h) (Has.w rfl h))) ?_
  refine R_op rfl rfl rfl (op_and (Has.t rfl) (fun h => (Has.w rfl h))) ?_
  refine R_op rfl rfl rfl (op_assign (Has.t rfl)) ?_
  refine R_nil ?_
  refine T_ret1 rfl (rv_to (rv_tmp rfl) ?_)
  exact (bool_of (by rw [Bool.eq_iff_iff]; simp))
end Go.Proofs.YtppibhcfaahgpaaGreat
namespace Go.Proofs.YtppibhcfaahgpaaGreat
open Go Go.RowKit
theorem fa_33_1 (a : Addr) (w : World) : (Instr.fieldAt 33 (.pointer (some a)) 1).run Tryz.prog w = .ok (.pointer (some (a.add 1))) w := by
  simp [Instr.fieldAt, Instr.sureAddr, fieldPlace, Sem.run_bind, Result.andThen, Tryz.runUnderlying33, Tryz.sizeOf31]
theorem fa_35_0 (a : Addr) (w : World) : (Instr.fieldAt 35 (.pointer (some a)) 0).run Tryz.prog w = .ok (.pointer (some (a.add 0))) w := by
  simp [Instr.fieldAt, Instr.sureAddr, fieldPlace, Sem.run_bind, Result.andThen, Tryz.runUnderlying35, Tryz.sizeOf33]
theorem fa_35_1 (a : Addr) (w : World) : (Instr.fieldAt 35 (.pointer (some a)) 1).run Tryz.prog w = .ok (.pointer (some (a.add 2))) w := by
  simp [Instr.fieldAt, Instr.sureAddr, fieldPlace, Sem.run_bind, Result.andThen, Tryz.runUnderlying35, Tryz.sizeOf31]
end Go.Proofs.YtppibhcfaahgpaaGreat
namespace Go.Proofs.YtppibhcfaahgpaaGreat
open Go Go.RowKit
set_option maxRecDepth 20000 in
theorem c_Ref {z : List Qi} {s : List (List Qi)} {i : Int} (hl : z.length ≤ 1000) : Fun Tryz.prog 71 [NetT z s, IntT .i64 i] (TupT [NumT (pkv z i), IntT .i64 (if 1 ≤ i ∧ i ≤ z.length then 0 else 1)]) := by
  refine Fun.intro Tryz.func71 rfl Tryz.ntmps71 rfl (fun cx => ?_)
  refine T_seq ?_
  refine T_region ?_
  refine R_new rfl rfl rfl (new_box (Has.t rfl)) (fun B2 => ?_)
  refine R_new rfl rfl rfl (new_alloc (Ts := [Is (.bool false), Is (.slice none 0 0), Is (.bool false), Is (.slice none 0 0), Is (.slice none 0 0)]) Tryz.zeroValue49 rfl (fun V => Cells.cons' ⟨rfl, trivial⟩ (Cells.cons' ⟨rfl, trivial⟩ (Cells.cons' ⟨rfl, trivial⟩ (Cells.cons' ⟨rfl, trivial⟩ (Cells.cons' ⟨rfl, trivial⟩ (Cells.nil))))))) (fun B4 => ?_)
  refine R_op rfl rfl rfl (op_assign (Has.cN 0)) ?_
  refine R_nil ?_
  refine T_seq ?_
  refine T_seq ?_
  refine T_region ?_
  refine R_op rfl rfl rfl (op_ldBA Tryz.isAgg33 Tryz.sizeOf33 (Has.t rfl) (i := 0) rfl rfl rfl) ?_
  refine R_op rfl rfl rfl (op_move (Has.t rfl)) ?_
  refine R_op rfl rfl rfl (op_call Tryz.call137 c_has ⟨(Has.t rfl), (Has.t rfl), trivial⟩) ?_
  refine R_op rfl rfl rfl (op_not (Has.t rfl)) ?_
  refine R_nil ?_
  refine T_cond (Has.t rfl) (fun hb => ?_) (fun hb => ?_)
  · have hn : ¬ (1 ≤ i ∧ i ≤ (z.length : Int)) := by simpa only [Bool.not_eq_true', decide_eq_false_iff_not] using hb
    refine T_seq ?_
    refine T_region ?_
    refine R_op rfl rfl rfl (OpTy.imp (bld_49_ ) num_zero) ?_
    refine R_stA Tryz.sizeOf49 (Has.t rfl) (Has.t rfl) rfl (i := 1) rfl (Nat.le_of_ble_eq_true rfl) rfl rfl ?_
    refine R_op rfl rfl rfl (op_assign (Has.cN 1)) ?_
    refine R_nil ?_
    refine T_ret2 rfl (rv_to (rv_cell Tryz.isAgg49 Tryz.sizeOf49 rfl (i := 1) rfl rfl) ?_) (rv_to (rv_tmp rfl) ?_)
    · exact (num_of (by rw [pkv, if_neg hn]))
    · exact (int_of (by rw [if_neg hn]; rfl))
  · have hp : 1 ≤ i ∧ i ≤ (z.length : Int) := by simpa only [Bool.not_eq_false', decide_eq_true_eq] using hb
    have hq : (i - 1).toNat < z.length := by omega
    refine T_skip ?_
    refine T_seq ?_
    refine T_region ?_
    refine R_op rfl rfl rfl (op_fldB fa_33_0 (Has.t rfl) rfl) ?_
    refine R_op rfl rfl rfl (op_ldB Tryz.isAgg30 Tryz.sizeOf30 (Has.t rfl) (i := 0) rfl rfl) ?_
    refine R_op rfl rfl rfl (op_move (Has.t rfl)) ?_
    refine R_op rfl rfl rfl (op_sub (Has.t rfl) Has.c (w64 (by omega))) ?_
    refine R_op rfl rfl rfl (op_idx Tryz.runUnderlying30 Tryz.sizeOf49 (Has.t rfl) (Has.t rfl) (by omega : i - 1 = (((i - 1).toNat : Nat) : Int)) (map_get (getD_some (d := Qi.zero) hq))) ?_
    refine R_op rfl rfl rfl (op_ld Tryz.isAgg49 Tryz.sizeOf49 (Has.t rfl)) ?_
    refine R_stA Tryz.sizeOf49 (Has.t rfl) (Has.t rfl) rfl (i := 1) rfl (Nat.le_of_ble_eq_true rfl) rfl rfl ?_
    refine R_op rfl rfl rfl (op_assign (Has.cN 0)) ?_
    refine R_nil ?_
    refine T_ret2 rfl (rv_to (rv_cell Tryz.isAgg49 Tryz.sizeOf49 rfl (i := 1) rfl rfl) ?_) (rv_to (rv_tmp rfl) ?_)
    · exact (num_of (by rw [pkv, if_pos hp]))
    · exact (int_of (by rw [if_pos hp]; rfl))
set_option maxRecDepth 20000 in
theorem c_At {z : List Qi} {s : List (List Qi)} {i j : Int} (hs : Shp s z.length z.length) (hl : z.length ≤ 1000) : Fun Tryz.prog 72 [NetT z s, IntT .i64 i, IntT .i64 j] (TupT [NumT (pkm z.length s i j), IntT .i64 (if (1 ≤ i ∧ i ≤ z.length) ∧ 1 ≤ j ∧ j ≤ z.length then 0 else 1)]) := by
  have hs1 := hs.1
  refine Fun.intro Tryz.func72 rfl Tryz.ntmps72 rfl (fun cx => ?_)
  refine T_seq ?_
  refine T_region ?_
  refine R_new rfl rfl rfl (new_box (Has.t rfl)) (fun B3 => ?_)
  refine R_new rfl rfl rfl (new_alloc (Ts := [Is (.bool false), Is (.slice none 0 0), Is (.bool false), Is (.slice none 0 0), Is (.slice none 0 0)]) Tryz.zeroValue49 rfl (fun V => Cells.cons' ⟨rfl, trivial⟩ (Cells.cons' ⟨rfl, trivial⟩ (Cells.cons' ⟨rfl, trivial⟩ (Cells.cons' ⟨rfl, trivial⟩ (Cells.cons' ⟨rfl, trivial⟩ (Cells.nil))))))) (fun B6 => ?_)
  refine R_op rfl rfl rfl (op_assign (Has.cN 0)) ?_
  refine R_nil ?_
  refine T_seq ?_
  refine T_seq ?_
  refine T_region ?_
  refine R_op rfl rfl rfl (op_ldBA Tryz.isAgg33 Tryz.sizeOf33 (Has.t rfl) (i := 0) rfl rfl rfl) ?_
  refine R_op rfl rfl rfl (op_move (Has.t rfl)) ?_
  refine R_op rfl rfl rfl (op_call Tryz.call137 c_has ⟨(Has.t rfl), (Has.t rfl), trivial⟩) ?_
  refine R_op rfl rfl rfl (op_not (Has.t rfl)) ?_
  refine R_op rfl rfl rfl (op_move (Has.t rfl)) ?_
  refine R_step rfl rfl (S_when rfl rfl (Has.t rfl) (fun h => op_ldBA Tryz.isAgg33 Tryz.sizeOf33 (Has.t rfl) (i := 0) rfl rfl rfl)) ?_
  refine R_step rfl rfl (S_when rfl rfl (Has.t rfl) (fun h => op_move (Has.t rfl))) ?_
  refine R_step rfl rfl (S_when rfl rfl (Has.t rfl) (fun h => op_call Tryz.call137 c_has ⟨(Has.w rfl h), (Has.w rfl h), trivial⟩)) ?_
  refine R_step rfl rfl (S_when rfl rfl (Has.t rfl) (fun h => op_not (Has.w rfl h))) ?_
  refine R_op rfl rfl rfl (op_or (Has.t rfl) (fun h => (Has.w rfl h))) ?_
  refine R_nil ?_
  refine T_cond (Has.t rfl) (fun hb => ?_) (fun hb => ?_)
  · have hn : ¬ ((1 ≤ i ∧ i ≤ (z.length : Int)) ∧ 1 ≤ j ∧ j ≤ (z.length : Int)) := by simp only [Bool.or_eq_true, Bool.not_eq_true', decide_eq_false_iff_not] at hb; exact fun k => hb.elim (fun h => h k.1) (fun h => h k.2)
    refine T_seq ?_
    refine T_region ?_
    refine R_new rfl rfl rfl (new_alloc (Ts := [Is (.bool false), Is (.slice none 0 0), Is (.bool false), Is (.slice none 0 0), Is (.slice none 0 0)]) Tryz.zeroValue49 rfl (fun V => Cells.cons' ⟨rfl, trivial⟩ (Cells.cons' ⟨rfl, trivial⟩ (Cells.cons' ⟨rfl, trivial⟩ (Cells.cons' ⟨rfl, trivial⟩ (Cells.cons' ⟨rfl, trivial⟩ (Cells.nil))))))) (fun B8 => ?_)
    refine R_nil ?_
    refine T_seq ?_
    refine T_region ?_
    refine R_op rfl rfl rfl (op_ldBA Tryz.isAgg49 Tryz.sizeOf49 (Has.t rfl) (i := 2) rfl rfl rfl) ?_
    refine R_stA Tryz.sizeOf49 (Has.t rfl) (Has.t rfl) rfl (i := 1) rfl (Nat.le_of_ble_eq_true rfl) rfl rfl ?_
    refine R_op rfl rfl rfl (op_assign (Has.cN 1)) ?_
    refine R_nil ?_
    refine T_ret2 rfl (rv_to (rv_cell Tryz.isAgg49 Tryz.sizeOf49 rfl (i := 1) rfl rfl) ?_) (rv_to (rv_tmp rfl) ?_)
    · exact (fun v V k => by rw [pkm, if_neg hn]; exact num_zero v V k)
    · exact (int_of (by rw [if_neg hn]; rfl))
  · have hp : (1 ≤ i ∧ i ≤ (z.length : Int)) ∧ 1 ≤ j ∧ j ≤ (z.length : Int) := by simpa only [Bool.or_eq_false_iff, Bool.not_eq_false', decide_eq_true_eq] using hb
    have hq : (i - 1).toNat < s.length := by omega
    have hq2 : (j - 1).toNat < (s.getD (i - 1).toNat []).length := by rw [hs.row (by omega)]; omega
    refine T_skip ?_
    refine T_seq ?_
    refine T_region ?_
    refine R_op rfl rfl rfl (op_fldB fa_33_1 (Has.t rfl) rfl) ?_
    refine R_op rfl rfl rfl (op_ldB Tryz.isAgg31 Tryz.sizeOf31 (Has.t rfl) (i := 0) rfl rfl) ?_
    refine R_op rfl rfl rfl (op_move (Has.t rfl)) ?_
    refine R_op rfl rfl rfl (op_sub (Has.t rfl) Has.c (w64 (by omega))) ?_
    refine R_op rfl rfl rfl (op_idx Tryz.runUnderlying31 Tryz.sizeOf30 (Has.t rfl) (Has.t rfl) (by omega : i - 1 = (((i - 1).toNat : Nat) : Int)) (map_get (getD_some (d := []) hq))) ?_
    refine R_op rfl rfl rfl (op_ld Tryz.isAgg30 Tryz.sizeOf30 (Has.t rfl)) ?_
    refine R_op rfl rfl rfl (op_move (Has.t rfl)) ?_
    refine R_op rfl rfl rfl (op_sub (Has.t rfl) Has.c (w64 (by omega))) ?_
    refine R_op rfl rfl rfl (op_idx Tryz.runUnderlying30 Tryz.sizeOf49 (Has.t rfl) (Has.t rfl) (by omega : j - 1 = (((j - 1).toNat : Nat) : Int)) (map_get (getD_some (d := Qi.zero) hq2))) ?_
    refine R_op rfl rfl rfl (op_ld Tryz.isAgg49 Tryz.sizeOf49 (Has.t rfl)) ?_
    refine R_stA Tryz.sizeOf49 (Has.t rfl) (Has.t rfl) rfl (i := 1) rfl (Nat.le_of_ble_eq_true rfl) rfl rfl ?_
    refine R_op rfl rfl rfl (op_assign (Has.cN 0)) ?_
    refine R_nil ?_
    refine T_ret2 rfl (rv_to (rv_cell Tryz.isAgg49 Tryz.sizeOf49 rfl (i := 1) rfl rfl) ?_) (rv_to (rv_tmp rfl) ?_)
    · exact (num_of (by rw [pkm, if_pos hp]))
    · exact (int_of (by rw [if_pos hp]; rfl))
set_option maxRecDepth 20000 in
theorem c_noiNet {z : List Qi} {s c : List (List Qi)} : Fun Tryz.prog 23 [NoisyT z s c] (NetT z s) := by
  refine Fun.intro Tryz.func23 rfl Tryz.ntmps23 rfl (fun cx => ?_)
  refine T_seq ?_
  refine T_region ?_
  refine R_new rfl rfl rfl (new_box (Has.t rfl)) (fun B1 => ?_)
  refine R_new rfl rfl rfl (new_alloc (Ts := [Is (.slice none 0 0), Is (.slice none 0 0)]) Tryz.zeroValue33 rfl (fun V => Cells.cons' ⟨rfl, trivial⟩ (Cells.cons' ⟨rfl, trivial⟩ (Cells.nil)))) (fun B2 => ?_)
  refine R_nil ?_
  refine T_seq ?_
  refine T_region ?_
  refine R_op rfl rfl rfl (op_fldB fa_35_0 (Has.t rfl) rfl) ?_
  refine R_op rfl rfl rfl (op_ldBA Tryz.isAgg33 Tryz.sizeOf33 (Has.t rfl) (i := 0) rfl rfl rfl) ?_
  refine R_stA Tryz.sizeOf33 (Has.t rfl) (Has.t rfl) rfl (i := 1) rfl (Nat.le_of_ble_eq_true rfl) rfl rfl ?_
  refine R_nil ?_
  exact T_ret1 rfl (rv_cell Tryz.isAgg33 Tryz.sizeOf33 rfl (i := 1) rfl rfl)
set_option maxRecDepth 20000 in
theorem c_noiAt {z : List Qi} {s c : List (List Qi)} {i j : Int} (hs : Shp c c.length c.length) (hl : c.length ≤ 1000) : Fun Tryz.prog 37 [NoisyT z s c, IntT .i64 i, IntT .i64 j] (TupT [NumT (pkm c.length c i j), IntT .i64 (if (1 ≤ i ∧ i ≤ c.length) ∧ 1 ≤ j ∧ j ≤ c.length then 0 else 1)]) := by
  refine Fun.intro Tryz.func37 rfl Tryz.ntmps37 rfl (fun cx => ?_)
  refine T_seq ?_
  refine T_region ?_
  refine R_new rfl rfl rfl (new_box (Has.t rfl)) (fun B3 => ?_)
  refine R_new rfl rfl rfl (new_alloc (Ts := [Is (.bool false), Is (.slice none 0 0), Is (.bool false), Is (.slice none 0 0), Is (.slice none 0 0)]) Tryz.zeroValue49 rfl (fun V => Cells.cons' ⟨rfl, trivial⟩ (Cells.cons' ⟨rfl, trivial⟩ (Cells.cons' ⟨rfl, trivial⟩ (Cells.cons' ⟨rfl, trivial⟩ (Cells.cons' ⟨rfl, trivial⟩ (Cells.nil))))))) (fun B6 => ?_)
  refine R_op rfl rfl rfl (op_assign (Has.cN 0)) ?_
  refine R_nil ?_
  refine T_seq ?_
  refine T_seq ?_
  refine T_region ?_
  refine R_op rfl rfl rfl (op_move (Has.t rfl)) ?_
  refine R_op rfl rfl rfl (op_lss (Has.t rfl) Has.c) ?_
  refine R_op rfl rfl rfl (op_move (Has.t rfl)) ?_
  refine R_step rfl rfl (S_when rfl rfl (Has.t rfl) (fun h => op_move (Has.t rfl))) ?_
  refine R_step rfl rfl (S_when rfl rfl (Has.t rfl) (fun h => op_fldB fa_35_1 (Has.t rfl) rfl)) ?_
  refine R_step rfl rfl (S_when rfl rfl (Has.t rfl) (fun h => op_ldB Tryz.isAgg31 Tryz.sizeOf31 (Has.w rfl h) (i := 0) rfl rfl)) ?_
  refine R_step rfl rfl (S_when rfl rfl (Has.t rfl) (fun h => op_len Tryz.runUnderlying31 (Has.w rfl h) len_map)) ?_
  refine R_step rfl rfl (S_when rfl rfl (Has.t rfl) (fun h => op_gtr (Has.w rfl h) (Has.w rfl h))) ?_
  refine R_op rfl rfl rfl (op_or (Has.t rfl) (fun h => (Has.w rfl h))) ?_
  refine R_op rfl rfl rfl (op_move (Has.t rfl)) ?_
  refine R_step rfl rfl (S_when rfl rfl (Has.t rfl) (fun h => op_move (Has.t rfl))) ?_
  refine R_step rfl rfl (S_when rfl rfl (Has.t rfl) (fun h => op_lss (Has.w rfl h) Has.c)) ?_
  refine R_op rfl rfl rfl (op_or (Has.t rfl) (fun h => (Has.w rfl h))) ?_
  refine R_op rfl rfl rfl (op_move (Has.t rfl)) ?_
  refine R_step rfl rfl (S_when rfl rfl (Has.t rfl) (fun h => op_move (Has.t rfl))) ?_
  refine R_step rfl rfl (S_when rfl rfl (Has.t rfl) (fun h => op_fldB fa_35_1 (Has.t rfl) rfl)) ?_
  refine R_step rfl rfl (S_when rfl rfl (Has.t rfl) (fun h => op_ldB Tryz.isAgg31 Tryz.sizeOf31 (Has.w rfl h) (i := 0) rfl rfl)) ?_
  refine R_step rfl rfl (S_when rfl rfl (Has.t rfl) (fun h => op_len Tryz.runUnderlying31 (Has.w rfl h) len_map)) ?_
  refine R_step rfl rfl (S_when rfl rfl (Has.t rfl) (fun h => op_gtr (Has.w rfl h) (Has.w rfl h))) ?_
  refine R_op rfl rfl rfl (op_or (Has.t rfl) (fun h => (Has.w rfl h))) ?_
  refine R_nil ?_
  refine T_cond (Has.t rfl) (fun hb => ?_) (fun hb => ?_)
  · have hn : ¬ ((1 ≤ i ∧ i ≤ (c.length : Int)) ∧ 1 ≤ j ∧ j ≤ (c.length : Int)) := by simp only [Bool.or_eq_true, decide_eq_true_eq] at hb; omega
    refine T_seq ?_
    refine T_region ?_
    refine R_new rfl rfl rfl (new_alloc (Ts := [Is (.bool false), Is (.slice none 0 0), Is (.bool false), Is (.slice none 0 0), Is (.slice none 0 0)]) Tryz.zeroValue49 rfl (fun V => Cells.cons' ⟨rfl, trivial⟩ (Cells.cons' ⟨rfl, trivial⟩ (Cells.cons' ⟨rfl, trivial⟩ (Cells.cons' ⟨rfl, trivial⟩ (Cells.cons' ⟨rfl, trivial⟩ (Cells.nil))))))) (fun B8 => ?_)
    refine R_nil ?_
    refine T_seq ?_
    refine T_region ?_
    refine R_op rfl rfl rfl (op_ldBA Tryz.isAgg49 Tryz.sizeOf49 (Has.t rfl) (i := 2) rfl rfl rfl) ?_
    refine R_stA Tryz.sizeOf49 (Has.t rfl) (Has.t rfl) rfl (i := 1) rfl (Nat.le_of_ble_eq_true rfl) rfl rfl ?_
    refine R_op rfl rfl rfl (op_assign (Has.cN 1)) ?_
    refine R_nil ?_
    refine T_ret2 rfl (rv_to (rv_cell Tryz.isAgg49 Tryz.sizeOf49 rfl (i := 1) rfl rfl) ?_) (rv_to (rv_tmp rfl) ?_)
    · exact (fun v V k => by rw [pkm, if_neg hn]; exact num_zero v V k)
    · exact (int_of (by rw [if_neg hn]; rfl))
  · have hp : (1 ≤ i ∧ i ≤ (c.length : Int)) ∧ 1 ≤ j ∧ j ≤ (c.length : Int) := by simp only [Bool.or_eq_false_iff, decide_eq_false_iff_not] at hb; omega
    have hq : (i - 1).toNat < c.length := by omega
    have hq2 : (j - 1).toNat < (c.getD (i - 1).toNat []).length := by rw [hs.row (by omega)]; omega
    refine T_skip ?_
    refine T_seq ?_
    refine T_region ?_
    refine R_op rfl rfl rfl (op_fldB fa_35_1 (Has.t rfl) rfl) ?_
    refine R_op rfl rfl rfl (op_ldB Tryz.isAgg31 Tryz.sizeOf31 (Has.t rfl) (i := 0) rfl rfl) ?_
    refine R_op rfl rfl rfl (op_move (Has.t rfl)) ?_
    refine R_op rfl rfl rfl (op_sub (Has.t rfl) Has.c (w64 (by omega))) ?_
    refine R_op rfl rfl rfl (op_idx Tryz.runUnderlying31 Tryz.sizeOf30 (Has.t rfl) (Has.t rfl) (by omega : i - 1 = (((i - 1).toNat : Nat) : Int)) (map_get (getD_some (d := []) hq))) ?_
    refine R_op rfl rfl rfl (op_ld Tryz.isAgg30 Tryz.sizeOf30 (Has.t rfl)) ?_
    refine R_op rfl rfl rfl (op_move (Has.t rfl)) ?_
    refine R_op rfl rfl rfl (op_sub (Has.t rfl) Has.c (w64 (by omega))) ?_
    refine R_op rfl rfl rfl (op_idx Tryz.runUnderlying30 Tryz.sizeOf49 (Has.t rfl) (Has.t rfl) (by omega : j - 1 = (((j - 1).toNat : Nat) : Int)) (map_get (getD_some (d := Qi.zero) hq2))) ?_
    refine R_op rfl rfl rfl (op_ld Tryz.isAgg49 Tryz.sizeOf49 (Has.t rfl)) ?_
    refine R_stA Tryz.sizeOf49 (Has.t rfl) (Has.t rfl) rfl (i := 1) rfl (Nat.le_of_ble_eq_true rfl) rfl rfl ?_
    refine R_op rfl rfl rfl (op_assign (Has.cN 0)) ?_
    refine R_nil ?_
    refine T_ret2 rfl (rv_to (rv_cell Tryz.isAgg49 Tryz.sizeOf49 rfl (i := 1) rfl rfl) ?_) (rv_to (rv_tmp rfl) ?_)
    · exact (num_of (by rw [pkm, if_pos hp]))
    · exact (int_of (by rw [if_pos hp]; rfl))
end Go.Proofs.YtppibhcfaahgpaaGreat
namespace Go.Proofs.YtppibhcfaahgpaaGreat
open Go Go.RowKit
theorem fa_25_0 (a : Addr) (w : World) : (Instr.fieldAt 25 (.pointer (some a)) 0).run Tryz.prog w = .ok (.pointer (some (a.add 0))) w := by
  simp [Instr.fieldAt, Instr.sureAddr, fieldPlace, Sem.run_bind, Result.andThen, Tryz.runUnderlying25, Tryz.sizeOf22]
theorem fa_25_1 (a : Addr) (w : World) : (Instr.fieldAt 25 (.pointer (some a)) 1).run Tryz.prog w = .ok (.pointer (some (a.add 1))) w := by
  simp [Instr.fieldAt, Instr.sureAddr, fieldPlace, Sem.run_bind, Result.andThen, Tryz.runUnderlying25, Tryz.sizeOf23]
theorem fa_25_2 (a : Addr) (w : World) : (Instr.fieldAt 25 (.pointer (some a)) 2).run Tryz.prog w = .ok (.pointer (some (a.add 2))) w := by
  simp [Instr.fieldAt, Instr.sureAddr, fieldPlace, Sem.run_bind, Result.andThen, Tryz.runUnderlying25, Tryz.sizeOf23]
theorem info_36 : Tryz.prog.info? 36 = some Tryz.t36 := by kernel_rfl
theorem info_57 : Tryz.prog.info? 57 = some Tryz.t57 := by kernel_rfl
theorem und_31 : Tryz.prog.underlying 31 = some (.slice 30) := by kernel_rfl
theorem und_36 : Tryz.prog.underlying 36 = some (.slice 57) := by kernel_rfl
theorem und_37 : Tryz.prog.underlying 37 = some (.slice 36) := by kernel_rfl
end Go.Proofs.YtppibhcfaahgpaaGreat
namespace Go.Proofs.YtppibhcfaahgpaaGreat
open Go Go.RowKit
set_option maxRecDepth 20000 in
theorem c_lawRows {m : List (List Rt)} (hm : m.length ≤ 1000) (hr : ∀ r, r ∈ m → r.length ≤ 1000) : Fun Tryz.prog 31 [RatM m] (NumM (rq m)) := by
  refine Fun.intro Tryz.func31 rfl Tryz.ntmps31 rfl (fun cx => ?_)
  refine T_seq ?_
  refine T_region ?_
  refine R_op rfl rfl rfl (op_assign Has.c) ?_
  refine R_nil ?_
  refine T_seq ?_
  refine T_region ?_
  refine R_op rfl rfl rfl (op_move (Has.t rfl)) ?_
  refine R_op rfl rfl rfl (op_len Tryz.runUnderlying23 (Has.t rfl) len_map) ?_
  refine R_new rfl rfl rfl (new_makeO (T := NumsT []) (i := Tryz.t30) und_31 info_30 rfl rfl (Has.t rfl) rfl nums_zero_p El.one (by show 24 * _ ≤ _; omega) (by omega)) (fun B8 => ?_)
  refine R_op rfl rfl rfl (op_assign (Has.t rfl)) ?_
  refine R_nil ?_
  refine T_seq ?_
  refine T_seq ?_
  refine T_region ?_
  refine R_op rfl rfl rfl (op_move (Has.t rfl)) ?_
  refine R_op rfl rfl rfl (op_len Tryz.runUnderlying23 (Has.t rfl) len_map) ?_
  refine R_op rfl rfl rfl (op_move (Has.cN 0)) ?_
  refine R_nil ?_
  refine T_block ?_
  refine T_loop2 (fun (k : Nat) (out : List (List Qi)) => FillS (fun i => (m.getD i default).map Rt.q) m.length out k) (fun (k : Nat) (out : List (List Qi)) => m.length - k) (fun (k : Nat) (out : List (List Qi)) => [(3, Is B8), (9, RatM m), (10, NT .i64 m.length), (11, NT .i64 k)]) (fun (k : Nat) (out : List (List Qi)) => [rowO 30 1 B8 (out.map NumsT)]) 0 (List.replicate m.length []) (FillS.start _ _ _)
    (Sub.cons rfl (Sub.cons rfl (Sub.cons rfl (Sub.cons rfl Sub.nil)))) (HSub.cons (rowO_of (rep_mapF NumsT _ _)) HSub.nil) (fun k out hS => ?_)
  refine T_seq ?_
  refine T_region ?_
  refine R_op rfl rfl rfl (op_lssN (Has.t rfl) (Has.t rfl)) ?_
  refine R_nil ?_
  refine T_seq ?_
  refine T_cond (Has.t rfl) (fun hk => ?_) (fun hk => ?_)
  · simp only [decide_eq_true_eq] at hk
    have hlen := hS.len
    have hrk : (m.getD k default).length ≤ 1000 := by
      have e : m.getD k default = m[k] := by simp [List.getD, hk]
      rw [e]; exact hr _ (List.getElem_mem hk)
    refine T_skip ?_
    refine T_seq ?_
    refine T_block ?_
    refine T_seq ?_
    refine T_region ?_
    refine R_op rfl rfl rfl (op_move (Has.t rfl)) ?_
    refine R_op rfl rfl rfl (op_idx Tryz.runUnderlying23 Tryz.sizeOf22 (Has.t rfl) (Has.t rfl) rfl (map_get (getD_some (d := default) hk))) ?_
    refine R_op rfl rfl rfl (op_ld Tryz.isAgg22 Tryz.sizeOf22 (Has.t rfl)) ?_
    refine R_op rfl rfl rfl (op_assign (Has.t rfl)) ?_
    refine R_op rfl rfl rfl (op_assign (Has.t rfl)) ?_
    refine R_nil ?_
    refine T_region ?_
    refine R_op rfl rfl rfl (op_move (Has.t rfl)) ?_
    refine R_op rfl rfl rfl (op_move (Has.t rfl)) ?_
    refine R_op rfl rfl rfl (op_move (Has.t rfl)) ?_
    refine R_op rfl rfl rfl (op_call Tryz.call30 (c_lawList (by omega)) ⟨(Has.t rfl), trivial⟩) ?_
    refine R_op rfl rfl rfl (op_idxO Tryz.runUnderlying31 Tryz.sizeOf30 (Has.t rfl) (Has.t rfl) rfl (i := 0) rfl (by first | omega | (simp; omega)) rfl) ?_
    refine R_stO Tryz.sizeOf30 (Has.t rfl) (Has.t rfl) El.one (i := 0) rfl rfl (by first | omega | (simp; omega)) rfl ?_
    refine R_nil ?_
    refine T_blk ?_
    refine T_region ?_
    refine R_op rfl rfl rfl (op_addN (Has.t rfl) (Has.cN 1) (by show _ < 9223372036854775808; first | omega | (simp only [lim]; omega))) ?_
    refine R_op rfl rfl rfl (op_move (Has.t rfl)) ?_
    refine R_nil ?_
    refine T_again (k + 1, _) (hS.next hk rfl) (by dsimp only; omega) (Sub.cons rfl (Sub.cons rfl (Sub.cons rfl (Sub.cons rfl Sub.nil)))) (HSub.cons (rowO_of (set_mapF NumsT _ _ _)) HSub.nil)
  · simp only [decide_eq_false_iff_not] at hk
    obtain rfl : k = m.length := Nat.le_antisymm hS.kle (by omega)
    have hfin := hS.fin
    rw [tab_list m (fun r => r.map Rt.q)] at hfin
    refine T_exit rfl ?_
    refine T_freeze (i := 0) (tt := 3) rfl rfl frz_row ?_
    refine T_seq ?_
    refine T_region ?_
    refine R_op rfl rfl rfl (op_move (Has.t rfl)) ?_
    refine R_op rfl rfl rfl (op_assign (Has.t rfl)) ?_
    refine R_nil ?_
    refine T_ret1 rfl (rv_to (rv_tmp rfl) ?_)
    exact (slT_of (by rw [hfin]))
set_option maxRecDepth 20000 in
theorem c_few {z : List Rt} {s c : List (List Rt)} : Fun Tryz.prog 14 [LawT z s c] (BoolT (fewB z s c)) := by
  refine Fun.intro Tryz.func14 rfl Tryz.ntmps14 rfl (fun cx => ?_)
  refine T_seq ?_
  refine T_region ?_
  refine R_new rfl rfl rfl (new_box (Has.t rfl)) (fun B1 => ?_)
  refine R_op rfl rfl rfl (op_assign Has.c) ?_
  refine R_nil ?_
  refine T_seq ?_
  refine T_seq ?_
  refine T_region ?_
  refine R_op rfl rfl rfl (op_fldB fa_25_0 (Has.t rfl) rfl) ?_
  refine R_op rfl rfl rfl (op_ldB Tryz.isAgg22 Tryz.sizeOf22 (Has.t rfl) (i := 0) rfl rfl) ?_
  refine R_op rfl rfl rfl (op_len Tryz.runUnderlying22 (Has.t rfl) len_map) ?_
  refine R_op rfl rfl rfl (op_gtrN (Has.t rfl) (Has.cN 9)) ?_
  refine R_op rfl rfl rfl (op_move (Has.t rfl)) ?_
  refine R_step rfl rfl (S_when rfl rfl (Has.t rfl) (fun h => op_fldB fa_25_1 (Has.t rfl) rfl)) ?_
  refine R_step rfl rfl (S_when rfl rfl (Has.t rfl) (fun h => op_ldB Tryz.isAgg23 Tryz.sizeOf23 (Has.w rfl h) (i := 0) rfl rfl)) ?_
  refine R_step rfl rfl (S_when rfl rfl (Has.t rfl) (fun h => op_len Tryz.runUnderlying23 (Has.w rfl h) len_map)) ?_
  refine R_step rfl rfl (S_when rfl rfl (Has.t rfl) (fun h => op_gtrN (Has.w rfl h) (Has.cN 9))) ?_
  refine R_op rfl rfl rfl (op_or (Has.t rfl) (fun h => (Has.w rfl h))) ?_
  refine R_op rfl rfl rfl (op_move (Has.t rfl)) ?_
  refine R_step rfl rfl (S_when rfl rfl (Has.t rfl) (fun h => op_fldB fa_25_2 (Has.t rfl) rfl)) ?_
  refine R_step rfl rfl (S_when rfl rfl (Has.t rfl) (fun h => op_ldB Tryz.isAgg23 Tryz.sizeOf23 (Has.w rfl h) (i := 0) rfl rfl)) ?_
  refine R_step rfl rfl (S_when rfl rfl (Has.t rfl) (fun h => op_len Tryz.runUnderlying23 (Has.w rfl h) len_map)) ?_
  refine R_step rfl rfl (S_when rfl rfl (Has.t rfl) (fun h => op_gtrN (Has.w rfl h) (Has.cN 9))) ?_
  refine R_op rfl rfl rfl (op_or (Has.t rfl) (fun h => (Has.w rfl h))) ?_
  refine R_nil ?_
  refine T_cond (Has.t rfl) (fun hb => ?_) (fun hb => ?_)
  · refine T_seq ?_
    refine T_region ?_
    refine R_op rfl rfl rfl (op_assign Has.c) ?_
    refine R_nil ?_
    refine T_ret1 rfl (rv_to (rv_tmp rfl) ?_)
    exact (bool_of (fewB_size hb).symm)
  · have hbl : z.length ≤ 9 ∧ s.length ≤ 9 ∧ c.length ≤ 9 := by have hb2 := hb; simp only [Bool.or_eq_false_iff, decide_eq_false_iff_not] at hb2; omega
    refine T_skip ?_
    refine T_seq ?_
    refine T_seq ?_
    refine T_region ?_
    refine R_op rfl rfl rfl (op_fldB fa_25_1 (Has.t rfl) rfl) ?_
    refine R_op rfl rfl rfl (op_ldB Tryz.isAgg23 Tryz.sizeOf23 (Has.t rfl) (i := 0) rfl rfl) ?_
    refine R_op rfl rfl rfl (op_len Tryz.runUnderlying23 (Has.t rfl) len_map) ?_
    refine R_op rfl rfl rfl (op_move (Has.cN 0)) ?_
    refine R_nil ?_
    refine T_block ?_
    refine T_loop (fun (k : Nat) => k ≤ s.length ∧ ∀ (i : Nat) (r : List Rt), i < k → s[i]? = some r → r.length ≤ 9) (fun (k : Nat) => s.length - k) (fun (k : Nat) => [(1, PtrB B1 0), (24, RatM s), (25, NT .i64 s.length), (26, NT .i64 k)]) (fun (k : Nat) => [box B1 25 [RatsT z, RatM s, RatM c]]) 0 ⟨Nat.zero_le _, fun i r h => by omega⟩
      (Sub.cons rfl (Sub.cons rfl (Sub.cons rfl (Sub.cons rfl Sub.nil)))) (HSub.refl _) (fun k ⟨hk, hr⟩ => ?_)
    refine T_seq ?_
    refine T_region ?_
    refine R_op rfl rfl rfl (op_lssN (Has.t rfl) (Has.t rfl)) ?_
    refine R_nil ?_
    refine T_seq ?_
    refine T_cond (Has.t rfl) (fun hd => ?_) (fun hd => ?_)
    · simp only [decide_eq_true_eq] at hd
      refine T_skip ?_
      refine T_seq ?_
      refine T_block ?_
      refine T_seq ?_
      refine T_region ?_
      refine R_op rfl rfl rfl (op_idx Tryz.runUnderlying23 Tryz.sizeOf22 (Has.t rfl) (Has.t rfl) rfl (map_get (getq hd))) ?_
      refine R_op rfl rfl rfl (op_ld Tryz.isAgg22 Tryz.sizeOf22 (Has.t rfl)) ?_
      refine R_op rfl rfl rfl (op_assign (Has.t rfl)) ?_
      refine R_nil ?_
      refine T_seq ?_
      refine T_region ?_
      refine R_op rfl rfl rfl (op_move (Has.t rfl)) ?_
      refine R_op rfl rfl rfl (op_len Tryz.runUnderlying22 (Has.t rfl) len_map) ?_
      refine R_op rfl rfl rfl (op_gtrN (Has.t rfl) (Has.cN 9)) ?_
      refine R_nil ?_
      refine T_cond (Has.t rfl) (fun he => ?_) (fun he => ?_)
      · simp only [decide_eq_true_eq] at he
        refine T_seq ?_
        refine T_region ?_
        refine R_op rfl rfl rfl (op_assign Has.c) ?_
        refine R_nil ?_
        refine T_ret1 rfl (rv_to (rv_tmp rfl) ?_)
        exact (bool_of (fewB_rowS (getq hd) he).symm)
      · simp only [decide_eq_false_iff_not] at he
        refine T_skip ?_
        refine T_blk ?_
        refine T_region ?_
        refine R_op rfl rfl rfl (op_addN (Has.t rfl) (Has.cN 1) (by show _ < 9223372036854775808; first | omega | (simp only [lim]; omega))) ?_
        refine R_op rfl rfl rfl (op_move (Has.t rfl)) ?_
        refine R_nil ?_
        refine T_again (k + 1) ⟨hd, fun i r h1 h2 => by
            by_cases e : i = k
            · subst e; rw [getq hd] at h2; obtain rfl := Option.some.inj h2; omega
            · exact hr i r (by omega) h2⟩ (by omega) (Sub.cons rfl (Sub.cons rfl (Sub.cons rfl (Sub.cons rfl Sub.nil)))) (HSub.refl _)
    · simp only [decide_eq_false_iff_not] at hd
      have hall : ∀ (i : Nat) (r : List Rt), s[i]? = some r → r.length ≤ 9 := fun i r h => hr i r (by have := (List.getElem?_eq_some_iff.1 h).1; omega) h
      refine T_exit rfl ?_
      refine T_seq ?_
      refine T_seq ?_
      refine T_region ?_
      refine R_op rfl rfl rfl (op_fldB fa_25_2 (Has.t rfl) rfl) ?_
      refine R_op rfl rfl rfl (op_ldB Tryz.isAgg23 Tryz.sizeOf23 (Has.t rfl) (i := 0) rfl rfl) ?_
      refine R_op rfl rfl rfl (op_len Tryz.runUnderlying23 (Has.t rfl) len_map) ?_
      refine R_op rfl rfl rfl (op_move (Has.cN 0)) ?_
      refine R_nil ?_
      refine T_block ?_
      refine T_loop (fun (k : Nat) => k ≤ c.length ∧ ∀ (i : Nat) (r : List Rt), i < k → c[i]? = some r → r.length ≤ 9) (fun (k : Nat) => c.length - k) (fun (k : Nat) => [(1, PtrB B1 0), (35, RatM c), (36, NT .i64 c.length), (37, NT .i64 k)]) (fun (k : Nat) => [box B1 25 [RatsT z, RatM s, RatM c]]) 0 ⟨Nat.zero_le _, fun i r h => by omega⟩
        (Sub.cons rfl (Sub.cons rfl (Sub.cons rfl (Sub.cons rfl Sub.nil)))) (HSub.refl _) (fun k ⟨hk2, hr2⟩ => ?_)
      refine T_seq ?_
      refine T_region ?_
      refine R_op rfl rfl rfl (op_lssN (Has.t rfl) (Has.t rfl)) ?_
      refine R_nil ?_
      refine T_seq ?_
      refine T_cond (Has.t rfl) (fun hd2 => ?_) (fun hd2 => ?_)
      · simp only [decide_eq_true_eq] at hd2
        refine T_skip ?_
        refine T_seq ?_
        refine T_block ?_
        refine T_seq ?_
        refine T_region ?_
        refine R_op rfl rfl rfl (op_idx Tryz.runUnderlying23 Tryz.sizeOf22 (Has.t rfl) (Has.t rfl) rfl (map_get (getq hd2))) ?_
        refine R_op rfl rfl rfl (op_ld Tryz.isAgg22 Tryz.sizeOf22 (Has.t rfl)) ?_
        refine R_op rfl rfl rfl (op_assign (Has.t rfl)) ?_
        refine R_nil ?_
        refine T_seq ?_
        refine T_region ?_
        refine R_op rfl rfl rfl (op_move (Has.t rfl)) ?_
        refine R_op rfl rfl rfl (op_len Tryz.runUnderlying22 (Has.t rfl) len_map) ?_
        refine R_op rfl rfl rfl (op_gtrN (Has.t rfl) (Has.cN 9)) ?_
        refine R_nil ?_
        refine T_cond (Has.t rfl) (fun he => ?_) (fun he => ?_)
        · simp only [decide_eq_true_eq] at he
          refine T_seq ?_
          refine T_region ?_
          refine R_op rfl rfl rfl (op_assign Has.c) ?_
          refine R_nil ?_
          refine T_ret1 rfl (rv_to (rv_tmp rfl) ?_)
          exact (bool_of (fewB_rowC (getq hd2) he).symm)
        · simp only [decide_eq_false_iff_not] at he
          refine T_skip ?_
          refine T_blk ?_
          refine T_region ?_
          refine R_op rfl rfl rfl (op_addN (Has.t rfl) (Has.cN 1) (by show _ < 9223372036854775808; first | omega | (simp only [lim]; omega))) ?_
          refine R_op rfl rfl rfl (op_move (Has.t rfl)) ?_
          refine R_nil ?_
          refine T_again (k + 1) ⟨hd2, fun i r h1 h2 => by
              by_cases e : i = k
              · subst e; rw [getq hd2] at h2; obtain rfl := Option.some.inj h2; omega
              · exact hr2 i r (by omega) h2⟩ (by omega) (Sub.cons rfl (Sub.cons rfl (Sub.cons rfl (Sub.cons rfl Sub.nil)))) (HSub.refl _)
      · simp only [decide_eq_false_iff_not] at hd2
        have hall2 : ∀ (i : Nat) (r : List Rt), c[i]? = some r → r.length ≤ 9 := fun i r h => hr2 i r (by have := (List.getElem?_eq_some_iff.1 h).1; omega) h
        refine T_exit rfl ?_
        refine T_seq ?_
        refine T_region ?_
        refine R_op rfl rfl rfl (op_assign Has.c) ?_
        refine R_nil ?_
        refine T_ret1 rfl (rv_to (rv_tmp rfl) ?_)
        exact (bool_of (fewB_all hb hall hall2).symm)
set_option maxRecDepth 20000 in
theorem c_refList {m : List Rt} (hm : m.length ≤ 1000) : Fun Tryz.prog 77 [RatsT m] (SlT 5 ((m.map Rt.q).map QT)) := by
  refine Fun.intro Tryz.func77 rfl Tryz.ntmps77 rfl (fun cx => ?_)
  refine T_seq ?_
  refine T_region ?_
  refine R_op rfl rfl rfl (op_assign Has.c) ?_
  refine R_nil ?_
  refine T_seq ?_
  refine T_region ?_
  refine R_op rfl rfl rfl (op_assign Has.c) ?_
  refine R_nil ?_
  refine T_seq ?_
  refine T_seq ?_
  refine T_region ?_
  refine R_op rfl rfl rfl (op_move (Has.t rfl)) ?_
  refine R_op rfl rfl rfl (op_len Tryz.runUnderlying22 (Has.t rfl) len_map) ?_
  refine R_op rfl rfl rfl (op_move (Has.cN 0)) ?_
  refine R_nil ?_
  refine T_block ?_
  refine T_row 57 5 ?_
  refine T_loop3 (fun (k : Nat) (out : List (Qi)) (v : Value) => k ≤ m.length ∧ out = (m.map Rt.q).take k) (fun (k : Nat) (out : List (Qi)) (v : Value) => m.length - k) (fun (k : Nat) (out : List (Qi)) (v : Value) => [(3, Is v), (6, RatsT m), (7, NT .i64 m.length), (8, NT .i64 k)]) (fun (k : Nat) (out : List (Qi)) (v : Value) => [rowO 57 5 v (out.map QT)]) 0 [] (.slice none 0 0) ⟨Nat.zero_le _, rfl⟩
    (Sub.cons rfl (Sub.cons rfl (Sub.cons rfl (Sub.cons rfl Sub.nil)))) (HSub.refl _) (fun k out v ⟨hk, ho⟩ => ?_)
  refine T_seq ?_
  refine T_region ?_
  refine R_op rfl rfl rfl (op_lssN (Has.t rfl) (Has.t rfl)) ?_
  refine R_nil ?_
  refine T_seq ?_
  refine T_cond (Has.t rfl) (fun hd => ?_) (fun hd => ?_)
  · simp only [decide_eq_true_eq] at hd
    have hol : out.length ≤ 1000 := by rw [ho, List.length_take]; omega
    refine T_skip ?_
    refine T_seq ?_
    refine T_block ?_
    refine T_seq ?_
    refine T_region ?_
    refine R_op rfl rfl rfl (op_idx Tryz.runUnderlying22 Tryz.sizeOf27 (Has.t rfl) (Has.t rfl) rfl (map_get (getD_some (d := default) hd))) ?_
    refine R_op rfl rfl rfl (op_ld Tryz.isAgg27 Tryz.sizeOf27 (Has.t rfl)) ?_
    refine R_new rfl rfl rfl (new_alloc (Ts := [Is (.int .i64 0), Is (.int .i64 0), Is (.int .i64 0)]) Tryz.zeroValue27 rfl (fun V => Cells.cons' ⟨rfl, trivial⟩ (Cells.cons' ⟨rfl, trivial⟩ (Cells.cons' ⟨rfl, trivial⟩ (Cells.nil))))) (fun B5 => ?_)
    refine R_stA Tryz.sizeOf27 (Has.t rfl) (Has.t rfl) rfl (i := 1) rfl (Nat.le_of_ble_eq_true rfl) rfl rfl ?_
    refine R_nil ?_
    refine T_region ?_
    refine R_op rfl rfl rfl (op_move (Has.t rfl)) ?_
    refine R_op rfl rfl rfl (op_ldBA Tryz.isAgg27 Tryz.sizeOf27 (Has.t rfl) (i := 1) rfl rfl rfl) ?_
    refine R_op rfl rfl rfl (op_call Tryz.call20 c_rOf ⟨(Has.t rfl), trivial⟩) ?_
    refine R_op rfl rfl rfl (op_bslice (xs := [.tmp 14]) Tryz.runUnderlying36 Tryz.sizeOf57 Tryz.zeroValue57 (Elems.cons (Has.t rfl) Elems.nil) rfl rfl rfl) ?_
    refine R_append (inf := Tryz.t57) und_36 info_57 rfl rfl rfl (Has.t rfl) (Has.t rfl) (i := 0) rfl (by simp) (fun T hT => by simp at hT; subst hT; exact El.ag rfl) (by show _ * 88 ≤ _; simp only [List.length_map, List.length_cons, List.length_nil]; omega) (by simp only [List.length_map, List.length_cons, List.length_nil]; omega) rfl (fun v2 => ?_)
    refine R_op rfl rfl rfl (op_assign (Has.t rfl)) ?_
    refine R_nil ?_
    refine T_blk ?_
    refine T_region ?_
    refine R_op rfl rfl rfl (op_addN (Has.t rfl) (Has.cN 1) (by show _ < 9223372036854775808; first | omega | (simp only [lim]; omega))) ?_
    refine R_op rfl rfl rfl (op_move (Has.t rfl)) ?_
    refine R_nil ?_
    refine T_keep [0] rfl (by decide) ?_
    refine T_again (k + 1, _, v2) ⟨by omega, take_nextD (g := Rt.q) hd ho⟩ (by dsimp only; omega) (Sub.cons rfl (Sub.cons rfl (Sub.cons rfl (Sub.cons rfl Sub.nil)))) (HSub.cons (rowO_of (app_mapF QT _ _)) HSub.nil)
  · simp only [decide_eq_false_iff_not] at hd
    have hfin := take_fin ho (by simp only [List.length_map]; omega)
    refine T_exit rfl ?_
    refine T_freeze (i := 0) (tt := 3) rfl rfl frz_row ?_
    refine T_seq ?_
    refine T_region ?_
    refine R_op rfl rfl rfl (op_move (Has.t rfl)) ?_
    refine R_op rfl rfl rfl (op_assign (Has.t rfl)) ?_
    refine R_nil ?_
    refine T_ret1 rfl (rv_to (rv_tmp rfl) ?_)
    exact (slT_of (by rw [hfin]))
set_option maxRecDepth 20000 in
theorem c_refRows {m : List (List Rt)} (hm : m.length ≤ 1000) (hr : ∀ r, r ∈ m → r.length ≤ 1000) : Fun Tryz.prog 78 [RatM m] (SlT 1 ((rq m).map QsT)) := by
  refine Fun.intro Tryz.func78 rfl Tryz.ntmps78 rfl (fun cx => ?_)
  refine T_seq ?_
  refine T_region ?_
  refine R_op rfl rfl rfl (op_assign Has.c) ?_
  refine R_nil ?_
  refine T_seq ?_
  refine T_region ?_
  refine R_op rfl rfl rfl (op_assign Has.c) ?_
  refine R_nil ?_
  refine T_seq ?_
  refine T_seq ?_
  refine T_region ?_
  refine R_op rfl rfl rfl (op_move (Has.t rfl)) ?_
  refine R_op rfl rfl rfl (op_len Tryz.runUnderlying23 (Has.t rfl) len_map) ?_
  refine R_op rfl rfl rfl (op_move (Has.cN 0)) ?_
  refine R_nil ?_
  refine T_block ?_
  refine T_row 36 1 ?_
  refine T_loop3 (fun (k : Nat) (out : List (List Qi)) (v : Value) => k ≤ m.length ∧ out = (rq m).take k) (fun (k : Nat) (out : List (List Qi)) (v : Value) => m.length - k) (fun (k : Nat) (out : List (List Qi)) (v : Value) => [(3, Is v), (6, RatM m), (7, NT .i64 m.length), (8, NT .i64 k)]) (fun (k : Nat) (out : List (List Qi)) (v : Value) => [rowO 36 1 v (out.map QsT)]) 0 [] (.slice none 0 0) ⟨Nat.zero_le _, rfl⟩
    (Sub.cons rfl (Sub.cons rfl (Sub.cons rfl (Sub.cons rfl Sub.nil)))) (HSub.refl _) (fun k out v ⟨hk, ho⟩ => ?_)
  refine T_seq ?_
  refine T_region ?_
  refine R_op rfl rfl rfl (op_lssN (Has.t rfl) (Has.t rfl)) ?_
  refine R_nil ?_
  refine T_seq ?_
  refine T_cond (Has.t rfl) (fun hd => ?_) (fun hd => ?_)
  · simp only [decide_eq_true_eq] at hd
    have hol : out.length ≤ 1000 := by rw [ho, List.length_take]; omega
    have hrk : (m.getD k default).length ≤ 1000 := by
      have e : m.getD k default = m[k] := by simp [List.getD, hd]
      rw [e]; exact hr _ (List.getElem_mem hd)
    refine T_skip ?_
    refine T_seq ?_
    refine T_block ?_
    refine T_seq ?_
    refine T_region ?_
    refine R_op rfl rfl rfl (op_idx Tryz.runUnderlying23 Tryz.sizeOf22 (Has.t rfl) (Has.t rfl) rfl (map_get (getD_some (d := default) hd))) ?_
    refine R_op rfl rfl rfl (op_ld Tryz.isAgg22 Tryz.sizeOf22 (Has.t rfl)) ?_
    refine R_op rfl rfl rfl (op_assign (Has.t rfl)) ?_
    refine R_nil ?_
    refine T_region ?_
    refine R_op rfl rfl rfl (op_move (Has.t rfl)) ?_
    refine R_op rfl rfl rfl (op_move (Has.t rfl)) ?_
    refine R_op rfl rfl rfl (op_call Tryz.call77 (c_refList (by omega)) ⟨(Has.t rfl), trivial⟩) ?_
    refine R_op rfl rfl rfl (op_bslice (xs := [.tmp 14]) Tryz.runUnderlying37 Tryz.sizeOf36 Tryz.zeroValue36 (Elems.cons (Has.t rfl) Elems.nil) rfl rfl rfl) ?_
    refine R_append (inf := Tryz.t36) und_37 info_36 rfl rfl rfl (Has.t rfl) (Has.t rfl) (i := 0) rfl (by simp) (fun T hT => by simp at hT; subst hT; exact El.one) (by show _ * 24 ≤ _; simp only [List.length_map, List.length_cons, List.length_nil]; omega) (by simp only [List.length_map, List.length_cons, List.length_nil]; omega) rfl (fun v2 => ?_)
    refine R_op rfl rfl rfl (op_assign (Has.t rfl)) ?_
    refine R_nil ?_
    refine T_blk ?_
    refine T_region ?_
    refine R_op rfl rfl rfl (op_addN (Has.t rfl) (Has.cN 1) (by show _ < 9223372036854775808; first | omega | (simp only [lim]; omega))) ?_
    refine R_op rfl rfl rfl (op_move (Has.t rfl)) ?_
    refine R_nil ?_
    refine T_keep [0] rfl (by decide) ?_
    refine T_again (k + 1, _, v2) ⟨by omega, take_nextD (g := (fun r => r.map Rt.q)) hd ho⟩ (by dsimp only; omega) (Sub.cons rfl (Sub.cons rfl (Sub.cons rfl (Sub.cons rfl Sub.nil)))) (HSub.cons (rowO_of (app_mapF QsT _ _)) HSub.nil)
  · simp only [decide_eq_false_iff_not] at hd
    have hfin := take_fin ho (by simp only [List.length_map]; omega)
    refine T_exit rfl ?_
    refine T_freeze (i := 0) (tt := 3) rfl rfl frz_row ?_
    refine T_seq ?_
    refine T_region ?_
    refine R_op rfl rfl rfl (op_move (Has.t rfl)) ?_
    refine R_op rfl rfl rfl (op_assign (Has.t rfl)) ?_
    refine R_nil ?_
    refine T_ret1 rfl (rv_to (rv_tmp rfl) ?_)
    exact (slT_of (by rw [hfin]))
end Go.Proofs.YtppibhcfaahgpaaGreat
namespace Go.Proofs.YtppibhcfaahgpaaGreat
open Go Go.RowKit
theorem bld_35_ {n : Nat} {E : Env} {H : Hp} {d : Option Tmp} {t : TypeId} {pos : String} {af : Array Edge} {g : Option (Nat × Bool)}  :
    OpTy Tryz.prog n E H ⟨d, .build 35 #[], t, pos, af, g⟩ (AggT [Is (.slice none 0 0), Is (.slice none 0 0), Is (.slice none 0 0)]) :=
  op_build (parts := []) fun a V w hs => by
    refine ⟨.agg #[(.slice none 0 0), (.slice none 0 0), (.slice none 0 0)], ?_, [(.slice none 0 0), (.slice none 0 0), (.slice none 0 0)], rfl, Cells.cons' (⟨rfl, trivial⟩) (Cells.cons' (⟨rfl, trivial⟩) (Cells.cons' (⟨rfl, trivial⟩) (Cells.nil)))⟩
    simp [Instr.build, Instr.fill, Sem.run_bind, Result.andThen, cells_agg, Tryz.zeroValue35, Tryz.runUnderlying35, Tryz.sizeOf31, Tryz.sizeOf33]
theorem bld_35_0 {n : Nat} {E : Env} {H : Hp} {d : Option Tmp} {t : TypeId} {pos : String} {af : Array Edge} {g : Option (Nat × Bool)} {x0 : Operand} {T0 T1 : Ty} (h0 : Has E x0 (AggT [T0, T1])) :
    OpTy Tryz.prog n E H ⟨d, .build 35 #[(0, x0)], t, pos, af, g⟩ (AggT [T0, T1, Is (.slice none 0 0)]) :=
  op_build (parts := [(0, x0)]) fun a V w hs => by
    obtain ⟨v0, e0, c0⟩ := h0 n V a hs
    obtain ⟨c0_0, c0_1, rfl⟩ : ∃ c0_0 c0_1, v0 = [c0_0, c0_1] := list2 (by simpa using c0.length)
    refine ⟨.agg #[c0_0, c0_1, (.slice none 0 0)], ?_, [c0_0, c0_1, (.slice none 0 0)], rfl, Cells.cons' (c0.at (i := 0) rfl rfl) (Cells.cons' (c0.at (i := 1) rfl rfl) (Cells.cons' (⟨rfl, trivial⟩) (Cells.nil)))⟩
    simp [e0, Instr.build, Instr.fill, Sem.run_bind, Result.andThen, cells_agg, Tryz.zeroValue35, Tryz.runUnderlying35, Tryz.sizeOf31, Tryz.sizeOf33]
end Go.Proofs.YtppibhcfaahgpaaGreat
namespace Go.Proofs.YtppibhcfaahgpaaGreat
open Go Go.RowKit
set_option maxRecDepth 20000 in
theorem c_noiNew1 {r : List Qi} {c : List (List Qi)} : Fun Tryz.prog 152 [NumsT r, PT (NumM c)] (BoolT (!decide (r.length = c.length))) := by
  refine Fun.intro Tryz.func152 rfl Tryz.ntmps152 rfl (fun cx => ?_)
  refine T_seq ?_
  refine T_region ?_
  refine R_op rfl rfl rfl (op_assign Has.c) ?_
  refine R_nil ?_
  refine T_seq ?_
  refine T_region ?_
  refine R_op rfl rfl rfl (op_move (Has.t rfl)) ?_
  refine R_op rfl rfl rfl (op_len Tryz.runUnderlying30 (Has.t rfl) len_map) ?_
  refine R_op rfl rfl rfl (op_ld Tryz.isAgg31 Tryz.sizeOf31 (Has.t rfl)) ?_
  refine R_op rfl rfl rfl (op_len Tryz.runUnderlying31 (Has.t rfl) len_map) ?_
  refine R_op rfl rfl rfl (op_neqN (Has.t rfl) (Has.t rfl)) ?_
  refine R_op rfl rfl rfl (op_assign (Has.t rfl)) ?_
  refine R_nil ?_
  exact T_ret1 rfl (rv_tmp rfl)
set_option maxRecDepth 20000 in
theorem c_noiNew {z : List Qi} {s c : List (List Qi)} (hz : z.length ≤ 1000) (hc : c.length ≤ 1000) : Fun Tryz.prog 76 [NetT z s, NumM c] (TupT [NoisyT (okL (noiErr z c) z) (okL (noiErr z c) s) (okL (noiErr z c) c), IntT .i64 (noiErr z c)]) := by
  refine Fun.intro Tryz.func76 rfl Tryz.ntmps76 rfl (fun cx => ?_)
  refine T_seq ?_
  refine T_region ?_
  refine R_new rfl rfl rfl (new_box (Has.t rfl)) (fun B2 => ?_)
  refine R_new rfl rfl rfl (new_box1 (Has.t rfl)) (fun B3 => ?_)
  refine R_new rfl rfl rfl (new_alloc (Ts := [Is (.slice none 0 0), Is (.slice none 0 0), Is (.slice none 0 0)]) Tryz.zeroValue35 rfl (fun V => Cells.cons' ⟨rfl, trivial⟩ (Cells.cons' ⟨rfl, trivial⟩ (Cells.cons' ⟨rfl, trivial⟩ (Cells.nil))))) (fun B4 => ?_)
  refine R_op rfl rfl rfl (op_assign (Has.cN 0)) ?_
  refine R_nil ?_
  refine T_seq ?_
  refine T_seq ?_
  refine T_freeze (i := 1) (tt := 3) rfl rfl frz_ptr1 ?_
  refine D_start (m := 8) ?_
  refine D_step (Ei := [(3, _)]) rfl rfl (Srcs.cons (Src.pre rfl rfl) Srcs.nil) (S_plain rfl (op_ld Tryz.isAgg31 Tryz.sizeOf31 (Has.t rfl))) ?_
  refine D_step (Ei := [(9, _)]) rfl rfl (Srcs.cons (Src.op 0 rfl rfl) Srcs.nil) (S_plain rfl (op_len Tryz.runUnderlying31 (Has.t rfl) len_map)) ?_
  refine D_step (Ei := [(2, _)]) rfl rfl (Srcs.cons (Src.pre rfl rfl) Srcs.nil) (S_plain rfl (op_ldBA Tryz.isAgg33 Tryz.sizeOf33 (Has.t rfl) (i := 0) rfl rfl rfl)) ?_
  refine D_step (Ei := [(11, _)]) rfl rfl (Srcs.cons (Src.op 2 rfl rfl) Srcs.nil) (S_plain rfl (op_call Tryz.call74 c_Ports ⟨(Has.t rfl), trivial⟩)) ?_
  refine D_step (Ei := [(10, _), (12, _)]) rfl rfl (Srcs.cons (Src.op 1 rfl rfl) (Srcs.cons (Src.op 3 rfl rfl) Srcs.nil)) (S_plain rfl (op_neqN (Has.t rfl) (Has.t rfl))) ?_
  refine D_step (Ei := [(13, _)]) rfl rfl (Srcs.cons (Src.op 4 rfl rfl) Srcs.nil) (S_plain rfl (op_move (Has.t rfl))) ?_
  refine D_step (Ei := [(3, _), (14, _)]) rfl rfl (Srcs.cons (Src.pre rfl rfl) (Srcs.cons (Src.op 5 rfl rfl) Srcs.nil)) (S_when rfl rfl (Has.t rfl) (fun h => op_ld Tryz.isAgg31 Tryz.sizeOf31 (Has.t rfl))) ?_
  refine D_step (Ei := [(3, _), (14, _)]) rfl rfl (Srcs.cons (Src.pre rfl rfl) (Srcs.cons (Src.op 5 rfl rfl) Srcs.nil)) (S_when rfl rfl (Has.t rfl) (fun h => op_clos (γ := List Qi) (Ts := fun r => [NumsT r]) (U := fun r => BoolT (!decide (r.length = c.length))) Tryz.call152 (fun r => c_noiNew1) ⟨(Has.t rfl), trivial⟩)) ?_
  refine D_done mixed rfl (by kernel_rfl) (F_val (F_val (F_val (F_val (F_val (F_val (F_val (F_val (F_nil ?_)))))))))
  refine R_step rfl rfl (S_when rfl rfl (Has.t rfl) (fun h => op_call Tryz.call151 (c_ContainsRow (l := c) (T := NumsT) (p := fun r => !decide (r.length = c.length)) (by omega)) ⟨(Has.w rfl h), (Has.w rfl h), trivial⟩)) ?_
  refine R_op rfl rfl rfl (op_or (Has.t rfl) (fun h => (Has.w rfl h))) ?_
  refine R_nil ?_
  refine T_cond (Has.t rfl) (fun hb => ?_) (fun hb => ?_)
  · have he := noiErr_bad hb
    refine T_seq ?_
    refine T_region ?_
    refine R_op rfl rfl rfl (OpTy.imp (bld_35_ ) noisy_nil) ?_
    refine R_stA Tryz.sizeOf35 (Has.t rfl) (Has.t rfl) rfl (i := 2) rfl (Nat.le_of_ble_eq_true rfl) rfl rfl ?_
    refine R_op rfl rfl rfl (op_assign (Has.cN 4)) ?_
    refine R_nil ?_
    refine T_ret2 rfl (rv_to (rv_cell Tryz.isAgg35 Tryz.sizeOf35 rfl (i := 2) rfl rfl) ?_) (rv_to (rv_tmp rfl) ?_)
    · exact (noisy_bad he)
    · exact (int_of he.symm)
  · have he := noiErr_good hb
    obtain ⟨hcl, hsh⟩ := noiErr_ok he
    refine T_skip ?_
    refine T_seq ?_
    refine T_region ?_
    refine R_op rfl rfl rfl (op_ldBA Tryz.isAgg33 Tryz.sizeOf33 (Has.t rfl) (i := 0) rfl rfl rfl) ?_
    refine R_op rfl rfl rfl (bld_35_0 (Has.t rfl)) ?_
    refine R_new rfl rfl rfl (new_alloc (Ts := [Is (.slice none 0 0), Is (.slice none 0 0), Is (.slice none 0 0)]) Tryz.zeroValue35 rfl (fun V => Cells.cons' ⟨rfl, trivial⟩ (Cells.cons' ⟨rfl, trivial⟩ (Cells.cons' ⟨rfl, trivial⟩ (Cells.nil))))) (fun B6 => ?_)
    refine R_stA Tryz.sizeOf35 (Has.t rfl) (Has.t rfl) rfl (i := 3) rfl (Nat.le_of_ble_eq_true rfl) rfl rfl ?_
    refine R_nil ?_
    refine T_seq ?_
    refine T_seq ?_
    refine T_region ?_
    refine R_op rfl rfl rfl (op_ld Tryz.isAgg31 Tryz.sizeOf31 (Has.t rfl)) ?_
    refine R_op rfl rfl rfl (op_len Tryz.runUnderlying31 (Has.t rfl) len_map) ?_
    refine R_op rfl rfl rfl (op_move (Has.cN 0)) ?_
    refine R_nil ?_
    refine T_block ?_
    refine T_keep [2, 3] rfl (by decide) ?_
    refine T_row 30 1 ?_
    refine T_loop3 (fun (k : Nat) (out : List (List Qi)) (v : Value) => k ≤ c.length ∧ out = c.take k) (fun (k : Nat) (out : List (List Qi)) (v : Value) => c.length - k) (fun (k : Nat) (out : List (List Qi)) (v : Value) => [(4, PtrB B4 0), (6, PtrB B6 0), (22, NumM c), (23, NT .i64 c.length), (24, NT .i64 k)]) (fun (k : Nat) (out : List (List Qi)) (v : Value) => [box B4 35 [Is (.slice none 0 0), Is (.slice none 0 0), Is (.slice none 0 0)], box B6 35 [NumsT z, NumM s, Is v], rowO 30 1 v (out.map NumsT)]) 0 [] (.slice none 0 0) ⟨Nat.zero_le _, rfl⟩
      (Sub.cons rfl (Sub.cons rfl (Sub.cons rfl (Sub.cons rfl (Sub.cons rfl Sub.nil))))) (HSub.refl _) (fun k out v ⟨hk, ho⟩ => ?_)
    refine T_seq ?_
    refine T_region ?_
    refine R_op rfl rfl rfl (op_lssN (Has.t rfl) (Has.t rfl)) ?_
    refine R_nil ?_
    refine T_seq ?_
    refine T_cond (Has.t rfl) (fun hd => ?_) (fun hd => ?_)
    · simp only [decide_eq_true_eq] at hd
      have hol : out.length ≤ 1000 := by rw [ho, List.length_take]; omega
      have hrk : (c.getD k default).length ≤ 1000 := by
        have e : c.getD k default = c.getD k [] := rfl
        rw [e, hsh.row (by omega)]; omega
      refine T_skip ?_
      refine T_seq ?_
      refine T_block ?_
      refine T_seq ?_
      refine T_region ?_
      refine R_op rfl rfl rfl (op_idx Tryz.runUnderlying31 Tryz.sizeOf30 (Has.t rfl) (Has.t rfl) rfl (map_get (getD_some (d := default) hd))) ?_
      refine R_op rfl rfl rfl (op_ld Tryz.isAgg30 Tryz.sizeOf30 (Has.t rfl)) ?_
      refine R_op rfl rfl rfl (op_assign (Has.t rfl)) ?_
      refine R_nil ?_
      refine D_start (m := 5) ?_
      refine D_step (Ei := [(6, _)]) rfl rfl (Srcs.cons (Src.pre rfl rfl) Srcs.nil) (S_plain rfl (op_fldB fa_35_1 (Has.t rfl) rfl)) ?_
      refine D_step (Ei := [(28, _)]) rfl rfl (Srcs.cons (Src.op 0 rfl rfl) Srcs.nil) (S_plain rfl (op_ldBp Tryz.isAgg31 Tryz.sizeOf31 (Has.t rfl) (i := 1) rfl rfl)) ?_
      refine D_step (Ei := [(8, _)]) rfl rfl (Srcs.cons (Src.pre rfl rfl) Srcs.nil) (S_plain rfl (op_move (Has.t rfl))) ?_
      refine D_step (Ei := [(30, _)]) rfl rfl (Srcs.cons (Src.op 2 rfl rfl) Srcs.nil) (S_plain rfl (op_call Tryz.call104 (c_Clone (by omega)) ⟨(Has.t rfl), trivial⟩)) ?_
      refine D_step (Ei := [(31, _)]) rfl rfl (Srcs.cons (Src.op 3 rfl rfl) Srcs.nil) (S_plain rfl (op_bslice (xs := [.tmp 31]) Tryz.runUnderlying31 Tryz.sizeOf30 Tryz.zeroValue30 (Elems.cons (Has.t rfl) Elems.nil) rfl rfl rfl)) ?_
      refine D_done mixed rfl (by kernel_rfl) (F_val (F_val (F_val (F_val (F_val (F_nil ?_))))))
      refine R_append (inf := Tryz.t30) und_31 info_30 rfl rfl rfl (Has.t rfl) (Has.t rfl) (i := 2) rfl (by simp) (fun T hT => by simp at hT; subst hT; exact El.one) (by show _ * 24 ≤ _; simp only [List.length_map, List.length_cons, List.length_nil]; omega) (by simp only [List.length_map, List.length_cons, List.length_nil]; omega) rfl (fun v2 => ?_)
      refine R_op rfl rfl rfl (op_fldB fa_35_1 (Has.t rfl) rfl) ?_
      refine R_stp (l := 2) Tryz.sizeOf31 (Has.t rfl) (Has.t rfl) (i := 1) rfl rfl (Nat.le_of_ble_eq_true rfl) rfl ?_
      refine R_nil ?_
      refine T_blk ?_
      refine T_region ?_
      refine R_op rfl rfl rfl (op_addN (Has.t rfl) (Has.cN 1) (by show _ < 9223372036854775808; first | omega | (simp only [lim]; omega))) ?_
      refine R_op rfl rfl rfl (op_move (Has.t rfl)) ?_
      refine R_nil ?_
      refine T_again (k + 1, _, v2) ⟨by omega, take_nextI hd ho⟩ (by dsimp only; omega) (Sub.cons rfl (Sub.cons rfl (Sub.cons rfl (Sub.cons rfl (Sub.cons rfl Sub.nil))))) (HSub.cons (box_of rfl) (HSub.cons (box_of rfl) (HSub.cons (rowO_of (app_mapF NumsT _ _)) HSub.nil)))
    · simp only [decide_eq_false_iff_not] at hd
      have hfin := take_fin ho (by omega)
      subst hfin
      refine T_exit rfl ?_
      refine T_seq ?_
      refine T_frzcell 1 2 2 rfl rfl rfl (by decide) ?_
      refine T_region ?_
      refine R_op rfl rfl rfl (op_ldBA Tryz.isAgg35 Tryz.sizeOf35 (Has.t rfl) (i := 1) rfl rfl rfl) ?_
      refine R_stA Tryz.sizeOf35 (Has.t rfl) (Has.t rfl) rfl (i := 0) rfl (Nat.le_of_ble_eq_true rfl) rfl rfl ?_
      refine R_op rfl rfl rfl (op_assign (Has.cN 0)) ?_
      refine R_nil ?_
      refine T_ret2 rfl (rv_to (rv_cell Tryz.isAgg35 Tryz.sizeOf35 rfl (i := 0) rfl rfl) ?_) (rv_to (rv_tmp rfl) ?_)
      · exact (noisy_good he)
      · exact (int_of he.symm)
end Go.Proofs.YtppibhcfaahgpaaGreat
namespace Go.Proofs.YtppibhcfaahgpaaGreat
open Go Go.RowKit
theorem bld_39_ {n : Nat} {E : Env} {H : Hp} {d : Option Tmp} {t : TypeId} {pos : String} {af : Array Edge} {g : Option (Nat × Bool)}  :
    OpTy Tryz.prog n E H ⟨d, .build 39 #[], t, pos, af, g⟩ (AggT [Is (.slice none 0 0), Is (.slice none 0 0)]) :=
  op_build (parts := []) fun a V w hs => by
    refine ⟨.agg #[(.slice none 0 0), (.slice none 0 0)], ?_, [(.slice none 0 0), (.slice none 0 0)], rfl, Cells.cons' (⟨rfl, trivial⟩) (Cells.cons' (⟨rfl, trivial⟩) (Cells.nil))⟩
    simp [Instr.build, Instr.fill, Sem.run_bind, Result.andThen, cells_agg, Tryz.zeroValue39, Tryz.runUnderlying39, Tryz.sizeOf36, Tryz.sizeOf37]
theorem bld_39_0_1 {n : Nat} {E : Env} {H : Hp} {d : Option Tmp} {t : TypeId} {pos : String} {af : Array Edge} {g : Option (Nat × Bool)} {x0 x1 : Operand} {T0 T1 : Ty} [s0 : Shape T0 1 false] (h0 : Has E x0 T0) [s1 : Shape T1 1 false] (h1 : Has E x1 T1) :
    OpTy Tryz.prog n E H ⟨d, .build 39 #[(0, x0), (1, x1)], t, pos, af, g⟩ (AggT [T0, T1]) :=
  op_build (parts := [(0, x0), (1, x1)]) fun a V w hs => by
    have p0 := h0 n V a hs
    generalize e0 : a.eval x0 = v0 at p0
    have q0 := (s0.ok v0 V p0).2.2 rfl
    have p1 := h1 n V a hs
    generalize e1 : a.eval x1 = v1 at p1
    have q1 := (s1.ok v1 V p1).2.2 rfl
    refine ⟨.agg #[v0, v1], ?_, [v0, v1], rfl, Cells.cons' (⟨p0, q0⟩) (Cells.cons' (⟨p1, q1⟩) (Cells.nil))⟩
    simp [e0, e1, Instr.build, Instr.fill, Sem.run_bind, Result.andThen, cells_agg, q0.cells, q1.cells, Tryz.zeroValue39, Tryz.runUnderlying39, Tryz.sizeOf36, Tryz.sizeOf37]
theorem bld_41_ {n : Nat} {E : Env} {H : Hp} {d : Option Tmp} {t : TypeId} {pos : String} {af : Array Edge} {g : Option (Nat × Bool)}  :
    OpTy Tryz.prog n E H ⟨d, .build 41 #[], t, pos, af, g⟩ (AggT [Is (.slice none 0 0), Is (.slice none 0 0), Is (.slice none 0 0)]) :=
  op_build (parts := []) fun a V w hs => by
    refine ⟨.agg #[(.slice none 0 0), (.slice none 0 0), (.slice none 0 0)], ?_, [(.slice none 0 0), (.slice none 0 0), (.slice none 0 0)], rfl, Cells.cons' (⟨rfl, trivial⟩) (Cells.cons' (⟨rfl, trivial⟩) (Cells.cons' (⟨rfl, trivial⟩) (Cells.nil)))⟩
    simp [Instr.build, Instr.fill, Sem.run_bind, Result.andThen, cells_agg, Tryz.zeroValue41, Tryz.runUnderlying41, Tryz.sizeOf37, Tryz.sizeOf39]
theorem bld_41_0_1 {n : Nat} {E : Env} {H : Hp} {d : Option Tmp} {t : TypeId} {pos : String} {af : Array Edge} {g : Option (Nat × Bool)} {x0 x1 : Operand} {T0 T1 T2 : Ty} (h0 : Has E x0 (AggT [T0, T1])) [s1 : Shape T2 1 false] (h1 : Has E x1 T2) :
    OpTy Tryz.prog n E H ⟨d, .build 41 #[(0, x0), (1, x1)], t, pos, af, g⟩ (AggT [T0, T1, T2]) :=
  op_build (parts := [(0, x0), (1, x1)]) fun a V w hs => by
    obtain ⟨v0, e0, c0⟩ := h0 n V a hs
    obtain ⟨c0_0, c0_1, rfl⟩ : ∃ c0_0 c0_1, v0 = [c0_0, c0_1] := list2 (by simpa using c0.length)
    have p1 := h1 n V a hs
    generalize e1 : a.eval x1 = v1 at p1
    have q1 := (s1.ok v1 V p1).2.2 rfl
    refine ⟨.agg #[c0_0, c0_1, v1], ?_, [c0_0, c0_1, v1], rfl, Cells.cons' (c0.at (i := 0) rfl rfl) (Cells.cons' (c0.at (i := 1) rfl rfl) (Cells.cons' (⟨p1, q1⟩) (Cells.nil)))⟩
    simp [e0, e1, Instr.build, Instr.fill, Sem.run_bind, Result.andThen, cells_agg, q1.cells, Tryz.zeroValue41, Tryz.runUnderlying41, Tryz.sizeOf37, Tryz.sizeOf39]
theorem fa_39_0 (a : Addr) (w : World) : (Instr.fieldAt 39 (.pointer (some a)) 0).run Tryz.prog w = .ok (.pointer (some (a.add 0))) w := by
  simp [Instr.fieldAt, Instr.sureAddr, fieldPlace, Sem.run_bind, Result.andThen, Tryz.runUnderlying39, Tryz.sizeOf36]
end Go.Proofs.YtppibhcfaahgpaaGreat
namespace Go.Proofs.YtppibhcfaahgpaaGreat
open Go Go.RowKit
set_option maxRecDepth 20000 in
theorem c_rPositive {x : Qi} {L : Nat} [hx : FitC x L] (h : L ≤ 17592186044415) : Fun Tryz.prog 113 [QT x] (BoolT (posQ x)) := by
  refine Fun.intro Tryz.func113 rfl Tryz.ntmps113 rfl (fun cx => ?_)
  refine T_seq ?_
  refine T_region ?_
  refine R_new rfl rfl rfl (new_box (Has.t rfl)) (fun B1 => ?_)
  refine R_op rfl rfl rfl (op_assign Has.c) ?_
  refine R_nil ?_
  refine T_seq ?_
  refine T_region ?_
  refine R_op rfl rfl rfl (op_ldBA Tryz.isAgg57 Tryz.sizeOf57 (Has.t rfl) (i := 0) rfl rfl rfl) ?_
  refine R_op rfl rfl rfl (op_call Tryz.call84 (c_rSide (by omega)) ⟨(Has.t rfl), trivial⟩) ?_
  refine R_op rfl rfl rfl (op_eql (Has.t rfl) Has.c) ?_
  refine R_op rfl rfl rfl (op_move (Has.t rfl)) ?_
  refine R_step rfl rfl (S_when rfl rfl (Has.t rfl) (fun h => op_ldBA Tryz.isAgg57 Tryz.sizeOf57 (Has.t rfl) (i := 0) rfl rfl rfl)) ?_
  refine R_step rfl rfl (S_when rfl rfl (Has.t rfl) (fun h => op_call Tryz.call85 c_rSign ⟨(Has.w rfl h), trivial⟩)) ?_
  refine R_step rfl rfl (S_when rfl rfl (Has.t rfl) (fun h => op_gtr (Has.w rfl h) Has.c)) ?_
  refine R_op rfl rfl rfl (op_and (Has.t rfl) (fun h => (Has.w rfl h))) ?_
  refine R_op rfl rfl rfl (op_assign (Has.t rfl)) ?_
  refine R_nil ?_
  refine T_ret1 rfl (rv_to (rv_tmp rfl) ?_)
  exact (bool_of (rpos_eq x))
set_option maxRecDepth 20000 in
theorem c_shaped {z : List Qi} {s : List (List Qi)} (hz : z.length ≤ 100000) (hs : s.length ≤ 100000) : Fun Tryz.prog 146 [QsT z, QM s] (BoolT (shpB z s)) := by
  refine Fun.intro Tryz.func146 rfl Tryz.ntmps146 rfl (fun cx => ?_)
  refine T_seq ?_
  refine T_region ?_
  refine R_op rfl rfl rfl (op_assign Has.c) ?_
  refine R_nil ?_
  refine T_seq ?_
  refine T_seq ?_
  refine T_region ?_
  refine R_op rfl rfl rfl (op_move (Has.t rfl)) ?_
  refine R_op rfl rfl rfl (op_len Tryz.runUnderlying36 (Has.t rfl) len_map) ?_
  refine R_op rfl rfl rfl (op_lssN (Has.t rfl) (Has.cN 1)) ?_
  refine R_op rfl rfl rfl (op_move (Has.t rfl)) ?_
  refine R_step rfl rfl (S_when rfl rfl (Has.t rfl) (fun h => op_move (Has.t rfl))) ?_
  refine R_step rfl rfl (S_when rfl rfl (Has.t rfl) (fun h => op_len Tryz.runUnderlying36 (Has.w rfl h) len_map)) ?_
  refine R_step rfl rfl (S_when rfl rfl (Has.t rfl) (fun h => op_gtrN (Has.w rfl h) (Has.cN 8))) ?_
  refine R_op rfl rfl rfl (op_or (Has.t rfl) (fun h => (Has.w rfl h))) ?_
  refine R_op rfl rfl rfl (op_move (Has.t rfl)) ?_
  refine R_step rfl rfl (S_when rfl rfl (Has.t rfl) (fun h => op_move (Has.t rfl))) ?_
  refine R_step rfl rfl (S_when rfl rfl (Has.t rfl) (fun h => op_len Tryz.runUnderlying37 (Has.w rfl h) len_map)) ?_
  refine R_step rfl rfl (S_when rfl rfl (Has.t rfl) (fun h => op_move (Has.t rfl))) ?_
  refine R_step rfl rfl (S_when rfl rfl (Has.t rfl) (fun h => op_len Tryz.runUnderlying36 (Has.w rfl h) len_map)) ?_
  refine R_step rfl rfl (S_when rfl rfl (Has.t rfl) (fun h => op_neqN (Has.w rfl h) (Has.w rfl h))) ?_
  refine R_op rfl rfl rfl (op_or (Has.t rfl) (fun h => (Has.w rfl h))) ?_
  refine R_nil ?_
  refine T_cond (Has.t rfl) (fun hb => ?_) (fun hb => ?_)
  · refine T_seq ?_
    refine T_region ?_
    refine R_op rfl rfl rfl (op_assign Has.c) ?_
    refine R_nil ?_
    refine T_ret1 rfl (rv_to (rv_tmp rfl) ?_)
    exact (bool_of (by rw [shpB, hb]; rfl))
  · refine T_skip ?_
    refine T_seq ?_
    refine T_seq ?_
    refine T_region ?_
    refine R_op rfl rfl rfl (op_assign (Has.cN 0)) ?_
    refine R_nil ?_
    refine T_block ?_
    refine T_loop (fun (k : Nat) => k ≤ s.length ∧ ∀ (i : Nat) (r : List Qi), i < k → s[i]? = some r → r.length = z.length) (fun (k : Nat) => s.length - k) (fun (k : Nat) => [(0, QsT z), (1, QM s), (5, NT .i64 k)]) (fun (k : Nat) => []) 0 ⟨Nat.zero_le _, fun i r h => by omega⟩
      (Sub.cons rfl (Sub.cons rfl (Sub.cons rfl Sub.nil))) HSub.nil (fun k ⟨hk, hr⟩ => ?_)
    refine T_seq ?_
    refine T_seq ?_
    refine T_region ?_
    refine R_op rfl rfl rfl (op_move (Has.t rfl)) ?_
    refine R_op rfl rfl rfl (op_move (Has.t rfl)) ?_
    refine R_op rfl rfl rfl (op_len Tryz.runUnderlying37 (Has.t rfl) len_map) ?_
    refine R_op rfl rfl rfl (op_lssN (Has.t rfl) (Has.t rfl)) ?_
    refine R_nil ?_
    refine T_cond (Has.t rfl) (fun hc => ?_) (fun hc => ?_)
    · simp only [decide_eq_true_eq] at hc
      refine T_skip ?_
      refine T_seq ?_
      refine T_block ?_
      refine T_seq ?_
      refine T_region ?_
      refine R_op rfl rfl rfl (op_move (Has.t rfl)) ?_
      refine R_op rfl rfl rfl (op_move (Has.t rfl)) ?_
      refine R_op rfl rfl rfl (op_idx Tryz.runUnderlying37 Tryz.sizeOf36 (Has.t rfl) (Has.t rfl) rfl (map_get (getq hc))) ?_
      refine R_op rfl rfl rfl (op_ld Tryz.isAgg36 Tryz.sizeOf36 (Has.t rfl)) ?_
      refine R_op rfl rfl rfl (op_len Tryz.runUnderlying36 (Has.t rfl) len_map) ?_
      refine R_op rfl rfl rfl (op_move (Has.t rfl)) ?_
      refine R_op rfl rfl rfl (op_len Tryz.runUnderlying36 (Has.t rfl) len_map) ?_
      refine R_op rfl rfl rfl (op_neqN (Has.t rfl) (Has.t rfl)) ?_
      refine R_nil ?_
      refine T_cond (Has.t rfl) (fun hd => ?_) (fun hd => ?_)
      · have hd2 : ¬ (s[k]).length = z.length := by simpa using hd
        refine T_seq ?_
        refine T_region ?_
        refine R_op rfl rfl rfl (op_assign Has.c) ?_
        refine R_nil ?_
        refine T_ret1 rfl (rv_to (rv_tmp rfl) ?_)
        exact (bool_of (by rw [shpB, any_row (getq hc) hd2, Bool.or_true]; rfl))
      · have hd2 : (s[k]).length = z.length := by simpa using hd
        refine T_skip ?_
        refine T_blk ?_
        refine T_region ?_
        refine R_op rfl rfl rfl (op_move (Has.t rfl)) ?_
        refine R_op rfl rfl rfl (op_addN (Has.t rfl) (Has.cN 1) (by show _ < 9223372036854775808; first | omega | (simp only [lim]; omega))) ?_
        refine R_op rfl rfl rfl (op_assign (Has.t rfl)) ?_
        refine R_nil ?_
        refine T_again (k + 1) ⟨hc, fun i r h1 h2 => by
            by_cases e : i = k
            · subst e; rw [getq hc] at h2; obtain rfl := Option.some.inj h2; exact hd2
            · exact hr i r (by omega) h2⟩ (by omega) (Sub.cons rfl (Sub.cons rfl (Sub.cons rfl Sub.nil))) HSub.nil
    · simp only [decide_eq_false_iff_not] at hc
      have hall : ∀ (i : Nat) (r : List Qi), s[i]? = some r → r.length = z.length := fun i r h => hr i r (by have := (List.getElem?_eq_some_iff.1 h).1; omega) h
      refine T_exit rfl ?_
      refine T_seq ?_
      refine T_region ?_
      refine R_op rfl rfl rfl (op_assign Has.c) ?_
      refine R_nil ?_
      refine T_ret1 rfl (rv_to (rv_tmp rfl) ?_)
      exact (bool_of (by rw [shpB, any_none hall, hb]; rfl))
set_option maxRecDepth 20000 in
theorem c_allPositive {z : List Qi} {L : Nat} (hz : FitL z L) (h : L ≤ 17592186044415) (hl : z.length ≤ 100000) : Fun Tryz.prog 147 [QsT z] (BoolT (z.all posQ)) := by
  refine Fun.intro Tryz.func147 rfl Tryz.ntmps147 rfl (fun cx => ?_)
  refine T_seq ?_
  refine T_region ?_
  refine R_op rfl rfl rfl (op_assign Has.c) ?_
  refine R_nil ?_
  refine T_seq ?_
  refine T_seq ?_
  refine T_region ?_
  refine R_op rfl rfl rfl (op_assign (Has.cN 0)) ?_
  refine R_nil ?_
  refine T_block ?_
  refine T_loop (fun (k : Nat) => k ≤ z.length ∧ ∀ (i : Nat) (r : Qi), i < k → z[i]? = some r → posQ r = true) (fun (k : Nat) => z.length - k) (fun (k : Nat) => [(0, QsT z), (3, NT .i64 k)]) (fun (k : Nat) => []) 0 ⟨Nat.zero_le _, fun i r h => by omega⟩
    (Sub.cons rfl (Sub.cons rfl Sub.nil)) HSub.nil (fun k ⟨hk, hr⟩ => ?_)
  refine T_seq ?_
  refine T_seq ?_
  refine T_region ?_
  refine R_op rfl rfl rfl (op_move (Has.t rfl)) ?_
  refine R_op rfl rfl rfl (op_move (Has.t rfl)) ?_
  refine R_op rfl rfl rfl (op_len Tryz.runUnderlying36 (Has.t rfl) len_map) ?_
  refine R_op rfl rfl rfl (op_lssN (Has.t rfl) (Has.t rfl)) ?_
  refine R_nil ?_
  refine T_cond (Has.t rfl) (fun hc => ?_) (fun hc => ?_)
  · simp only [decide_eq_true_eq] at hc
    haveI hf : FitC z[k] L := hz _ (List.getElem_mem hc)
    refine T_skip ?_
    refine T_seq ?_
    refine T_block ?_
    refine T_seq ?_
    refine T_region ?_
    refine R_op rfl rfl rfl (op_move (Has.t rfl)) ?_
    refine R_op rfl rfl rfl (op_move (Has.t rfl)) ?_
    refine R_op rfl rfl rfl (op_idx Tryz.runUnderlying36 Tryz.sizeOf57 (Has.t rfl) (Has.t rfl) rfl (map_get (getq hc))) ?_
    refine R_op rfl rfl rfl (op_ld Tryz.isAgg57 Tryz.sizeOf57 (Has.t rfl)) ?_
    refine R_op rfl rfl rfl (op_call Tryz.call113 (c_rPositive (L := L) h) ⟨(Has.t rfl), trivial⟩) ?_
    refine R_op rfl rfl rfl (op_not (Has.t rfl)) ?_
    refine R_nil ?_
    refine T_cond (Has.t rfl) (fun hd => ?_) (fun hd => ?_)
    · have hd2 : posQ z[k] = false := by simpa using hd
      refine T_seq ?_
      refine T_region ?_
      refine R_op rfl rfl rfl (op_assign Has.c) ?_
      refine R_nil ?_
      refine T_ret1 rfl (rv_to (rv_tmp rfl) ?_)
      exact (bool_of (all_at (getq hc) hd2).symm)
    · have hd2 : posQ z[k] = true := by simpa using hd
      refine T_skip ?_
      refine T_blk ?_
      refine T_region ?_
      refine R_op rfl rfl rfl (op_move (Has.t rfl)) ?_
      refine R_op rfl rfl rfl (op_addN (Has.t rfl) (Has.cN 1) (by show _ < 9223372036854775808; first | omega | (simp only [lim]; omega))) ?_
      refine R_op rfl rfl rfl (op_assign (Has.t rfl)) ?_
      refine R_nil ?_
      refine T_again (k + 1) ⟨hc, fun i r h1 h2 => by
          by_cases e : i = k
          · subst e; rw [getq hc] at h2; obtain rfl := Option.some.inj h2; exact hd2
          · exact hr i r (by omega) h2⟩ (by omega) (Sub.cons rfl (Sub.cons rfl Sub.nil)) HSub.nil
  · simp only [decide_eq_false_iff_not] at hc
    have hall : ∀ (i : Nat) (r : Qi), z[i]? = some r → posQ r = true := fun i r h => hr i r (by have := (List.getElem?_eq_some_iff.1 h).1; omega) h
    refine T_exit rfl ?_
    refine T_seq ?_
    refine T_region ?_
    refine R_op rfl rfl rfl (op_assign Has.c) ?_
    refine R_nil ?_
    refine T_ret1 rfl (rv_to (rv_tmp rfl) ?_)
    exact (bool_of (all_all hall).symm)
set_option maxRecDepth 20000 in
theorem c_rnetNew {z : List Qi} {s : List (List Qi)} {L : Nat} (hz : FitL z L) (h : L ≤ 17592186044415) (hl : z.length ≤ 1000) (hl2 : s.length ≤ 1000) : Fun Tryz.prog 69 [QsT z, QM s] (TupT [RNetT (okL (netErr z s) z) (okL (netErr z s) s), IntT .i64 (netErr z s)]) := by
  refine Fun.intro Tryz.func69 rfl Tryz.ntmps69 rfl (fun cx => ?_)
  refine T_seq ?_
  refine T_region ?_
  refine R_new rfl rfl rfl (new_alloc (Ts := [Is (.slice none 0 0), Is (.slice none 0 0)]) Tryz.zeroValue39 rfl (fun V => Cells.cons' ⟨rfl, trivial⟩ (Cells.cons' ⟨rfl, trivial⟩ (Cells.nil)))) (fun B4 => ?_)
  refine R_op rfl rfl rfl (op_assign (Has.cN 0)) ?_
  refine R_nil ?_
  refine T_seq ?_
  refine T_seq ?_
  refine T_region ?_
  refine R_op rfl rfl rfl (op_move (Has.t rfl)) ?_
  refine R_op rfl rfl rfl (op_move (Has.t rfl)) ?_
  refine R_op rfl rfl rfl (op_call Tryz.call146 (c_shaped (by omega) (by omega)) ⟨(Has.t rfl), (Has.t rfl), trivial⟩) ?_
  refine R_op rfl rfl rfl (op_not (Has.t rfl)) ?_
  refine R_nil ?_
  refine T_cond (Has.t rfl) (fun hb => ?_) (fun hb => ?_)
  · have hb2 : ¬ shpB z s = true := by simpa using hb
    have he : netErr z s = 4 := by rw [netErr_if, if_neg hb2]
    refine T_seq ?_
    refine T_region ?_
    refine R_op rfl rfl rfl (OpTy.imp (bld_39_ ) rnet_nil) ?_
    refine R_stA Tryz.sizeOf39 (Has.t rfl) (Has.t rfl) rfl (i := 0) rfl (Nat.le_of_ble_eq_true rfl) rfl rfl ?_
    refine R_op rfl rfl rfl (op_assign (Has.cN 4)) ?_
    refine R_nil ?_
    refine T_ret2 rfl (rv_to (rv_cell Tryz.isAgg39 Tryz.sizeOf39 rfl (i := 0) rfl rfl) ?_) (rv_to (rv_tmp rfl) ?_)
    · exact (rnet_bad he (by decide))
    · exact (int_of he.symm)
  · have hb2 : shpB z s = true := by simpa using hb
    refine T_skip ?_
    refine T_seq ?_
    refine T_seq ?_
    refine T_region ?_
    refine R_op rfl rfl rfl (op_move (Has.t rfl)) ?_
    refine R_op rfl rfl rfl (op_call Tryz.call147 (c_allPositive (by assumption) (by assumption) (by omega)) ⟨(Has.t rfl), trivial⟩) ?_
    refine R_op rfl rfl rfl (op_not (Has.t rfl)) ?_
    refine R_nil ?_
    refine T_cond (Has.t rfl) (fun hc => ?_) (fun hc => ?_)
    · have hc2 : ¬ z.all posQ = true := by simp only [Bool.not_eq_true'] at hc; rw [hc]; exact Bool.noConfusion
      have he : netErr z s = 1 := by rw [netErr_if, if_pos hb2, if_neg hc2]
      refine T_seq ?_
      refine T_region ?_
      refine R_op rfl rfl rfl (OpTy.imp (bld_39_ ) rnet_nil) ?_
      refine R_stA Tryz.sizeOf39 (Has.t rfl) (Has.t rfl) rfl (i := 0) rfl (Nat.le_of_ble_eq_true rfl) rfl rfl ?_
      refine R_op rfl rfl rfl (op_assign (Has.cN 1)) ?_
      refine R_nil ?_
      refine T_ret2 rfl (rv_to (rv_cell Tryz.isAgg39 Tryz.sizeOf39 rfl (i := 0) rfl rfl) ?_) (rv_to (rv_tmp rfl) ?_)
      · exact (rnet_bad he (by decide))
      · exact (int_of he.symm)
    · have hc2 : z.all posQ = true := by simp only [Bool.not_eq_false'] at hc; exact hc
      have he : netErr z s = 0 := by rw [netErr_if, if_pos hb2, if_pos hc2]
      refine T_skip ?_
      refine T_seq ?_
      refine T_region ?_
      refine R_op rfl rfl rfl (op_move (Has.t rfl)) ?_
      refine R_op rfl rfl rfl (op_move (Has.t rfl)) ?_
      refine R_op rfl rfl rfl (bld_39_0_1 (Has.t rfl) (Has.t rfl)) ?_
      refine R_stA Tryz.sizeOf39 (Has.t rfl) (Has.t rfl) rfl (i := 0) rfl (Nat.le_of_ble_eq_true rfl) rfl rfl ?_
      refine R_op rfl rfl rfl (op_assign (Has.cN 0)) ?_
      refine R_nil ?_
      refine T_ret2 rfl (rv_to (rv_cell Tryz.isAgg39 Tryz.sizeOf39 rfl (i := 0) rfl rfl) ?_) (rv_to (rv_tmp rfl) ?_)
      · exact (rnet_good he)
      · exact (int_of he.symm)
set_option maxRecDepth 20000 in
theorem c_rnoiNew {z : List Qi} {s c : List (List Qi)} (hz : z.length ≤ 1000) (hc : c.length ≤ 1000) : Fun Tryz.prog 79 [RNetT z s, QM c] (TupT [RNoisyT (okL (noiErr z c) z) (okL (noiErr z c) s) (okL (noiErr z c) c), IntT .i64 (noiErr z c)]) := by
  refine Fun.intro Tryz.func79 rfl Tryz.ntmps79 rfl (fun cx => ?_)
  refine T_seq ?_
  refine T_region ?_
  refine R_new rfl rfl rfl (new_box (Has.t rfl)) (fun B2 => ?_)
  refine R_new rfl rfl rfl (new_alloc (Ts := [Is (.slice none 0 0), Is (.slice none 0 0), Is (.slice none 0 0)]) Tryz.zeroValue41 rfl (fun V => Cells.cons' ⟨rfl, trivial⟩ (Cells.cons' ⟨rfl, trivial⟩ (Cells.cons' ⟨rfl, trivial⟩ (Cells.nil))))) (fun B4 => ?_)
  refine R_op rfl rfl rfl (op_assign (Has.cN 0)) ?_
  refine R_nil ?_
  refine T_seq ?_
  refine T_seq ?_
  refine T_region ?_
  refine R_op rfl rfl rfl (op_move (Has.t rfl)) ?_
  refine R_op rfl rfl rfl (op_len Tryz.runUnderlying37 (Has.t rfl) len_map) ?_
  refine R_op rfl rfl rfl (op_fldB fa_39_0 (Has.t rfl) rfl) ?_
  refine R_op rfl rfl rfl (op_ldB Tryz.isAgg36 Tryz.sizeOf36 (Has.t rfl) (i := 0) rfl rfl) ?_
  refine R_op rfl rfl rfl (op_len Tryz.runUnderlying36 (Has.t rfl) len_map) ?_
  refine R_op rfl rfl rfl (op_neqN (Has.t rfl) (Has.t rfl)) ?_
  refine R_nil ?_
  refine T_cond (Has.t rfl) (fun hb => ?_) (fun hb => ?_)
  · have hb2 : ¬ c.length = z.length := by simpa using hb
    have he : noiErr z c = 4 := by rw [← rnoiErr_eq, rnoiErr, if_pos (.inl hb2)]
    refine T_seq ?_
    refine T_region ?_
    refine R_op rfl rfl rfl (OpTy.imp (bld_41_ ) rnoisy_nil) ?_
    refine R_stA Tryz.sizeOf41 (Has.t rfl) (Has.t rfl) rfl (i := 1) rfl (Nat.le_of_ble_eq_true rfl) rfl rfl ?_
    refine R_op rfl rfl rfl (op_assign (Has.cN 4)) ?_
    refine R_nil ?_
    refine T_ret2 rfl (rv_to (rv_cell Tryz.isAgg41 Tryz.sizeOf41 rfl (i := 1) rfl rfl) ?_) (rv_to (rv_tmp rfl) ?_)
    · exact (rnoisy_bad he)
    · exact (int_of he.symm)
  · have hb2 : c.length = z.length := by simpa using hb
    refine T_skip ?_
    refine T_seq ?_
    refine T_seq ?_
    refine T_region ?_
    refine R_op rfl rfl rfl (op_assign (Has.cN 0)) ?_
    refine R_nil ?_
    refine T_block ?_
    refine T_loop (fun (k : Nat) => k ≤ c.length ∧ ∀ (i : Nat) (r : List Qi), i < k → c[i]? = some r → r.length = z.length) (fun (k : Nat) => c.length - k) (fun (k : Nat) => [(1, QM c), (2, PtrB B2 0), (4, PtrB B4 0), (6, NT .i64 k)]) (fun (k : Nat) => [box B2 39 [QsT z, QM s], box B4 41 [Is (.slice none 0 0), Is (.slice none 0 0), Is (.slice none 0 0)]]) 0 ⟨Nat.zero_le _, fun i r h => by omega⟩
      (Sub.cons rfl (Sub.cons rfl (Sub.cons rfl (Sub.cons rfl Sub.nil)))) (HSub.refl _) (fun k ⟨hk, hr⟩ => ?_)
    refine T_seq ?_
    refine T_seq ?_
    refine T_region ?_
    refine R_op rfl rfl rfl (op_move (Has.t rfl)) ?_
    refine R_op rfl rfl rfl (op_move (Has.t rfl)) ?_
    refine R_op rfl rfl rfl (op_len Tryz.runUnderlying37 (Has.t rfl) len_map) ?_
    refine R_op rfl rfl rfl (op_lssN (Has.t rfl) (Has.t rfl)) ?_
    refine R_nil ?_
    refine T_cond (Has.t rfl) (fun hd => ?_) (fun hd => ?_)
    · simp only [decide_eq_true_eq] at hd
      refine T_skip ?_
      refine T_seq ?_
      refine T_block ?_
      refine T_seq ?_
      refine D_start (m := 8) ?_
      refine D_step (Ei := [(1, _)]) rfl rfl (Srcs.cons (Src.pre rfl rfl) Srcs.nil) (S_plain rfl (op_move (Has.t rfl))) ?_
      refine D_step (Ei := [(6, _)]) rfl rfl (Srcs.cons (Src.pre rfl rfl) Srcs.nil) (S_plain rfl (op_move (Has.t rfl))) ?_
      refine D_step (Ei := [(20, _), (21, _)]) rfl rfl (Srcs.cons (Src.op 0 rfl rfl) (Srcs.cons (Src.op 1 rfl rfl) Srcs.nil)) (S_plain rfl (op_idx Tryz.runUnderlying37 Tryz.sizeOf36 (Has.t rfl) (Has.t rfl) rfl (map_get (getq hd)))) ?_
      refine D_step (Ei := [(22, _)]) rfl rfl (Srcs.cons (Src.op 2 rfl rfl) Srcs.nil) (S_plain rfl (op_ld Tryz.isAgg36 Tryz.sizeOf36 (Has.t rfl))) ?_
      refine D_step (Ei := [(23, _)]) rfl rfl (Srcs.cons (Src.op 3 rfl rfl) Srcs.nil) (S_plain rfl (op_len Tryz.runUnderlying36 (Has.t rfl) len_map)) ?_
      refine D_step (Ei := [(2, _)]) rfl rfl (Srcs.cons (Src.pre rfl rfl) Srcs.nil) (S_plain rfl (op_fldB fa_39_0 (Has.t rfl) rfl)) ?_
      refine D_step (Ei := [(25, _)]) rfl rfl (Srcs.cons (Src.op 5 rfl rfl) Srcs.nil) (S_plain rfl (op_ldB Tryz.isAgg36 Tryz.sizeOf36 (Has.t rfl) (i := 0) rfl rfl)) ?_
      refine D_step (Ei := [(26, _)]) rfl rfl (Srcs.cons (Src.op 6 rfl rfl) Srcs.nil) (S_plain rfl (op_len Tryz.runUnderlying36 (Has.t rfl) len_map)) ?_
      refine D_done mixed rfl (by kernel_rfl) (F_val (F_val (F_val (F_val (F_val (F_val (F_val (F_val (F_nil ?_)))))))))
      refine R_op rfl rfl rfl (op_neqN (Has.t rfl) (Has.t rfl)) ?_
      refine R_nil ?_
      refine T_cond (Has.t rfl) (fun he => ?_) (fun he => ?_)
      · have hd2 : ¬ (c[k]).length = z.length := by simpa using he
        have he : noiErr z c = 4 := by rw [← rnoiErr_eq, rnoiErr, if_pos (.inr (any_row (getq hd) hd2))]
        refine T_seq ?_
        refine T_region ?_
        refine R_op rfl rfl rfl (OpTy.imp (bld_41_ ) rnoisy_nil) ?_
        refine R_stA Tryz.sizeOf41 (Has.t rfl) (Has.t rfl) rfl (i := 1) rfl (Nat.le_of_ble_eq_true rfl) rfl rfl ?_
        refine R_op rfl rfl rfl (op_assign (Has.cN 4)) ?_
        refine R_nil ?_
        refine T_ret2 rfl (rv_to (rv_cell Tryz.isAgg41 Tryz.sizeOf41 rfl (i := 1) rfl rfl) ?_) (rv_to (rv_tmp rfl) ?_)
        · exact (rnoisy_bad he)
        · exact (int_of he.symm)
      · have hd2 : (c[k]).length = z.length := by simpa using he
        refine T_skip ?_
        refine T_blk ?_
        refine T_region ?_
        refine R_op rfl rfl rfl (op_move (Has.t rfl)) ?_
        refine R_op rfl rfl rfl (op_addN (Has.t rfl) (Has.cN 1) (by show _ < 9223372036854775808; first | omega | (simp only [lim]; omega))) ?_
        refine R_op rfl rfl rfl (op_assign (Has.t rfl)) ?_
        refine R_nil ?_
        refine T_again (k + 1) ⟨hd, fun i r h1 h2 => by
            by_cases e : i = k
            · subst e; rw [getq hd] at h2; obtain rfl := Option.some.inj h2; exact hd2
            · exact hr i r (by omega) h2⟩ (by omega) (Sub.cons rfl (Sub.cons rfl (Sub.cons rfl (Sub.cons rfl Sub.nil)))) (HSub.refl _)
    · simp only [decide_eq_false_iff_not] at hd
      have hall : ∀ (i : Nat) (r : List Qi), c[i]? = some r → r.length = z.length := fun i r h => hr i r (by have := (List.getElem?_eq_some_iff.1 h).1; omega) h
      have he : noiErr z c = 0 := by rw [← rnoiErr_eq, rnoiErr, if_neg (by rintro (h | h); exact h hb2; rw [any_none hall] at h; cases h)]
      refine T_exit rfl ?_
      refine T_seq ?_
      refine T_region ?_
      refine R_op rfl rfl rfl (op_ldBA Tryz.isAgg39 Tryz.sizeOf39 (Has.t rfl) (i := 0) rfl rfl rfl) ?_
      refine R_op rfl rfl rfl (op_move (Has.t rfl)) ?_
      refine R_op rfl rfl rfl (bld_41_0_1 (Has.t rfl) (Has.t rfl)) ?_
      refine R_stA Tryz.sizeOf41 (Has.t rfl) (Has.t rfl) rfl (i := 1) rfl (Nat.le_of_ble_eq_true rfl) rfl rfl ?_
      refine R_op rfl rfl rfl (op_assign (Has.cN 0)) ?_
      refine R_nil ?_
      refine T_ret2 rfl (rv_to (rv_cell Tryz.isAgg41 Tryz.sizeOf41 rfl (i := 1) rfl rfl) ?_) (rv_to (rv_tmp rfl) ?_)
      · exact (rnoisy_good he)
      · exact (int_of he.symm)
set_option maxRecDepth 20000 in
theorem c_rTemp {x : Qi} {L : Nat} [hx : FitC x L] (h : L ≤ 17592186044415) : Fun Tryz.prog 97 [QT x] (BoolT (decide (cmpI x.b 0 = 0) && decide (0 ≤ cmpI x.a 0))) := by
  refine Fun.intro Tryz.func97 rfl Tryz.ntmps97 rfl (fun cx => ?_)
  refine T_seq ?_
  refine T_region ?_
  refine R_new rfl rfl rfl (new_box (Has.t rfl)) (fun B1 => ?_)
  refine R_op rfl rfl rfl (op_assign Has.c) ?_
  refine R_nil ?_
  refine T_seq ?_
  refine T_region ?_
  refine R_op rfl rfl rfl (op_ldBA Tryz.isAgg57 Tryz.sizeOf57 (Has.t rfl) (i := 0) rfl rfl rfl) ?_
  refine R_op rfl rfl rfl (op_call Tryz.call84 (c_rSide (by omega)) ⟨(Has.t rfl), trivial⟩) ?_
  refine R_op rfl rfl rfl (op_eql (Has.t rfl) Has.c) ?_
  refine R_op rfl rfl rfl (op_move (Has.t rfl)) ?_
  refine R_step rfl rfl (S_when rfl rfl (Has.t rfl) (fun h => op_ldBA Tryz.isAgg57 Tryz.sizeOf57 (Has.t rfl) (i := 0) rfl rfl rfl)) ?_
  refine R_step rfl rfl (S_when rfl rfl (Has.t rfl) (fun h => op_call Tryz.call85 c_rSign ⟨(Has.w rfl h), trivial⟩)) ?_
  refine R_step rfl rfl (S_when rfl rfl (Has.t rfl) (fun h => op_geq (Has.w rfl h) Has.c)) ?_
  refine R_op rfl rfl rfl (op_and (Has.t rfl) (fun h => (Has.w rfl h))) ?_
  refine R_op rfl rfl rfl (op_assign (Has.t rfl)) ?_
  refine R_nil ?_
  exact T_ret1 rfl (rv_tmp rfl)
end Go.Proofs.YtppibhcfaahgpaaGreat
namespace Go.Proofs.YtppibhcfaahgpaaGreat
open Go Go.RowKit
set_option maxRecDepth 20000 in
theorem c_made {z : List Rt} {s c : List (List Rt)} (hf : fewB z s c = true) : Fun Tryz.prog 16 [LawT z s c] (TupT [NoisyT (mdZ z s c) (mdS z s c) (mdC z s c), RNoisyT (mdZ z s c) (mdS z s c) (mdC z s c), BoolT true]) := by
  obtain ⟨hz, hs, hc, hsr, hcr⟩ := fewB_ok hf
  have hsr2 : ∀ r, r ∈ s → r.length ≤ 1000 := fun r h => Nat.le_trans (hsr r h) (by decide)
  have hcr2 : ∀ r, r ∈ c → r.length ≤ 1000 := fun r h => Nat.le_trans (hcr r h) (by decide)
  have hz1 : (z.map Rt.q).length ≤ 1000 := by simp; omega
  have hs1 : (rq s).length ≤ 1000 := by simp; omega
  have hc1 : (rq c).length ≤ 1000 := by simp; omega
  have hz2 : (okL (netErr (z.map Rt.q) (rq s)) (z.map Rt.q)).length ≤ 1000 := Nat.le_trans (okL_len _ _) hz1
  have hfit : FitL (z.map Rt.q) 2 := FitL.rt
  refine Fun.intro Tryz.func16 rfl Tryz.ntmps16 rfl (fun cx => ?_)
  refine T_seq ?_
  refine T_region ?_
  refine R_new rfl rfl rfl (new_box (Has.t rfl)) (fun B1 => ?_)
  refine R_new rfl rfl rfl (new_alloc (Ts := [Is (.slice none 0 0), Is (.slice none 0 0), Is (.slice none 0 0)]) Tryz.zeroValue35 rfl (fun V => Cells.cons' ⟨rfl, trivial⟩ (Cells.cons' ⟨rfl, trivial⟩ (Cells.cons' ⟨rfl, trivial⟩ (Cells.nil))))) (fun B2 => ?_)
  refine R_new rfl rfl rfl (new_alloc (Ts := [Is (.slice none 0 0), Is (.slice none 0 0), Is (.slice none 0 0)]) Tryz.zeroValue41 rfl (fun V => Cells.cons' ⟨rfl, trivial⟩ (Cells.cons' ⟨rfl, trivial⟩ (Cells.cons' ⟨rfl, trivial⟩ (Cells.nil))))) (fun B3 => ?_)
  refine R_op rfl rfl rfl (op_assign Has.c) ?_
  refine R_nil ?_
  refine T_seq ?_
  refine Y.D_start (m := 12) [] ?_
  refine Y.D_hide (Ei := [(1, _)]) rfl rfl (Y.Srcs.cons (Y.Src.pre rfl rfl) Y.Srcs.nil) rfl rfl (S_plain rfl (op_fldB fa_25_0 (Has.t rfl) rfl)) ?_
  refine Y.D_hide (Ei := [(14, _)]) rfl rfl (Y.Srcs.cons (Y.Src.op 0 rfl rfl) Y.Srcs.nil) rfl rfl (S_plain rfl (op_ldB Tryz.isAgg22 Tryz.sizeOf22 (Has.t rfl) (i := 0) rfl rfl)) ?_
  refine Y.D_hide (Ei := [(15, _)]) rfl rfl (Y.Srcs.cons (Y.Src.op 1 rfl rfl) Y.Srcs.nil) rfl rfl (S_plain rfl (op_call Tryz.call30 (c_lawList (by omega)) ⟨(Has.t rfl), trivial⟩)) ?_
  refine Y.D_hide (Ei := [(1, _)]) rfl rfl (Y.Srcs.cons (Y.Src.pre rfl rfl) Y.Srcs.nil) rfl rfl (S_plain rfl (op_fldB fa_25_1 (Has.t rfl) rfl)) ?_
  refine Y.D_hide (Ei := [(17, _)]) rfl rfl (Y.Srcs.cons (Y.Src.op 3 rfl rfl) Y.Srcs.nil) rfl rfl (S_plain rfl (op_ldB Tryz.isAgg23 Tryz.sizeOf23 (Has.t rfl) (i := 0) rfl rfl)) ?_
  refine Y.D_hide (Ei := [(18, _)]) rfl rfl (Y.Srcs.cons (Y.Src.op 4 rfl rfl) Y.Srcs.nil) rfl rfl (S_plain rfl (op_call Tryz.call31 (c_lawRows (by omega) (by assumption)) ⟨(Has.t rfl), trivial⟩)) ?_
  refine Y.D_hide (Ei := [(16, _), (19, _)]) rfl rfl (Y.Srcs.cons (Y.Src.op 2 rfl rfl) (Y.Srcs.cons (Y.Src.op 5 rfl rfl) Y.Srcs.nil)) rfl rfl (S_plain rfl (op_call Tryz.call29 (c_netNew (L := 2) (by assumption) (by omega) (by omega) (by omega)) ⟨(Has.t rfl), (Has.t rfl), trivial⟩)) ?_
  refine Y.D_hide (Ei := [(20, _)]) rfl rfl (Y.Srcs.cons (Y.Src.op 6 rfl rfl) Y.Srcs.nil) rfl rfl (S_plain rfl (op_move (Has.t rfl))) ?_
  refine Y.D_hide (Ei := [(13, _)]) rfl rfl (Y.Srcs.cons (Y.Src.op 7 rfl rfl) Y.Srcs.nil) rfl rfl (S_plain rfl (op_extract (Has.t rfl) rfl)) ?_
  refine Y.D_hide (Ei := [(13, _)]) rfl rfl (Y.Srcs.cons (Y.Src.op 7 rfl rfl) Y.Srcs.nil) rfl rfl (S_plain rfl (op_extract (Has.t rfl) rfl)) ?_
  refine Y.D_newp (Ei := []) (fun bb => box bb 33 [NumsT (okL (netErr (z.map Rt.q) (rq s)) (z.map Rt.q)), NumM (okL (netErr (z.map Rt.q) (rq s)) (rq s))]) 11 rfl rfl rfl Y.Srcs.nil rfl rfl (by kernel_rfl) (new_alloc (Ts := [Is (.slice none 0 0), Is (.slice none 0 0)]) Tryz.zeroValue33 rfl (fun V => Cells.cons' ⟨rfl, trivial⟩ (Cells.cons' ⟨rfl, trivial⟩ (Cells.nil)))) ?_
  refine Y.D_putN (Ei := [(21, _)]) 10 rfl rfl rfl rfl rfl rfl (Y.Srcs.cons (Y.Src.op 8 rfl rfl) Y.Srcs.nil) (fun bb => P_stA Tryz.sizeOf33 (Has.t rfl) (Has.t rfl) rfl (i := 0) rfl (Nat.le_of_ble_eq_true rfl) rfl rfl) ?_
  refine Y.D_done mixed rfl (by kernel_rfl) rfl (by simp [Y.okP]) rfl rfl (Y.F_val (Y.F_val (Y.F_val (Y.F_val (Y.F_val (Y.F_val (Y.F_val (Y.F_val (Y.F_val (Y.F_val (Y.F_newp (fun B5 => Y.F_putN (Y.F_nil ?_)))))))))))))
  refine R_op rfl rfl rfl (op_assign (Has.t rfl)) ?_
  refine R_nil ?_
  refine T_seq ?_
  refine Y.D_start (m := 10) [] ?_
  refine Y.D_hide (Ei := [(5, _)]) rfl rfl (Y.Srcs.cons (Y.Src.pre rfl rfl) Y.Srcs.nil) rfl rfl (S_plain rfl (op_ldBA Tryz.isAgg33 Tryz.sizeOf33 (Has.t rfl) (i := 3) rfl rfl rfl)) ?_
  refine Y.D_hide (Ei := [(1, _)]) rfl rfl (Y.Srcs.cons (Y.Src.pre rfl rfl) Y.Srcs.nil) rfl rfl (S_plain rfl (op_fldB fa_25_2 (Has.t rfl) rfl)) ?_
  refine Y.D_hide (Ei := [(25, _)]) rfl rfl (Y.Srcs.cons (Y.Src.op 1 rfl rfl) Y.Srcs.nil) rfl rfl (S_plain rfl (op_ldB Tryz.isAgg23 Tryz.sizeOf23 (Has.t rfl) (i := 0) rfl rfl)) ?_
  refine Y.D_hide (Ei := [(26, _)]) rfl rfl (Y.Srcs.cons (Y.Src.op 2 rfl rfl) Y.Srcs.nil) rfl rfl (S_plain rfl (op_call Tryz.call31 (c_lawRows (by omega) (by assumption)) ⟨(Has.t rfl), trivial⟩)) ?_
  refine Y.D_hide (Ei := [(24, _), (27, _)]) rfl rfl (Y.Srcs.cons (Y.Src.op 0 rfl rfl) (Y.Srcs.cons (Y.Src.op 3 rfl rfl) Y.Srcs.nil)) rfl rfl (S_plain rfl (op_call Tryz.call76 (c_noiNew (by omega) (by omega)) ⟨(Has.t rfl), (Has.t rfl), trivial⟩)) ?_
  refine Y.D_hide (Ei := [(28, _)]) rfl rfl (Y.Srcs.cons (Y.Src.op 4 rfl rfl) Y.Srcs.nil) rfl rfl (S_plain rfl (op_move (Has.t rfl))) ?_
  refine Y.D_hide (Ei := [(23, _)]) rfl rfl (Y.Srcs.cons (Y.Src.op 5 rfl rfl) Y.Srcs.nil) rfl rfl (S_plain rfl (op_extract (Has.t rfl) rfl)) ?_
  refine Y.D_hide (Ei := [(23, _)]) rfl rfl (Y.Srcs.cons (Y.Src.op 5 rfl rfl) Y.Srcs.nil) rfl rfl (S_plain rfl (op_extract (Has.t rfl) rfl)) ?_
  refine Y.D_newp (Ei := []) (fun bb => box bb 35 [NumsT (okL (noiErr (okL (netErr (z.map Rt.q) (rq s)) (z.map Rt.q)) (rq c)) (okL (netErr (z.map Rt.q) (rq s)) (z.map Rt.q))), NumM (okL (noiErr (okL (netErr (z.map Rt.q) (rq s)) (z.map Rt.q)) (rq c)) (okL (netErr (z.map Rt.q) (rq s)) (rq s))), NumM (okL (noiErr (okL (netErr (z.map Rt.q) (rq s)) (z.map Rt.q)) (rq c)) (rq c))]) 9 rfl rfl rfl Y.Srcs.nil rfl rfl (by kernel_rfl) (new_alloc (Ts := [Is (.slice none 0 0), Is (.slice none 0 0), Is (.slice none 0 0)]) Tryz.zeroValue35 rfl (fun V => Cells.cons' ⟨rfl, trivial⟩ (Cells.cons' ⟨rfl, trivial⟩ (Cells.cons' ⟨rfl, trivial⟩ (Cells.nil))))) ?_
  refine Y.D_putN (Ei := [(29, _)]) 8 rfl rfl rfl rfl rfl rfl (Y.Srcs.cons (Y.Src.op 6 rfl rfl) Y.Srcs.nil) (fun bb => P_stA Tryz.sizeOf35 (Has.t rfl) (Has.t rfl) rfl (i := 0) rfl (Nat.le_of_ble_eq_true rfl) rfl rfl) ?_
  refine Y.D_done mixed rfl (by kernel_rfl) rfl (by simp [Y.okP]) rfl rfl (Y.F_val (Y.F_val (Y.F_val (Y.F_val (Y.F_val (Y.F_val (Y.F_val (Y.F_val (Y.F_newp (fun B7 => Y.F_putN (Y.F_nil ?_)))))))))))
  refine R_op rfl rfl rfl (op_assign (Has.t rfl)) ?_
  refine R_nil ?_
  refine T_seq ?_
  refine Y.D_start (m := 12) [] ?_
  refine Y.D_hide (Ei := [(1, _)]) rfl rfl (Y.Srcs.cons (Y.Src.pre rfl rfl) Y.Srcs.nil) rfl rfl (S_plain rfl (op_fldB fa_25_0 (Has.t rfl) rfl)) ?_
  refine Y.D_hide (Ei := [(32, _)]) rfl rfl (Y.Srcs.cons (Y.Src.op 0 rfl rfl) Y.Srcs.nil) rfl rfl (S_plain rfl (op_ldB Tryz.isAgg22 Tryz.sizeOf22 (Has.t rfl) (i := 0) rfl rfl)) ?_
  refine Y.D_hide (Ei := [(33, _)]) rfl rfl (Y.Srcs.cons (Y.Src.op 1 rfl rfl) Y.Srcs.nil) rfl rfl (S_plain rfl (op_call Tryz.call77 (c_refList (by omega)) ⟨(Has.t rfl), trivial⟩)) ?_
  refine Y.D_hide (Ei := [(1, _)]) rfl rfl (Y.Srcs.cons (Y.Src.pre rfl rfl) Y.Srcs.nil) rfl rfl (S_plain rfl (op_fldB fa_25_1 (Has.t rfl) rfl)) ?_
  refine Y.D_hide (Ei := [(35, _)]) rfl rfl (Y.Srcs.cons (Y.Src.op 3 rfl rfl) Y.Srcs.nil) rfl rfl (S_plain rfl (op_ldB Tryz.isAgg23 Tryz.sizeOf23 (Has.t rfl) (i := 0) rfl rfl)) ?_
  refine Y.D_hide (Ei := [(36, _)]) rfl rfl (Y.Srcs.cons (Y.Src.op 4 rfl rfl) Y.Srcs.nil) rfl rfl (S_plain rfl (op_call Tryz.call78 (c_refRows (by omega) (by assumption)) ⟨(Has.t rfl), trivial⟩)) ?_
  refine Y.D_hide (Ei := [(34, _), (37, _)]) rfl rfl (Y.Srcs.cons (Y.Src.op 2 rfl rfl) (Y.Srcs.cons (Y.Src.op 5 rfl rfl) Y.Srcs.nil)) rfl rfl (S_plain rfl (op_call Tryz.call69 (c_rnetNew (L := 2) (by assumption) (by omega) (by omega) (by omega)) ⟨(Has.t rfl), (Has.t rfl), trivial⟩)) ?_
  refine Y.D_hide (Ei := [(38, _)]) rfl rfl (Y.Srcs.cons (Y.Src.op 6 rfl rfl) Y.Srcs.nil) rfl rfl (S_plain rfl (op_move (Has.t rfl))) ?_
  refine Y.D_hide (Ei := [(31, _)]) rfl rfl (Y.Srcs.cons (Y.Src.op 7 rfl rfl) Y.Srcs.nil) rfl rfl (S_plain rfl (op_extract (Has.t rfl) rfl)) ?_
  refine Y.D_hide (Ei := [(31, _)]) rfl rfl (Y.Srcs.cons (Y.Src.op 7 rfl rfl) Y.Srcs.nil) rfl rfl (S_plain rfl (op_extract (Has.t rfl) rfl)) ?_
  refine Y.D_newp (Ei := []) (fun bb => box bb 39 [QsT (okL (netErr (z.map Rt.q) (rq s)) (z.map Rt.q)), QM (okL (netErr (z.map Rt.q) (rq s)) (rq s))]) 11 rfl rfl rfl Y.Srcs.nil rfl rfl (by kernel_rfl) (new_alloc (Ts := [Is (.slice none 0 0), Is (.slice none 0 0)]) Tryz.zeroValue39 rfl (fun V => Cells.cons' ⟨rfl, trivial⟩ (Cells.cons' ⟨rfl, trivial⟩ (Cells.nil)))) ?_
  refine Y.D_putN (Ei := [(39, _)]) 10 rfl rfl rfl rfl rfl rfl (Y.Srcs.cons (Y.Src.op 8 rfl rfl) Y.Srcs.nil) (fun bb => P_stA Tryz.sizeOf39 (Has.t rfl) (Has.t rfl) rfl (i := 0) rfl (Nat.le_of_ble_eq_true rfl) rfl rfl) ?_
  refine Y.D_done mixed rfl (by kernel_rfl) rfl (by simp [Y.okP]) rfl rfl (Y.F_val (Y.F_val (Y.F_val (Y.F_val (Y.F_val (Y.F_val (Y.F_val (Y.F_val (Y.F_val (Y.F_val (Y.F_newp (fun B9 => Y.F_putN (Y.F_nil ?_)))))))))))))
  refine R_op rfl rfl rfl (op_assign (Has.t rfl)) ?_
  refine R_nil ?_
  refine T_seq ?_
  refine Y.D_start (m := 10) [] ?_
  refine Y.D_hide (Ei := [(9, _)]) rfl rfl (Y.Srcs.cons (Y.Src.pre rfl rfl) Y.Srcs.nil) rfl rfl (S_plain rfl (op_ldBA Tryz.isAgg39 Tryz.sizeOf39 (Has.t rfl) (i := 5) rfl rfl rfl)) ?_
  refine Y.D_hide (Ei := [(1, _)]) rfl rfl (Y.Srcs.cons (Y.Src.pre rfl rfl) Y.Srcs.nil) rfl rfl (S_plain rfl (op_fldB fa_25_2 (Has.t rfl) rfl)) ?_
  refine Y.D_hide (Ei := [(43, _)]) rfl rfl (Y.Srcs.cons (Y.Src.op 1 rfl rfl) Y.Srcs.nil) rfl rfl (S_plain rfl (op_ldB Tryz.isAgg23 Tryz.sizeOf23 (Has.t rfl) (i := 0) rfl rfl)) ?_
  refine Y.D_hide (Ei := [(44, _)]) rfl rfl (Y.Srcs.cons (Y.Src.op 2 rfl rfl) Y.Srcs.nil) rfl rfl (S_plain rfl (op_call Tryz.call78 (c_refRows (by omega) (by assumption)) ⟨(Has.t rfl), trivial⟩)) ?_
  refine Y.D_hide (Ei := [(42, _), (45, _)]) rfl rfl (Y.Srcs.cons (Y.Src.op 0 rfl rfl) (Y.Srcs.cons (Y.Src.op 3 rfl rfl) Y.Srcs.nil)) rfl rfl (S_plain rfl (op_call Tryz.call79 (c_rnoiNew (by omega) (by omega)) ⟨(Has.t rfl), (Has.t rfl), trivial⟩)) ?_
  refine Y.D_hide (Ei := [(46, _)]) rfl rfl (Y.Srcs.cons (Y.Src.op 4 rfl rfl) Y.Srcs.nil) rfl rfl (S_plain rfl (op_move (Has.t rfl))) ?_
  refine Y.D_hide (Ei := [(41, _)]) rfl rfl (Y.Srcs.cons (Y.Src.op 5 rfl rfl) Y.Srcs.nil) rfl rfl (S_plain rfl (op_extract (Has.t rfl) rfl)) ?_
  refine Y.D_hide (Ei := [(41, _)]) rfl rfl (Y.Srcs.cons (Y.Src.op 5 rfl rfl) Y.Srcs.nil) rfl rfl (S_plain rfl (op_extract (Has.t rfl) rfl)) ?_
  refine Y.D_newp (Ei := []) (fun bb => box bb 41 [QsT (okL (noiErr (okL (netErr (z.map Rt.q) (rq s)) (z.map Rt.q)) (rq c)) (okL (netErr (z.map Rt.q) (rq s)) (z.map Rt.q))), QM (okL (noiErr (okL (netErr (z.map Rt.q) (rq s)) (z.map Rt.q)) (rq c)) (okL (netErr (z.map Rt.q) (rq s)) (rq s))), QM (okL (noiErr (okL (netErr (z.map Rt.q) (rq s)) (z.map Rt.q)) (rq c)) (rq c))]) 9 rfl rfl rfl Y.Srcs.nil rfl rfl (by kernel_rfl) (new_alloc (Ts := [Is (.slice none 0 0), Is (.slice none 0 0), Is (.slice none 0 0)]) Tryz.zeroValue41 rfl (fun V => Cells.cons' ⟨rfl, trivial⟩ (Cells.cons' ⟨rfl, trivial⟩ (Cells.cons' ⟨rfl, trivial⟩ (Cells.nil))))) ?_
  refine Y.D_putN (Ei := [(47, _)]) 8 rfl rfl rfl rfl rfl rfl (Y.Srcs.cons (Y.Src.op 6 rfl rfl) Y.Srcs.nil) (fun bb => P_stA Tryz.sizeOf41 (Has.t rfl) (Has.t rfl) rfl (i := 0) rfl (Nat.le_of_ble_eq_true rfl) rfl rfl) ?_
  refine Y.D_done mixed rfl (by kernel_rfl) rfl (by simp [Y.okP]) rfl rfl (Y.F_val (Y.F_val (Y.F_val (Y.F_val (Y.F_val (Y.F_val (Y.F_val (Y.F_val (Y.F_newp (fun B11 => Y.F_putN (Y.F_nil ?_)))))))))))
  refine R_op rfl rfl rfl (op_assign (Has.t rfl)) ?_
  refine R_nil ?_
  refine T_seq ?_
  refine Y.D_start (m := 16) [(14, 1, box B2 35 [NumsT (okL (noiErr (okL (netErr (z.map Rt.q) (rq s)) (z.map Rt.q)) (rq c)) (okL (netErr (z.map Rt.q) (rq s)) (z.map Rt.q))), NumM (okL (noiErr (okL (netErr (z.map Rt.q) (rq s)) (z.map Rt.q)) (rq c)) (okL (netErr (z.map Rt.q) (rq s)) (rq s))), NumM (okL (noiErr (okL (netErr (z.map Rt.q) (rq s)) (z.map Rt.q)) (rq c)) (rq c))]), (15, 2, box B3 41 [QsT (okL (noiErr (okL (netErr (z.map Rt.q) (rq s)) (z.map Rt.q)) (rq c)) (okL (netErr (z.map Rt.q) (rq s)) (z.map Rt.q))), QM (okL (noiErr (okL (netErr (z.map Rt.q) (rq s)) (z.map Rt.q)) (rq c)) (okL (netErr (z.map Rt.q) (rq s)) (rq s))), QM (okL (noiErr (okL (netErr (z.map Rt.q) (rq s)) (z.map Rt.q)) (rq c)) (rq c))])] ?_
  refine Y.D_step (Ei := [(7, _)]) rfl rfl (Y.Srcs.cons (Y.Src.pre rfl rfl) Y.Srcs.nil) rfl rfl (by kernel_rfl) (S_plain rfl (op_ldBA Tryz.isAgg35 Tryz.sizeOf35 (Has.t rfl) (i := 4) rfl rfl rfl)) ?_
  refine Y.D_hide (Ei := [(11, _)]) rfl rfl (Y.Srcs.cons (Y.Src.pre rfl rfl) Y.Srcs.nil) rfl rfl (S_plain rfl (op_ldBA Tryz.isAgg41 Tryz.sizeOf41 (Has.t rfl) (i := 6) rfl rfl rfl)) ?_
  refine Y.D_step (Ei := [(6, _)]) rfl rfl (Y.Srcs.cons (Y.Src.pre rfl rfl) Y.Srcs.nil) rfl rfl (by kernel_rfl) (S_plain rfl (op_move (Has.t rfl))) ?_
  refine Y.D_step (Ei := [(10, _)]) rfl rfl (Y.Srcs.cons (Y.Src.pre rfl rfl) Y.Srcs.nil) rfl rfl (by kernel_rfl) (S_plain rfl (op_move (Has.t rfl))) ?_
  refine Y.D_step (Ei := [(51, _), (52, _)]) rfl rfl (Y.Srcs.cons (Y.Src.op 2 rfl rfl) (Y.Srcs.cons (Y.Src.op 3 rfl rfl) Y.Srcs.nil)) rfl rfl (by kernel_rfl) (S_plain rfl (op_eql (Has.t rfl) (Has.t rfl))) ?_
  refine Y.D_step (Ei := [(53, _)]) rfl rfl (Y.Srcs.cons (Y.Src.op 4 rfl rfl) Y.Srcs.nil) rfl rfl (by kernel_rfl) (S_plain rfl (op_move (Has.t rfl))) ?_
  refine Y.D_step (Ei := [(6, _), (54, _)]) rfl rfl (Y.Srcs.cons (Y.Src.pre rfl rfl) (Y.Srcs.cons (Y.Src.op 5 rfl rfl) Y.Srcs.nil)) rfl rfl (by kernel_rfl) (S_whenU rfl rfl (Has.t rfl) (fun h => op_move (Has.t rfl))) ?_
  refine Y.D_step (Ei := [(55, _), (54, _)]) rfl rfl (Y.Srcs.cons (Y.Src.op 6 rfl rfl) (Y.Srcs.cons (Y.Src.op 5 rfl rfl) Y.Srcs.nil)) rfl rfl (by kernel_rfl) (S_whenU rfl rfl (Has.t rfl) (fun h => op_neq (Has.wu rfl h) Has.c)) ?_
  refine Y.D_step (Ei := [(56, _), (54, _)]) rfl rfl (Y.Srcs.cons (Y.Src.op 7 rfl rfl) (Y.Srcs.cons (Y.Src.op 5 rfl rfl) Y.Srcs.nil)) rfl rfl (by kernel_rfl) (S_whenU rfl rfl (Has.t rfl) (fun h => op_move (Has.wu rfl h))) ?_
  refine Y.D_hide (Ei := [(8, _), (57, _)]) rfl rfl (Y.Srcs.cons (Y.Src.pre rfl rfl) (Y.Srcs.cons (Y.Src.op 8 rfl rfl) Y.Srcs.nil)) rfl rfl (S_when2 rfl rfl rfl (fun h h2 => op_move (Has.t rfl))) ?_
  refine Y.D_hide (Ei := [(12, _), (57, _)]) rfl rfl (Y.Srcs.cons (Y.Src.pre rfl rfl) (Y.Srcs.cons (Y.Src.op 8 rfl rfl) Y.Srcs.nil)) rfl rfl (S_when2 rfl rfl rfl (fun h h2 => op_move (Has.t rfl))) ?_
  refine Y.D_hide (Ei := [(58, _), (59, _), (57, _)]) rfl rfl (Y.Srcs.cons (Y.Src.op 9 rfl rfl) (Y.Srcs.cons (Y.Src.op 10 rfl rfl) (Y.Srcs.cons (Y.Src.op 8 rfl rfl) Y.Srcs.nil))) rfl rfl (S_when2 rfl rfl rfl (fun h h2 => op_eql (Has.wu rfl ⟨h, h2⟩) (Has.wu rfl ⟨h, h2⟩))) ?_
  refine Y.D_hide (Ei := [(57, _), (60, _), (54, _)]) rfl rfl (Y.Srcs.cons (Y.Src.op 8 rfl rfl) (Y.Srcs.cons (Y.Src.op 11 rfl rfl) (Y.Srcs.cons (Y.Src.op 5 rfl rfl) Y.Srcs.nil))) rfl rfl (S_whenU rfl rfl (Has.t rfl) (fun h => op_or (Has.wu rfl h) (fun h2 => (Has.wu rfl ⟨h, h2⟩)))) ?_
  refine Y.D_hide (Ei := [(54, _), (61, _)]) rfl rfl (Y.Srcs.cons (Y.Src.op 5 rfl rfl) (Y.Srcs.cons (Y.Src.op 12 rfl rfl) Y.Srcs.nil)) rfl rfl (S_plain rfl (op_and (Has.t rfl) (fun h => (Has.wu rfl h)))) ?_
  refine Y.D_putI (Ei := [(2, _), (49, _)]) 1 rfl rfl rfl (Y.Srcs.cons (Y.Src.pre rfl rfl) (Y.Srcs.cons (Y.Src.op 0 rfl rfl) Y.Srcs.nil)) (.head _) rfl (P_stA Tryz.sizeOf35 (Has.t rfl) (Has.t rfl) rfl (i := 0) rfl (Nat.le_of_ble_eq_true rfl) rfl rfl) ?_
  refine Y.D_putI (Ei := [(3, _), (50, _)]) 2 rfl rfl rfl (Y.Srcs.cons (Y.Src.pre rfl rfl) (Y.Srcs.cons (Y.Src.op 1 rfl rfl) Y.Srcs.nil)) (.tail _ (.head _)) rfl (P_stA Tryz.sizeOf41 (Has.t rfl) (Has.t rfl) rfl (i := 0) rfl (Nat.le_of_ble_eq_true rfl) rfl rfl) ?_
  refine Y.D_done mixed rfl (by kernel_rfl) rfl (by simp [Y.okP]) rfl rfl (Y.F_val (Y.F_val (Y.F_val (Y.F_val (Y.F_val (Y.F_val (Y.F_val (Y.F_val (Y.F_val (Y.F_val (Y.F_val (Y.F_val (Y.F_val (Y.F_val (Y.F_putI (Y.F_putI (Y.F_nil ?_)))))))))))))))))
  refine R_op rfl rfl rfl (op_assign (Has.t rfl)) ?_
  refine R_nil ?_
  refine T_ret3 rfl (rv_cell Tryz.isAgg35 Tryz.sizeOf35 rfl (i := 1) rfl rfl) (rv_cell Tryz.isAgg41 Tryz.sizeOf41 rfl (i := 2) rfl rfl) (rv_to (rv_tmp rfl) ?_)
  exact (bool_of (by simp))
end Go.Proofs.YtppibhcfaahgpaaGreat
namespace Go.Proofs.YtppibhcfaahgpaaGreat
open Go Go.RowKit
theorem fa_39_1 (a : Addr) (w : World) : (Instr.fieldAt 39 (.pointer (some a)) 1).run Tryz.prog w = .ok (.pointer (some (a.add 1))) w := by
  simp [Instr.fieldAt, Instr.sureAddr, fieldPlace, Sem.run_bind, Result.andThen, Tryz.runUnderlying39, Tryz.sizeOf37]
end Go.Proofs.YtppibhcfaahgpaaGreat
namespace Go.Proofs.YtppibhcfaahgpaaGreat
open Go Go.RowKit
set_option maxRecDepth 20000 in
theorem c_ZerosO {n m : Nat} (hn : n ≤ 1000) (hm : m ≤ 1000) : FunO Tryz.prog 41 [NT .i64 n, NT .i64 m] [] (Nat) (fun B => Is (.slice (some ⟨B, 0, none⟩) n n)) (fun B => [matP exactH B 36 57 5 (FRow QT (zeroM n m))]) (fun _ => True) := by
  refine FunO.intro Tryz.func41 rfl Tryz.ntmps41 rfl (fun cx Z => ?_)
  refine T_seq ?_
  refine T_region ?_
  refine R_op rfl rfl rfl (op_assign Has.c) ?_
  refine R_nil ?_
  refine T_seq ?_
  refine T_region ?_
  refine R_op rfl rfl rfl (op_move (Has.t rfl)) ?_
  refine R_new rfl rfl rfl (new_make (T := Is (.slice none 0 0)) (i := Tryz.t36) Tryz.underlying37 info_36 rfl rfl (Has.t rfl) rfl (fun _ => rfl) trivial (by show 24 * _ ≤ _; omega) (by omega)) (fun B9 => ?_)
  refine R_op rfl rfl rfl (op_assign (Has.t rfl)) ?_
  refine R_nil ?_
  refine T_seq ?_
  refine T_seq ?_
  refine T_region ?_
  refine R_op rfl rfl rfl (op_assign (Has.cN 0)) ?_
  refine R_nil ?_
  refine T_block ?_
  refine T_conv 1 rfl (mat_nilE exactH ⟨none, 0, rfl⟩ (e := 57) (s := 5)) ?_
  refine T_loop2 (fun (k : Nat) (M : List (List Qi)) => FillS (fun _ => tab m fun _ => Qi.zero) n M k) (fun (k : Nat) (M : List (List Qi)) => n - k) (fun (k : Nat) (M : List (List Qi)) => [(0, NT .i64 n), (1, NT .i64 m), (5, Is (.slice (some ⟨B9, 0, none⟩) n n)), (6, NT .i64 k)]) (fun (k : Nat) (M : List (List Qi)) => [Z, matP exactH B9 36 57 5 (FRow QT M)]) 0 (List.replicate n []) (FillS.start _ _ _)
    (Sub.cons rfl (Sub.cons rfl (Sub.cons rfl (Sub.cons rfl Sub.nil)))) (HSub.cons (fun _ _ _ h => h) (HSub.cons (matO_of (rep_FRow QT n)) HSub.nil)) (fun k M hS => ?_)
  refine T_seq ?_
  refine T_seq ?_
  refine T_region ?_
  refine R_op rfl rfl rfl (op_move (Has.t rfl)) ?_
  refine R_op rfl rfl rfl (op_move (Has.t rfl)) ?_
  refine R_op rfl rfl rfl (op_lssN (Has.t rfl) (Has.t rfl)) ?_
  refine R_nil ?_
  refine T_cond (Has.t rfl) (fun hk => ?_) (fun hk => ?_)
  · simp only [decide_eq_true_eq] at hk
    have hlen := hS.len
    refine T_focusE 1 (k) rfl (frow_get (m := M) (i := k) (by omega)) (fun v hv => ?_)
    refine T_skip ?_
    refine T_seq ?_
    refine T_block ?_
    refine T_seq ?_
    refine T_region ?_
    refine R_op rfl rfl rfl (op_move (Has.t rfl)) ?_
    refine R_op rfl rfl rfl (op_move (Has.t rfl)) ?_
    refine R_op rfl rfl rfl (op_move (Has.t rfl)) ?_
    refine R_makeE (T := ZQ) (i := Tryz.t57) und_36 info_57 rfl rfl (Has.t rfl) rfl zq_p (El.ag rfl) (by show 88 * _ ≤ _; omega) (by omega) rfl (fun B18 hB18 => ?_)
    refine R_op rfl rfl rfl (op_idxB Tryz.runUnderlying37 Tryz.sizeOf36 (Has.t rfl) (Has.t rfl) rfl (by omega) (by rw [Nat.mul_one, Nat.zero_add])) ?_
    refine R_stH Tryz.sizeOf36 (Has.t rfl) (Has.t rfl) (by simp; omega) (j := 1) (l := 3) rfl rfl rfl ?_
    refine R_nil ?_
    refine T_seq ?_
    refine T_keep [0, 1, 3] rfl (by decide) ?_
    refine T_region ?_
    refine R_op rfl rfl rfl (op_assign (Has.cN 0)) ?_
    refine R_nil ?_
    refine T_block ?_
    refine T_loop2 (fun (j : Nat) (out : List Ty) => FillS (fun _ => QT Qi.zero) m out j) (fun (j : Nat) (out : List Ty) => m - j) (fun (j : Nat) (out : List Ty) => [(0, NT .i64 n), (1, NT .i64 m), (5, Is (.slice (some ⟨B9, 0, none⟩) n n)), (6, NT .i64 k), (7, NT .i64 j)]) (fun (j : Nat) (out : List Ty) => [Z, matQ exactH B9 36 57 5 (FRow QT M) k B18, rowO 57 5 B18 out]) 0 (List.replicate m ZQ) (FillS.start _ _ _)
      (Sub.cons rfl (Sub.cons rfl (Sub.cons rfl (Sub.cons rfl (Sub.cons rfl Sub.nil))))) (HSub.refl _) (fun j out hT => ?_)
    refine T_seq ?_
    refine T_seq ?_
    refine T_region ?_
    refine R_op rfl rfl rfl (op_move (Has.t rfl)) ?_
    refine R_op rfl rfl rfl (op_move (Has.t rfl)) ?_
    refine R_op rfl rfl rfl (op_lssN (Has.t rfl) (Has.t rfl)) ?_
    refine R_nil ?_
    refine T_cond (Has.t rfl) (fun hj => ?_) (fun hj => ?_)
    · simp only [decide_eq_true_eq] at hj
      have hlen2 := hT.len
      refine T_skip ?_
      refine T_seq ?_
      refine T_block ?_
      refine D_start (m := 6) ?_
      refine D_step (Ei := [(5, _)]) rfl rfl (Srcs.cons (Src.pre rfl rfl) Srcs.nil) (S_plain rfl (op_move (Has.t rfl))) ?_
      refine D_step (Ei := [(6, _)]) rfl rfl (Srcs.cons (Src.pre rfl rfl) Srcs.nil) (S_plain rfl (op_move (Has.t rfl))) ?_
      refine D_step (Ei := [(25, _), (26, _)]) rfl rfl (Srcs.cons (Src.op 0 rfl rfl) (Srcs.cons (Src.op 1 rfl rfl) Srcs.nil)) (S_plain rfl (op_idxB Tryz.runUnderlying37 Tryz.sizeOf36 (Has.t rfl) (Has.t rfl) rfl (by omega) (by rw [Nat.mul_one, Nat.zero_add]))) ?_
      refine D_step (Ei := [(27, _)]) rfl rfl (Srcs.cons (Src.op 2 rfl rfl) Srcs.nil) (S_plain rfl (op_ldH Tryz.isAgg36 Tryz.sizeOf36 (Has.t rfl) (j := 1) rfl)) ?_
      refine D_step (Ei := [(7, _)]) rfl rfl (Srcs.cons (Src.pre rfl rfl) Srcs.nil) (S_plain rfl (op_move (Has.t rfl))) ?_
      refine D_step (Ei := []) rfl rfl Srcs.nil (S_plain rfl (op_call Tryz.call86 (c_rWhole (by decide) (by decide)) ⟨(Has.cN 0), trivial⟩)) ?_
      refine D_done mixed rfl (by kernel_rfl) (F_val (F_val (F_val (F_val (F_val (F_val (F_nil ?_)))))))
      refine R_op rfl rfl rfl (op_idxO Tryz.runUnderlying36 Tryz.sizeOf57 (Has.t rfl) (Has.t rfl) rfl (i := 2) rfl (by omega) rfl) ?_
      refine R_stO Tryz.sizeOf57 (Has.t rfl) (Has.t rfl) (El.ag rfl) (i := 2) rfl rfl (by first | omega | (simp; omega)) rfl ?_
      refine R_nil ?_
      refine T_blk ?_
      refine T_region ?_
      refine R_op rfl rfl rfl (op_move (Has.t rfl)) ?_
      refine R_op rfl rfl rfl (op_addN (Has.t rfl) (Has.cN 1) (by show _ < 9223372036854775808; first | omega | (simp only [lim]; omega))) ?_
      refine R_op rfl rfl rfl (op_assign (Has.t rfl)) ?_
      refine R_nil ?_
      refine T_again (j + 1, _) (hT.next hj rfl) (by dsimp only; omega) (Sub.cons rfl (Sub.cons rfl (Sub.cons rfl (Sub.cons rfl (Sub.cons rfl Sub.nil))))) (HSub.refl _)
    · simp only [decide_eq_false_iff_not] at hj
      obtain rfl : j = m := Nat.le_antisymm hT.kle (by omega)
      have hfin := hT.fin
      rw [← tab_map _ (fun _ => Qi.zero) QT] at hfin
      subst hfin
      refine T_exit rfl ?_
      refine T_blk ?_
      refine T_unfocus 1 2 rfl rfl (by decide) (by show k < (FRow QT M).length; simp only [FRow, List.length_map]; omega) ?_
      refine T_region ?_
      refine R_op rfl rfl rfl (op_move (Has.t rfl)) ?_
      refine R_op rfl rfl rfl (op_addN (Has.t rfl) (Has.cN 1) (by show _ < 9223372036854775808; first | omega | (simp only [lim]; omega))) ?_
      refine R_op rfl rfl rfl (op_assign (Has.t rfl)) ?_
      refine R_nil ?_
      refine T_keep [0, 1] rfl (by decide) ?_
      refine T_again (k + 1, _) (hS.next hk rfl) (by dsimp only; omega) (Sub.cons rfl (Sub.cons rfl (Sub.cons rfl (Sub.cons rfl Sub.nil)))) (HSub.cons (fun _ _ _ h => h) (HSub.cons (matO_of (set_FRow QT _ _ _)) HSub.nil))
  · simp only [decide_eq_false_iff_not] at hk
    obtain rfl : k = n := Nat.le_antisymm hS.kle (by omega)
    have hfin := hS.fin
    refine T_exit rfl ?_
    refine T_seq ?_
    refine T_region ?_
    refine R_op rfl rfl rfl (op_move (Has.t rfl)) ?_
    refine R_op rfl rfl rfl (op_assign (Has.t rfl)) ?_
    refine R_nil ?_
    exact T_retO B9 trivial [0, 1] ⟨⟨_, rfl, fun _ _ _ h => h⟩, ⟨_, rfl, (matO_of (by rw [hfin]; rfl))⟩, trivial⟩ (by decide) (rvs1 rfl (rv_tmp rfl))
set_option maxRecDepth 20000 in
theorem c_rcarO {p c : List (List Qi)} {L : Nat} (hp : FitM p L) (hc : FitM c L) (hL1 : 1 ≤ L) (hL : L ≤ 1000000) (hps : Shp p p.length c.length) (hcs : Shp c c.length c.length) (hpl : p.length ≤ 8) (hcl : c.length ≤ 8) : FunO Tryz.prog 89 [QM p, QM c] [] (Nat) (fun B => Is (.slice (some ⟨B, 0, none⟩) p.length p.length)) (fun B => [matP exactH B 36 57 5 (FRow QT (carM p c))]) (fun _ => True) := by
  refine FunO.intro Tryz.func89 rfl Tryz.ntmps89 rfl (fun cx Z => ?_)
  refine T_seq ?_
  refine T_region ?_
  refine R_op rfl rfl rfl (op_assign Has.c) ?_
  refine R_nil ?_
  refine T_seq ?_
  refine T_region ?_
  refine R_op rfl rfl rfl (op_move (Has.t rfl)) ?_
  refine R_op rfl rfl rfl (op_len Tryz.runUnderlying37 (Has.t rfl) len_map) ?_
  refine R_op rfl rfl rfl (op_move (Has.t rfl)) ?_
  refine R_op rfl rfl rfl (op_len Tryz.runUnderlying37 (Has.t rfl) len_map) ?_
  refine R_call0 Tryz.call41 (c_ZerosO (n := p.length) (m := p.length) (by omega) (by omega)) ⟨(Has.t rfl), (Has.t rfl), trivial⟩ rfl (fun B14 _ => ?_)
  refine R_op rfl rfl rfl (op_assign (Has.t rfl)) ?_
  refine R_nil ?_
  refine T_seq ?_
  refine T_seq ?_
  refine T_region ?_
  refine R_op rfl rfl rfl (op_assign (Has.cN 0)) ?_
  refine R_nil ?_
  refine T_block ?_
  refine T_loop (fun (i : Nat) => i ≤ p.length) (fun (i : Nat) => p.length - i) (fun (i : Nat) => [(0, QM p), (1, QM c), (5, Is (.slice (some ⟨B14, 0, none⟩) p.length p.length)), (6, NT .i64 i)]) (fun (i : Nat) => [Z, matP exactH B14 36 57 5 (FRow QT (mixT (fun i => tab p.length fun k => carE p c c.length i k) (tab p.length fun _ => Qi.zero) p.length i))]) 0 (Nat.zero_le _)
    (Sub.cons rfl (Sub.cons rfl (Sub.cons rfl (Sub.cons rfl Sub.nil)))) (HSub.cons (fun _ _ _ h => h) (HSub.cons (matO_of (by rw [zeroM, mix_zero])) HSub.nil)) (fun i hi => ?_)
  refine T_seq ?_
  refine T_seq ?_
  refine T_region ?_
  refine R_op rfl rfl rfl (op_move (Has.t rfl)) ?_
  refine R_op rfl rfl rfl (op_move (Has.t rfl)) ?_
  refine R_op rfl rfl rfl (op_len Tryz.runUnderlying37 (Has.t rfl) len_map) ?_
  refine R_op rfl rfl rfl (op_lssN (Has.t rfl) (Has.t rfl)) ?_
  refine R_nil ?_
  refine T_cond (Has.t rfl) (fun hd => ?_) (fun hd => ?_)
  · simp only [decide_eq_true_eq] at hd
    refine T_focusE 1 (i) rfl (frow_mix hd) (fun v hv => ?_)
    refine T_skip ?_
    refine T_seq ?_
    refine T_block ?_
    refine T_seq ?_
    refine T_region ?_
    refine R_op rfl rfl rfl (op_assign (Has.cN 0)) ?_
    refine R_nil ?_
    refine T_block ?_
    refine T_loop (fun (k : Nat) => k ≤ p.length) (fun (k : Nat) => p.length - k) (fun (k : Nat) => [(0, QM p), (1, QM c), (5, Is (.slice (some ⟨B14, 0, none⟩) p.length p.length)), (6, NT .i64 i), (7, NT .i64 k)]) (fun (k : Nat) => [Z, matQ exactH B14 36 57 5 (FRow QT (mixT (fun i => tab p.length fun k => carE p c c.length i k) (tab p.length fun _ => Qi.zero) p.length i)) i v, rowO 57 5 v ((mixT (fun k => carE p c c.length i k) Qi.zero p.length k).map QT)]) 0 (Nat.zero_le _)
      (Sub.cons rfl (Sub.cons rfl (Sub.cons rfl (Sub.cons rfl (Sub.cons rfl Sub.nil))))) (HSub.cons (fun _ _ _ h => h) (HSub.cons (fun _ _ _ h => h) (HSub.cons (rowO_of (by rw [mix_zero])) HSub.nil))) (fun k hk => ?_)
    refine T_seq ?_
    refine T_seq ?_
    refine T_region ?_
    refine R_op rfl rfl rfl (op_move (Has.t rfl)) ?_
    refine R_op rfl rfl rfl (op_move (Has.t rfl)) ?_
    refine R_op rfl rfl rfl (op_len Tryz.runUnderlying37 (Has.t rfl) len_map) ?_
    refine R_op rfl rfl rfl (op_lssN (Has.t rfl) (Has.t rfl)) ?_
    refine R_nil ?_
    refine T_cond (Has.t rfl) (fun he => ?_) (fun he => ?_)
    · simp only [decide_eq_true_eq] at he
      have hrl := mix_len (fun k => carE p c c.length i k) Qi.zero p.length k
      refine T_skip ?_
      refine T_seq ?_
      refine T_block ?_
      refine T_seq ?_
      refine T_region ?_
      refine R_op rfl rfl rfl (op_assign (Has.cN 0)) ?_
      refine R_nil ?_
      refine T_block ?_
      refine T_loop (fun (a : Nat) => a ≤ c.length) (fun (a : Nat) => c.length - a) (fun (a : Nat) => [(0, QM p), (1, QM c), (5, Is (.slice (some ⟨B14, 0, none⟩) p.length p.length)), (6, NT .i64 i), (7, NT .i64 k), (8, NT .i64 a)]) (fun (a : Nat) => [Z, matQ exactH B14 36 57 5 (FRow QT (mixT (fun i => tab p.length fun k => carE p c c.length i k) (tab p.length fun _ => Qi.zero) p.length i)) i v, rowO 57 5 v (((mixT (fun k => carE p c c.length i k) Qi.zero p.length k).set k (sumN a fun a => sumN c.length fun b => carT p c i k a b)).map QT)]) 0 (Nat.zero_le _)
        (Sub.cons rfl (Sub.cons rfl (Sub.cons rfl (Sub.cons rfl (Sub.cons rfl (Sub.cons rfl Sub.nil)))))) (HSub.cons (fun _ _ _ h => h) (HSub.cons (fun _ _ _ h => h) (HSub.cons (rowO_of (by rw [sumN, mix_set0 he])) HSub.nil))) (fun a ha => ?_)
      refine T_seq ?_
      refine T_seq ?_
      refine T_region ?_
      refine R_op rfl rfl rfl (op_move (Has.t rfl)) ?_
      refine R_op rfl rfl rfl (op_move (Has.t rfl)) ?_
      refine R_op rfl rfl rfl (op_len Tryz.runUnderlying37 (Has.t rfl) len_map) ?_
      refine R_op rfl rfl rfl (op_lssN (Has.t rfl) (Has.t rfl)) ?_
      refine R_nil ?_
      refine T_cond (Has.t rfl) (fun hf => ?_) (fun hf => ?_)
      · simp only [decide_eq_true_eq] at hf
        refine T_skip ?_
        refine T_seq ?_
        refine T_block ?_
        refine T_seq ?_
        refine T_region ?_
        refine R_op rfl rfl rfl (op_assign (Has.cN 0)) ?_
        refine R_nil ?_
        refine T_block ?_
        refine T_loop (fun (b : Nat) => b ≤ c.length) (fun (b : Nat) => c.length - b) (fun (b : Nat) => [(0, QM p), (1, QM c), (5, Is (.slice (some ⟨B14, 0, none⟩) p.length p.length)), (6, NT .i64 i), (7, NT .i64 k), (8, NT .i64 a), (9, NT .i64 b)]) (fun (b : Nat) => [Z, matQ exactH B14 36 57 5 (FRow QT (mixT (fun i => tab p.length fun k => carE p c c.length i k) (tab p.length fun _ => Qi.zero) p.length i)) i v, rowO 57 5 v (((mixT (fun k => carE p c c.length i k) Qi.zero p.length k).set k ((sumN a fun a => sumN c.length fun b => carT p c i k a b) + sumN b fun b => carT p c i k a b)).map QT)]) 0 (Nat.zero_le _)
          (Sub.cons rfl (Sub.cons rfl (Sub.cons rfl (Sub.cons rfl (Sub.cons rfl (Sub.cons rfl (Sub.cons rfl Sub.nil))))))) (HSub.cons (fun _ _ _ h => h) (HSub.cons (fun _ _ _ h => h) (HSub.cons (rowO_of (by rw [sumN, Qi.add_zero'])) HSub.nil))) (fun b hb => ?_)
        refine T_seq ?_
        refine T_seq ?_
        refine T_region ?_
        refine R_op rfl rfl rfl (op_move (Has.t rfl)) ?_
        refine R_op rfl rfl rfl (op_move (Has.t rfl)) ?_
        refine R_op rfl rfl rfl (op_len Tryz.runUnderlying37 (Has.t rfl) len_map) ?_
        refine R_op rfl rfl rfl (op_lssN (Has.t rfl) (Has.t rfl)) ?_
        refine R_nil ?_
        refine T_cond (Has.t rfl) (fun hg => ?_) (fun hg => ?_)
        · simp only [decide_eq_true_eq] at hg
          have hpr := hps.row hd
          have hpk := hps.row he
          have hcr := hcs.row hf
          haveI f1 : FitC (gm p i a) L := hp.get hL1 i a
          haveI f2 : FitC (gm c a b) L := hc.get hL1 a b
          haveI f3 : FitC (gm p k b) L := hp.get hL1 k b
          haveI f4 : FitC (sumN a fun a => sumN c.length fun b => carT p c i k a b) (200 * L + 300) := car_fit hp hc hL1 hcl (by omega) i k
          haveI f5 : FitC (sumN b fun b => carT p c i k a b) (24 * L + 25) := car_fit1 hp hc hL1 (by omega) i k a
          have hsl : ((mixT (fun k => carE p c c.length i k) Qi.zero p.length k).set k ((sumN a fun a => sumN c.length fun b => carT p c i k a b) + sumN b fun b => carT p c i k a b)).length = p.length := by rw [List.length_set, hrl]
          refine T_skip ?_
          refine T_seq ?_
          refine T_block ?_
          refine D_start (m := 37) ?_
          refine D_step (Ei := [(5, _)]) rfl rfl (Srcs.cons (Src.pre rfl rfl) Srcs.nil) (S_plain rfl (op_move (Has.t rfl))) ?_
          refine D_step (Ei := [(6, _)]) rfl rfl (Srcs.cons (Src.pre rfl rfl) Srcs.nil) (S_plain rfl (op_move (Has.t rfl))) ?_
          refine D_step (Ei := [(39, _), (40, _)]) rfl rfl (Srcs.cons (Src.op 0 rfl rfl) (Srcs.cons (Src.op 1 rfl rfl) Srcs.nil)) (S_plain rfl (op_idxB Tryz.runUnderlying37 Tryz.sizeOf36 (Has.t rfl) (Has.t rfl) rfl (by omega) (by rw [Nat.mul_one, Nat.zero_add]))) ?_
          refine D_step (Ei := [(41, _)]) rfl rfl (Srcs.cons (Src.op 2 rfl rfl) Srcs.nil) (S_plain rfl (op_ldH Tryz.isAgg36 Tryz.sizeOf36 (Has.t rfl) (j := 1) rfl)) ?_
          refine D_step (Ei := [(7, _)]) rfl rfl (Srcs.cons (Src.pre rfl rfl) Srcs.nil) (S_plain rfl (op_move (Has.t rfl))) ?_
          refine D_step (Ei := [(5, _)]) rfl rfl (Srcs.cons (Src.pre rfl rfl) Srcs.nil) (S_plain rfl (op_move (Has.t rfl))) ?_
          refine D_step (Ei := [(6, _)]) rfl rfl (Srcs.cons (Src.pre rfl rfl) Srcs.nil) (S_plain rfl (op_move (Has.t rfl))) ?_
          refine D_step (Ei := [(44, _), (45, _)]) rfl rfl (Srcs.cons (Src.op 5 rfl rfl) (Srcs.cons (Src.op 6 rfl rfl) Srcs.nil)) (S_plain rfl (op_idxB Tryz.runUnderlying37 Tryz.sizeOf36 (Has.t rfl) (Has.t rfl) rfl (by omega) (by rw [Nat.mul_one, Nat.zero_add]))) ?_
          refine D_step (Ei := [(46, _)]) rfl rfl (Srcs.cons (Src.op 7 rfl rfl) Srcs.nil) (S_plain rfl (op_ldH Tryz.isAgg36 Tryz.sizeOf36 (Has.t rfl) (j := 1) rfl)) ?_
          refine D_step (Ei := [(7, _)]) rfl rfl (Srcs.cons (Src.pre rfl rfl) Srcs.nil) (S_plain rfl (op_move (Has.t rfl))) ?_
          refine D_step (Ei := [(47, _), (48, _)]) rfl rfl (Srcs.cons (Src.op 8 rfl rfl) (Srcs.cons (Src.op 9 rfl rfl) Srcs.nil)) (S_plain rfl (op_idxO Tryz.runUnderlying36 Tryz.sizeOf57 (Has.t rfl) (Has.t rfl) rfl (i := 2) rfl (by simp only [List.length_map]; omega) rfl)) ?_
          refine D_step (Ei := [(49, _)]) rfl rfl (Srcs.cons (Src.op 10 rfl rfl) Srcs.nil) (S_plain rfl (op_ldO Tryz.isAgg57 Tryz.sizeOf57 (Has.t rfl) (i := 2) rfl rfl (map_get (set_get (by rw [hrl]; exact he))))) ?_
          refine D_step (Ei := [(0, _)]) rfl rfl (Srcs.cons (Src.pre rfl rfl) Srcs.nil) (S_plain rfl (op_move (Has.t rfl))) ?_
          refine D_step (Ei := [(6, _)]) rfl rfl (Srcs.cons (Src.pre rfl rfl) Srcs.nil) (S_plain rfl (op_move (Has.t rfl))) ?_
          refine D_step (Ei := [(51, _), (52, _)]) rfl rfl (Srcs.cons (Src.op 12 rfl rfl) (Srcs.cons (Src.op 13 rfl rfl) Srcs.nil)) (S_plain rfl (op_idx Tryz.runUnderlying37 Tryz.sizeOf36 (Has.t rfl) (Has.t rfl) rfl (map_get (getD_some (d := []) hd)))) ?_
          refine D_step (Ei := [(53, _)]) rfl rfl (Srcs.cons (Src.op 14 rfl rfl) Srcs.nil) (S_plain rfl (op_ld Tryz.isAgg36 Tryz.sizeOf36 (Has.t rfl))) ?_
          refine D_step (Ei := [(8, _)]) rfl rfl (Srcs.cons (Src.pre rfl rfl) Srcs.nil) (S_plain rfl (op_move (Has.t rfl))) ?_
          refine D_step (Ei := [(54, _), (55, _)]) rfl rfl (Srcs.cons (Src.op 15 rfl rfl) (Srcs.cons (Src.op 16 rfl rfl) Srcs.nil)) (S_plain rfl (op_idx Tryz.runUnderlying36 Tryz.sizeOf57 (Has.t rfl) (Has.t rfl) rfl (map_get (getD_some (d := Qi.zero) (by rw [hpr]; exact hf))))) ?_
          refine D_step (Ei := [(56, _)]) rfl rfl (Srcs.cons (Src.op 17 rfl rfl) Srcs.nil) (S_plain rfl (op_ld Tryz.isAgg57 Tryz.sizeOf57 (Has.t rfl))) ?_
          refine D_step (Ei := [(1, _)]) rfl rfl (Srcs.cons (Src.pre rfl rfl) Srcs.nil) (S_plain rfl (op_move (Has.t rfl))) ?_
          refine D_step (Ei := [(8, _)]) rfl rfl (Srcs.cons (Src.pre rfl rfl) Srcs.nil) (S_plain rfl (op_move (Has.t rfl))) ?_
          refine D_step (Ei := [(58, _), (59, _)]) rfl rfl (Srcs.cons (Src.op 19 rfl rfl) (Srcs.cons (Src.op 20 rfl rfl) Srcs.nil)) (S_plain rfl (op_idx Tryz.runUnderlying37 Tryz.sizeOf36 (Has.t rfl) (Has.t rfl) rfl (map_get (getD_some (d := []) hf)))) ?_
          refine D_step (Ei := [(60, _)]) rfl rfl (Srcs.cons (Src.op 21 rfl rfl) Srcs.nil) (S_plain rfl (op_ld Tryz.isAgg36 Tryz.sizeOf36 (Has.t rfl))) ?_
          refine D_step (Ei := [(9, _)]) rfl rfl (Srcs.cons (Src.pre rfl rfl) Srcs.nil) (S_plain rfl (op_move (Has.t rfl))) ?_
          refine D_step (Ei := [(61, _), (62, _)]) rfl rfl (Srcs.cons (Src.op 22 rfl rfl) (Srcs.cons (Src.op 23 rfl rfl) Srcs.nil)) (S_plain rfl (op_idx Tryz.runUnderlying36 Tryz.sizeOf57 (Has.t rfl) (Has.t rfl) rfl (map_get (getD_some (d := Qi.zero) (by rw [hcr]; exact hg))))) ?_
          refine D_step (Ei := [(63, _)]) rfl rfl (Srcs.cons (Src.op 24 rfl rfl) Srcs.nil) (S_plain rfl (op_ld Tryz.isAgg57 Tryz.sizeOf57 (Has.t rfl))) ?_
          refine D_step (Ei := [(57, _), (64, _)]) rfl rfl (Srcs.cons (Src.op 18 rfl rfl) (Srcs.cons (Src.op 25 rfl rfl) Srcs.nil)) (S_plain rfl (op_call Tryz.call87 (c_rMul (by omega)) ⟨(Has.t rfl), (Has.t rfl), trivial⟩)) ?_
          refine D_step (Ei := [(0, _)]) rfl rfl (Srcs.cons (Src.pre rfl rfl) Srcs.nil) (S_plain rfl (op_move (Has.t rfl))) ?_
          refine D_step (Ei := [(7, _)]) rfl rfl (Srcs.cons (Src.pre rfl rfl) Srcs.nil) (S_plain rfl (op_move (Has.t rfl))) ?_
          refine D_step (Ei := [(66, _), (67, _)]) rfl rfl (Srcs.cons (Src.op 27 rfl rfl) (Srcs.cons (Src.op 28 rfl rfl) Srcs.nil)) (S_plain rfl (op_idx Tryz.runUnderlying37 Tryz.sizeOf36 (Has.t rfl) (Has.t rfl) rfl (map_get (getD_some (d := []) he)))) ?_
          refine D_step (Ei := [(68, _)]) rfl rfl (Srcs.cons (Src.op 29 rfl rfl) Srcs.nil) (S_plain rfl (op_ld Tryz.isAgg36 Tryz.sizeOf36 (Has.t rfl))) ?_
          refine D_step (Ei := [(9, _)]) rfl rfl (Srcs.cons (Src.pre rfl rfl) Srcs.nil) (S_plain rfl (op_move (Has.t rfl))) ?_
          refine D_step (Ei := [(69, _), (70, _)]) rfl rfl (Srcs.cons (Src.op 30 rfl rfl) (Srcs.cons (Src.op 31 rfl rfl) Srcs.nil)) (S_plain rfl (op_idx Tryz.runUnderlying36 Tryz.sizeOf57 (Has.t rfl) (Has.t rfl) rfl (map_get (getD_some (d := Qi.zero) (by rw [hpk]; exact hg))))) ?_
          refine D_step (Ei := [(71, _)]) rfl rfl (Srcs.cons (Src.op 32 rfl rfl) Srcs.nil) (S_plain rfl (op_ld Tryz.isAgg57 Tryz.sizeOf57 (Has.t rfl))) ?_
          refine D_step (Ei := [(72, _)]) rfl rfl (Srcs.cons (Src.op 33 rfl rfl) Srcs.nil) (S_plain rfl (op_call Tryz.call163 c_rConj ⟨(Has.t rfl), trivial⟩)) ?_
          refine D_step (Ei := [(65, _), (73, _)]) rfl rfl (Srcs.cons (Src.op 26 rfl rfl) (Srcs.cons (Src.op 34 rfl rfl) Srcs.nil)) (S_plain rfl (op_call Tryz.call87 (c_rMul (by omega)) ⟨(Has.t rfl), (Has.t rfl), trivial⟩)) ?_
          refine D_step (Ei := [(50, _), (74, _)]) rfl rfl (Srcs.cons (Src.op 11 rfl rfl) (Srcs.cons (Src.op 35 rfl rfl) Srcs.nil)) (S_plain rfl (op_call Tryz.call92 (c_rAdd (by omega)) ⟨(Has.t rfl), (Has.t rfl), trivial⟩)) ?_
          refine D_done mixed rfl (by kernel_rfl) (F_val (F_val (F_val (F_val (F_val (F_val (F_val (F_val (F_val (F_val (F_val (F_val (F_val (F_val (F_val (F_val (F_val (F_val (F_val (F_val (F_val (F_val (F_val (F_val (F_val (F_val (F_val (F_val (F_val (F_val (F_val (F_val (F_val (F_val (F_val (F_val (F_val (F_nil ?_))))))))))))))))))))))))))))))))))))))
          refine R_op rfl rfl rfl (op_idxO Tryz.runUnderlying36 Tryz.sizeOf57 (Has.t rfl) (Has.t rfl) rfl (i := 2) rfl (by simp only [List.length_map]; omega) rfl) ?_
          refine R_stO Tryz.sizeOf57 (Has.t rfl) (Has.t rfl) (El.ag rfl) (i := 2) rfl rfl (by simp only [List.length_map]; omega) rfl ?_
          refine R_nil ?_
          refine T_blk ?_
          refine T_region ?_
          refine R_op rfl rfl rfl (op_move (Has.t rfl)) ?_
          refine R_op rfl rfl rfl (op_addN (Has.t rfl) (Has.cN 1) (by show _ < 9223372036854775808; first | omega | (simp only [lim]; omega))) ?_
          refine R_op rfl rfl rfl (op_assign (Has.t rfl)) ?_
          refine R_nil ?_
          refine T_again (b + 1) hg (by omega) (Sub.cons rfl (Sub.cons rfl (Sub.cons rfl (Sub.cons rfl (Sub.cons rfl (Sub.cons rfl (Sub.cons rfl Sub.nil))))))) (HSub.cons (fun _ _ _ h => h) (HSub.cons (fun _ _ _ h => h) (HSub.cons (rowO_of (by rw [set_mapF, List.set_set, Qi.add_assoc', sumN]; rfl)) HSub.nil)))
        · simp only [decide_eq_false_iff_not] at hg
          obtain rfl : b = c.length := Nat.le_antisymm hb (by omega)
          refine T_exit rfl ?_
          refine T_blk ?_
          refine T_region ?_
          refine R_op rfl rfl rfl (op_move (Has.t rfl)) ?_
          refine R_op rfl rfl rfl (op_addN (Has.t rfl) (Has.cN 1) (by show _ < 9223372036854775808; first | omega | (simp only [lim]; omega))) ?_
          refine R_op rfl rfl rfl (op_assign (Has.t rfl)) ?_
          refine R_nil ?_
          refine T_again (a + 1) hf (by omega) (Sub.cons rfl (Sub.cons rfl (Sub.cons rfl (Sub.cons rfl (Sub.cons rfl (Sub.cons rfl Sub.nil)))))) (HSub.cons (fun _ _ _ h => h) (HSub.cons (fun _ _ _ h => h) (HSub.cons (rowO_of (by rw [sumN])) HSub.nil)))
      · simp only [decide_eq_false_iff_not] at hf
        obtain rfl : a = c.length := Nat.le_antisymm ha (by omega)
        refine T_exit rfl ?_
        refine T_blk ?_
        refine T_region ?_
        refine R_op rfl rfl rfl (op_move (Has.t rfl)) ?_
        refine R_op rfl rfl rfl (op_addN (Has.t rfl) (Has.cN 1) (by show _ < 9223372036854775808; first | omega | (simp only [lim]; omega))) ?_
        refine R_op rfl rfl rfl (op_assign (Has.t rfl)) ?_
        refine R_nil ?_
        refine T_again (k + 1) he (by omega) (Sub.cons rfl (Sub.cons rfl (Sub.cons rfl (Sub.cons rfl (Sub.cons rfl Sub.nil))))) (HSub.cons (fun _ _ _ h => h) (HSub.cons (fun _ _ _ h => h) (HSub.cons (rowO_of (by rw [← mix_set (f := fun k => carE p c c.length i k)]; rfl)) HSub.nil)))
    · simp only [decide_eq_false_iff_not] at he
      obtain rfl : k = p.length := Nat.le_antisymm hk (by omega)
      refine T_exit rfl ?_
      refine T_blk ?_
      refine T_unfocus 1 2 rfl rfl (by decide) (by simp only [FRow, List.length_map, mix_len]; omega) ?_
      refine T_region ?_
      refine R_op rfl rfl rfl (op_move (Has.t rfl)) ?_
      refine R_op rfl rfl rfl (op_addN (Has.t rfl) (Has.cN 1) (by show _ < 9223372036854775808; first | omega | (simp only [lim]; omega))) ?_
      refine R_op rfl rfl rfl (op_assign (Has.t rfl)) ?_
      refine R_nil ?_
      refine T_keep [0, 1] rfl (by decide) ?_
      refine T_again (i + 1) hd (by omega) (Sub.cons rfl (Sub.cons rfl (Sub.cons rfl (Sub.cons rfl Sub.nil)))) (HSub.cons (fun _ _ _ h => h) (HSub.cons (matO_of (by rw [set_FRow, mix_fin, ← mix_set (f := (fun i => tab p.length fun k => carE p c c.length i k))])) HSub.nil))
  · simp only [decide_eq_false_iff_not] at hd
    obtain rfl : i = p.length := Nat.le_antisymm hi (by omega)
    refine T_exit rfl ?_
    refine T_seq ?_
    refine T_region ?_
    refine R_op rfl rfl rfl (op_move (Has.t rfl)) ?_
    refine R_op rfl rfl rfl (op_assign (Has.t rfl)) ?_
    refine R_nil ?_
    exact T_retO B14 trivial [0, 1] ⟨⟨_, rfl, fun _ _ _ h => h⟩, ⟨_, rfl, (matO_of (by rw [mix_fin]; rfl))⟩, trivial⟩ (by decide) (rvs1 rfl (rv_tmp rfl))
set_option maxRecDepth 20000 in
theorem c_rownO {z : List Qi} {s : List (List Qi)} {L : Nat} (hz : FitL z L) (hs : FitM s L) (hL1 : 1 ≤ L) (hL : L ≤ 4000) (hsh : Shp s z.length z.length) (hl : z.length ≤ 8) : FunO Tryz.prog 98 [RNetT z s] [] (Nat) (fun B => Is (.slice (some ⟨B, 0, none⟩) z.length z.length)) (fun B => [matP exactH B 36 57 5 (FRow QT (ownM z s))]) (fun _ => True) := by
  have hs1 := hs.le (Nat.le_refl L)
  have hsl := hsh.1
  have hD := diag_shp z
  have hDf := diag_fit hz hL1
  have hXf := carM_fit hs hDf hL1 (by rw [hD.1]; exact hl)
  have hX : Shp (carM s (diagM z)) s.length s.length := carM_shp
  refine FunO.intro Tryz.func98 rfl Tryz.ntmps98 rfl (fun cx Z => ?_)
  refine T_seq ?_
  refine T_region ?_
  refine R_new rfl rfl rfl (new_box (Has.t rfl)) (fun B1 => ?_)
  refine R_op rfl rfl rfl (op_assign Has.c) ?_
  refine R_nil ?_
  refine T_seq ?_
  refine T_region ?_
  refine R_op rfl rfl rfl (op_fldB fa_39_0 (Has.t rfl) rfl) ?_
  refine R_op rfl rfl rfl (op_ldB Tryz.isAgg36 Tryz.sizeOf36 (Has.t rfl) (i := 1) rfl rfl) ?_
  refine R_op rfl rfl rfl (op_len Tryz.runUnderlying36 (Has.t rfl) len_map) ?_
  refine R_op rfl rfl rfl (op_assign (Has.t rfl)) ?_
  refine R_nil ?_
  refine T_seq ?_
  refine T_region ?_
  refine R_op rfl rfl rfl (op_move (Has.t rfl)) ?_
  refine R_op rfl rfl rfl (op_move (Has.t rfl)) ?_
  refine R_call0 Tryz.call41 (c_ZerosO (n := z.length) (m := z.length) (by omega) (by omega)) ⟨(Has.t rfl), (Has.t rfl), trivial⟩ rfl (fun B14 _ => ?_)
  refine R_op rfl rfl rfl (op_assign (Has.t rfl)) ?_
  refine R_nil ?_
  refine T_seq ?_
  refine T_seq ?_
  refine T_region ?_
  refine R_op rfl rfl rfl (op_assign (Has.cN 0)) ?_
  refine R_nil ?_
  refine T_block ?_
  refine T_loop (fun (i : Nat) => i ≤ z.length) (fun (i : Nat) => z.length - i) (fun (i : Nat) => [(1, PtrB B1 0), (3, NT .i64 z.length), (4, Is (.slice (some ⟨B14, 0, none⟩) z.length z.length)), (5, NT .i64 i)]) (fun (i : Nat) => [Z, box B1 39 [QsT z, QM s], matP exactH B14 36 57 5 (FRow QT (mixT (fun i => (tab z.length fun _ => Qi.zero).set i (gv z i)) (tab z.length fun _ => Qi.zero) z.length i))]) 0 (Nat.zero_le _)
    (Sub.cons rfl (Sub.cons rfl (Sub.cons rfl (Sub.cons rfl Sub.nil)))) (HSub.cons (fun _ _ _ h => h) (HSub.cons (fun _ _ _ h => h) (HSub.cons (matO_of (by rw [zeroM, mix_zero])) HSub.nil))) (fun i hi => ?_)
  refine T_seq ?_
  refine T_seq ?_
  refine T_region ?_
  refine R_op rfl rfl rfl (op_move (Has.t rfl)) ?_
  refine R_op rfl rfl rfl (op_move (Has.t rfl)) ?_
  refine R_op rfl rfl rfl (op_lssN (Has.t rfl) (Has.t rfl)) ?_
  refine R_nil ?_
  refine T_cond (Has.t rfl) (fun hd => ?_) (fun hd => ?_)
  · simp only [decide_eq_true_eq] at hd
    have hzl := tab_len z.length fun _ => Qi.zero
    refine T_focusE 2 (i) rfl (frow_mix hd) (fun v hv => ?_)
    refine T_skip ?_
    refine T_seq ?_
    refine T_block ?_
    refine D_start (m := 10) ?_
    refine D_step (Ei := [(4, _)]) rfl rfl (Srcs.cons (Src.pre rfl rfl) Srcs.nil) (S_plain rfl (op_move (Has.t rfl))) ?_
    refine D_step (Ei := [(5, _)]) rfl rfl (Srcs.cons (Src.pre rfl rfl) Srcs.nil) (S_plain rfl (op_move (Has.t rfl))) ?_
    refine D_step (Ei := [(20, _), (21, _)]) rfl rfl (Srcs.cons (Src.op 0 rfl rfl) (Srcs.cons (Src.op 1 rfl rfl) Srcs.nil)) (S_plain rfl (op_idxB Tryz.runUnderlying37 Tryz.sizeOf36 (Has.t rfl) (Has.t rfl) rfl (by omega) (by rw [Nat.mul_one, Nat.zero_add]))) ?_
    refine D_step (Ei := [(22, _)]) rfl rfl (Srcs.cons (Src.op 2 rfl rfl) Srcs.nil) (S_plain rfl (op_ldH Tryz.isAgg36 Tryz.sizeOf36 (Has.t rfl) (j := 2) rfl)) ?_
    refine D_step (Ei := [(5, _)]) rfl rfl (Srcs.cons (Src.pre rfl rfl) Srcs.nil) (S_plain rfl (op_move (Has.t rfl))) ?_
    refine D_step (Ei := [(1, _)]) rfl rfl (Srcs.cons (Src.pre rfl rfl) Srcs.nil) (S_plain rfl (op_fldB fa_39_0 (Has.t rfl) rfl)) ?_
    refine D_step (Ei := [(25, _)]) rfl rfl (Srcs.cons (Src.op 5 rfl rfl) Srcs.nil) (S_plain rfl (op_ldB Tryz.isAgg36 Tryz.sizeOf36 (Has.t rfl) (i := 1) rfl rfl)) ?_
    refine D_step (Ei := [(5, _)]) rfl rfl (Srcs.cons (Src.pre rfl rfl) Srcs.nil) (S_plain rfl (op_move (Has.t rfl))) ?_
    refine D_step (Ei := [(26, _), (27, _)]) rfl rfl (Srcs.cons (Src.op 6 rfl rfl) (Srcs.cons (Src.op 7 rfl rfl) Srcs.nil)) (S_plain rfl (op_idx Tryz.runUnderlying36 Tryz.sizeOf57 (Has.t rfl) (Has.t rfl) rfl (map_get (getD_some (d := Qi.zero) hd)))) ?_
    refine D_step (Ei := [(28, _)]) rfl rfl (Srcs.cons (Src.op 8 rfl rfl) Srcs.nil) (S_plain rfl (op_ld Tryz.isAgg57 Tryz.sizeOf57 (Has.t rfl))) ?_
    refine D_done mixed rfl (by kernel_rfl) (F_val (F_val (F_val (F_val (F_val (F_val (F_val (F_val (F_val (F_val (F_nil ?_)))))))))))
    refine R_op rfl rfl rfl (op_idxO Tryz.runUnderlying36 Tryz.sizeOf57 (Has.t rfl) (Has.t rfl) rfl (i := 3) rfl (by simp only [List.length_map, tab_len]; omega) rfl) ?_
    refine R_stO Tryz.sizeOf57 (Has.t rfl) (Has.t rfl) (El.ag rfl) (i := 3) rfl rfl (by simp only [List.length_map, tab_len]; omega) rfl ?_
    refine R_nil ?_
    refine T_blk ?_
    refine T_unfocus 2 3 rfl rfl (by decide) (by simp only [FRow, List.length_map, mix_len]; omega) ?_
    refine T_region ?_
    refine R_op rfl rfl rfl (op_move (Has.t rfl)) ?_
    refine R_op rfl rfl rfl (op_addN (Has.t rfl) (Has.cN 1) (by show _ < 9223372036854775808; first | omega | (simp only [lim]; omega))) ?_
    refine R_op rfl rfl rfl (op_assign (Has.t rfl)) ?_
    refine R_nil ?_
    refine T_keep [0, 1, 2] rfl (by decide) ?_
    refine T_again (i + 1) hd (by omega) (Sub.cons rfl (Sub.cons rfl (Sub.cons rfl (Sub.cons rfl Sub.nil)))) (HSub.cons (fun _ _ _ h => h) (HSub.cons (fun _ _ _ h => h) (HSub.cons (matO_of (by rw [set_mapF, set_FRow, ← mix_set (f := (fun i => (tab z.length fun _ => Qi.zero).set i (gv z i)))])) HSub.nil)))
  · simp only [decide_eq_false_iff_not] at hd
    obtain rfl : i = z.length := Nat.le_antisymm hi (by omega)
    rw [mix_fin]
    refine T_exit rfl ?_
    refine T_seq ?_
    refine T_region ?_
    refine R_op rfl rfl rfl (op_fldB fa_39_1 (Has.t rfl) rfl) ?_
    refine R_op rfl rfl rfl (op_ldB Tryz.isAgg37 Tryz.sizeOf37 (Has.t rfl) (i := 1) rfl rfl) ?_
    refine R_op rfl rfl rfl (op_move (Has.t rfl)) ?_
    refine R_lend Tryz.call89 (c_rcarO (p := s) (c := diagM z) (L := L) hs hDf hL1 (by omega) (by rw [hD.1, hsl]; exact hsh) (by rw [hD.1]; exact hD) (by omega) (by rw [hD.1]; exact hl)) (j := 2) (tt := 33) rfl rfl (frz_matF (s := 5) (M := diagM z) hD.1.symm) noiMat (fun _ => inferInstance) (fun _ B hB => by simp only [List.mem_singleton] at hB; subst hB; exact sinsMatF) ⟨(Has.t rfl), (Has.t rfl), trivial⟩ rfl (fun B34 _ => ?_)
    refine R_op rfl rfl rfl (op_assign (Has.t rfl)) ?_
    refine R_nil ?_
    refine T_seq ?_
    refine T_seq ?_
    refine T_freeze (i := 3) (tt := 6) rfl rfl (frz_matF (s := 5) (M := carM s (diagM z)) hX.1.symm) ?_
    refine T_region ?_
    refine R_op rfl rfl rfl (op_assign (Has.cN 0)) ?_
    refine R_nil ?_
    refine T_block ?_
    refine T_keep [0, 2] rfl (by decide) ?_
    refine T_loop (fun (i : Nat) => i ≤ z.length) (fun (i : Nat) => z.length - i) (fun (i : Nat) => [(3, NT .i64 z.length), (4, Is (.slice (some ⟨B14, 0, none⟩) z.length z.length)), (6, QM (carM s (diagM z))), (7, NT .i64 i)]) (fun (i : Nat) => [Z, matP exactH B14 36 57 5 (FRow QT (mixG (fun i => tab z.length fun j => gm (diagM z) i j - gm (carM s (diagM z)) i j) (fun i => tab z.length fun j => gm (diagM z) i j) z.length i))]) 0 (Nat.zero_le _)
      (Sub.cons rfl (Sub.cons rfl (Sub.cons rfl (Sub.cons rfl Sub.nil)))) (HSub.cons (fun _ _ _ h => h) (HSub.cons (matO_of (by rw [← mixG_zero]; exact congrArg _ (mat_tab hD))) HSub.nil)) (fun i hi => ?_)
    refine T_seq ?_
    refine T_seq ?_
    refine T_region ?_
    refine R_op rfl rfl rfl (op_move (Has.t rfl)) ?_
    refine R_op rfl rfl rfl (op_move (Has.t rfl)) ?_
    refine R_op rfl rfl rfl (op_lssN (Has.t rfl) (Has.t rfl)) ?_
    refine R_nil ?_
    refine T_cond (Has.t rfl) (fun he => ?_) (fun he => ?_)
    · simp only [decide_eq_true_eq] at he
      refine T_focusE 1 (i) rfl (frow_mixG he) (fun v hv => ?_)
      refine T_skip ?_
      refine T_seq ?_
      refine T_block ?_
      refine T_seq ?_
      refine T_region ?_
      refine R_op rfl rfl rfl (op_assign (Has.cN 0)) ?_
      refine R_nil ?_
      refine T_block ?_
      refine T_loop (fun (j : Nat) => j ≤ z.length) (fun (j : Nat) => z.length - j) (fun (j : Nat) => [(3, NT .i64 z.length), (4, Is (.slice (some ⟨B14, 0, none⟩) z.length z.length)), (6, QM (carM s (diagM z))), (7, NT .i64 i), (8, NT .i64 j)]) (fun (j : Nat) => [Z, matQ exactH B14 36 57 5 (FRow QT (mixG (fun i => tab z.length fun j => gm (diagM z) i j - gm (carM s (diagM z)) i j) (fun i => tab z.length fun j => gm (diagM z) i j) z.length i)) i v, rowO 57 5 v ((mixG (fun j => gm (diagM z) i j - gm (carM s (diagM z)) i j) (fun j => gm (diagM z) i j) z.length j).map QT)]) 0 (Nat.zero_le _)
        (Sub.cons rfl (Sub.cons rfl (Sub.cons rfl (Sub.cons rfl (Sub.cons rfl Sub.nil))))) (HSub.cons (fun _ _ _ h => h) (HSub.cons (fun _ _ _ h => h) (HSub.cons (rowO_of (by rw [← mixG_zero])) HSub.nil))) (fun j hj => ?_)
      refine T_seq ?_
      refine T_seq ?_
      refine T_region ?_
      refine R_op rfl rfl rfl (op_move (Has.t rfl)) ?_
      refine R_op rfl rfl rfl (op_move (Has.t rfl)) ?_
      refine R_op rfl rfl rfl (op_lssN (Has.t rfl) (Has.t rfl)) ?_
      refine R_nil ?_
      refine T_cond (Has.t rfl) (fun hf => ?_) (fun hf => ?_)
      · simp only [decide_eq_true_eq] at hf
        have hrl := mixG_len (fun j => gm (diagM z) i j - gm (carM s (diagM z)) i j) (fun j => gm (diagM z) i j) z.length j
        have hxr := hX.row (i := i) (by omega)
        haveI f1 : FitC (gm (diagM z) i j) L := hDf.get hL1 i j
        haveI f2 : FitC (gm (carM s (diagM z)) i j) (200 * L + 300) := hXf.get (by omega) i j
        refine T_skip ?_
        refine T_seq ?_
        refine T_block ?_
        refine D_start (m := 20) ?_
        refine D_step (Ei := [(4, _)]) rfl rfl (Srcs.cons (Src.pre rfl rfl) Srcs.nil) (S_plain rfl (op_move (Has.t rfl))) ?_
        refine D_step (Ei := [(7, _)]) rfl rfl (Srcs.cons (Src.pre rfl rfl) Srcs.nil) (S_plain rfl (op_move (Has.t rfl))) ?_
        refine D_step (Ei := [(45, _), (46, _)]) rfl rfl (Srcs.cons (Src.op 0 rfl rfl) (Srcs.cons (Src.op 1 rfl rfl) Srcs.nil)) (S_plain rfl (op_idxB Tryz.runUnderlying37 Tryz.sizeOf36 (Has.t rfl) (Has.t rfl) rfl (by omega) (by rw [Nat.mul_one, Nat.zero_add]))) ?_
        refine D_step (Ei := [(47, _)]) rfl rfl (Srcs.cons (Src.op 2 rfl rfl) Srcs.nil) (S_plain rfl (op_ldH Tryz.isAgg36 Tryz.sizeOf36 (Has.t rfl) (j := 1) rfl)) ?_
        refine D_step (Ei := [(8, _)]) rfl rfl (Srcs.cons (Src.pre rfl rfl) Srcs.nil) (S_plain rfl (op_move (Has.t rfl))) ?_
        refine D_step (Ei := [(4, _)]) rfl rfl (Srcs.cons (Src.pre rfl rfl) Srcs.nil) (S_plain rfl (op_move (Has.t rfl))) ?_
        refine D_step (Ei := [(7, _)]) rfl rfl (Srcs.cons (Src.pre rfl rfl) Srcs.nil) (S_plain rfl (op_move (Has.t rfl))) ?_
        refine D_step (Ei := [(50, _), (51, _)]) rfl rfl (Srcs.cons (Src.op 5 rfl rfl) (Srcs.cons (Src.op 6 rfl rfl) Srcs.nil)) (S_plain rfl (op_idxB Tryz.runUnderlying37 Tryz.sizeOf36 (Has.t rfl) (Has.t rfl) rfl (by omega) (by rw [Nat.mul_one, Nat.zero_add]))) ?_
        refine D_step (Ei := [(52, _)]) rfl rfl (Srcs.cons (Src.op 7 rfl rfl) Srcs.nil) (S_plain rfl (op_ldH Tryz.isAgg36 Tryz.sizeOf36 (Has.t rfl) (j := 1) rfl)) ?_
        refine D_step (Ei := [(8, _)]) rfl rfl (Srcs.cons (Src.pre rfl rfl) Srcs.nil) (S_plain rfl (op_move (Has.t rfl))) ?_
        refine D_step (Ei := [(53, _), (54, _)]) rfl rfl (Srcs.cons (Src.op 8 rfl rfl) (Srcs.cons (Src.op 9 rfl rfl) Srcs.nil)) (S_plain rfl (op_idxO Tryz.runUnderlying36 Tryz.sizeOf57 (Has.t rfl) (Has.t rfl) rfl (i := 2) rfl (by simp only [List.length_map, hrl]; omega) rfl)) ?_
        refine D_step (Ei := [(55, _)]) rfl rfl (Srcs.cons (Src.op 10 rfl rfl) Srcs.nil) (S_plain rfl (op_ldO Tryz.isAgg57 Tryz.sizeOf57 (Has.t rfl) (i := 2) rfl rfl (map_get (mixG_get hf)))) ?_
        refine D_step (Ei := [(6, _)]) rfl rfl (Srcs.cons (Src.pre rfl rfl) Srcs.nil) (S_plain rfl (op_move (Has.t rfl))) ?_
        refine D_step (Ei := [(7, _)]) rfl rfl (Srcs.cons (Src.pre rfl rfl) Srcs.nil) (S_plain rfl (op_move (Has.t rfl))) ?_
        refine D_step (Ei := [(57, _), (58, _)]) rfl rfl (Srcs.cons (Src.op 12 rfl rfl) (Srcs.cons (Src.op 13 rfl rfl) Srcs.nil)) (S_plain rfl (op_idx Tryz.runUnderlying37 Tryz.sizeOf36 (Has.t rfl) (Has.t rfl) rfl (map_get (getD_some (d := []) (by rw [hX.1]; omega))))) ?_
        refine D_step (Ei := [(59, _)]) rfl rfl (Srcs.cons (Src.op 14 rfl rfl) Srcs.nil) (S_plain rfl (op_ld Tryz.isAgg36 Tryz.sizeOf36 (Has.t rfl))) ?_
        refine D_step (Ei := [(8, _)]) rfl rfl (Srcs.cons (Src.pre rfl rfl) Srcs.nil) (S_plain rfl (op_move (Has.t rfl))) ?_
        refine D_step (Ei := [(60, _), (61, _)]) rfl rfl (Srcs.cons (Src.op 15 rfl rfl) (Srcs.cons (Src.op 16 rfl rfl) Srcs.nil)) (S_plain rfl (op_idx Tryz.runUnderlying36 Tryz.sizeOf57 (Has.t rfl) (Has.t rfl) rfl (map_get (getD_some (d := Qi.zero) (by rw [hxr]; omega))))) ?_
        refine D_step (Ei := [(62, _)]) rfl rfl (Srcs.cons (Src.op 17 rfl rfl) Srcs.nil) (S_plain rfl (op_ld Tryz.isAgg57 Tryz.sizeOf57 (Has.t rfl))) ?_
        refine D_step (Ei := [(56, _), (63, _)]) rfl rfl (Srcs.cons (Src.op 11 rfl rfl) (Srcs.cons (Src.op 18 rfl rfl) Srcs.nil)) (S_plain rfl (op_call Tryz.call88 (c_rSub (by omega)) ⟨(Has.t rfl), (Has.t rfl), trivial⟩)) ?_
        refine D_done mixed rfl (by kernel_rfl) (F_val (F_val (F_val (F_val (F_val (F_val (F_val (F_val (F_val (F_val (F_val (F_val (F_val (F_val (F_val (F_val (F_val (F_val (F_val (F_val (F_nil ?_)))))))))))))))))))))
        refine R_op rfl rfl rfl (op_idxO Tryz.runUnderlying36 Tryz.sizeOf57 (Has.t rfl) (Has.t rfl) rfl (i := 2) rfl (by simp only [List.length_map, hrl]; omega) rfl) ?_
        refine R_stO Tryz.sizeOf57 (Has.t rfl) (Has.t rfl) (El.ag rfl) (i := 2) rfl rfl (by simp only [List.length_map, hrl]; omega) rfl ?_
        refine R_nil ?_
        refine T_blk ?_
        refine T_region ?_
        refine R_op rfl rfl rfl (op_move (Has.t rfl)) ?_
        refine R_op rfl rfl rfl (op_addN (Has.t rfl) (Has.cN 1) (by show _ < 9223372036854775808; first | omega | (simp only [lim]; omega))) ?_
        refine R_op rfl rfl rfl (op_assign (Has.t rfl)) ?_
        refine R_nil ?_
        refine T_again (j + 1) hf (by omega) (Sub.cons rfl (Sub.cons rfl (Sub.cons rfl (Sub.cons rfl (Sub.cons rfl Sub.nil))))) (HSub.cons (fun _ _ _ h => h) (HSub.cons (fun _ _ _ h => h) (HSub.cons (rowO_of (by rw [set_mapF, ← mixG_set (f := fun j => gm (diagM z) i j - gm (carM s (diagM z)) i j)])) HSub.nil)))
      · simp only [decide_eq_false_iff_not] at hf
        obtain rfl : j = z.length := Nat.le_antisymm hj (by omega)
        refine T_exit rfl ?_
        refine T_blk ?_
        refine T_unfocus 1 2 rfl rfl (by decide) (by simp only [FRow, List.length_map, mixG_len]; omega) ?_
        refine T_region ?_
        refine R_op rfl rfl rfl (op_move (Has.t rfl)) ?_
        refine R_op rfl rfl rfl (op_addN (Has.t rfl) (Has.cN 1) (by show _ < 9223372036854775808; first | omega | (simp only [lim]; omega))) ?_
        refine R_op rfl rfl rfl (op_assign (Has.t rfl)) ?_
        refine R_nil ?_
        refine T_keep [0, 1] rfl (by decide) ?_
        refine T_again (i + 1) he (by omega) (Sub.cons rfl (Sub.cons rfl (Sub.cons rfl (Sub.cons rfl Sub.nil)))) (HSub.cons (fun _ _ _ h => h) (HSub.cons (matO_of (by rw [set_FRow, mixG_fin, ← mixG_set (f := (fun i => tab z.length fun j => gm (diagM z) i j - gm (carM s (diagM z)) i j))])) HSub.nil))
    · simp only [decide_eq_false_iff_not] at he
      obtain rfl : i = z.length := Nat.le_antisymm hi (by omega)
      refine T_exit rfl ?_
      refine T_seq ?_
      refine T_region ?_
      refine R_op rfl rfl rfl (op_move (Has.t rfl)) ?_
      refine R_op rfl rfl rfl (op_assign (Has.t rfl)) ?_
      refine R_nil ?_
      exact T_retO B14 trivial [0, 1] ⟨⟨_, rfl, fun _ _ _ h => h⟩, ⟨_, rfl, (matO_of (by rw [mixG_fin]; rfl))⟩, trivial⟩ (by decide) (rvs1 rfl (rv_tmp rfl))
end Go.Proofs.YtppibhcfaahgpaaGreat
namespace Go.Proofs.YtppibhcfaahgpaaGreat
open Go Go.RowKit
theorem fa_41_0 (a : Addr) (w : World) : (Instr.fieldAt 41 (.pointer (some a)) 0).run Tryz.prog w = .ok (.pointer (some (a.add 0))) w := by
  simp [Instr.fieldAt, Instr.sureAddr, fieldPlace, Sem.run_bind, Result.andThen, Tryz.runUnderlying41, Tryz.sizeOf39]
theorem fa_41_1 (a : Addr) (w : World) : (Instr.fieldAt 41 (.pointer (some a)) 1).run Tryz.prog w = .ok (.pointer (some (a.add 2))) w := by
  simp [Instr.fieldAt, Instr.sureAddr, fieldPlace, Sem.run_bind, Result.andThen, Tryz.runUnderlying41, Tryz.sizeOf37]
end Go.Proofs.YtppibhcfaahgpaaGreat
namespace Go.Proofs.YtppibhcfaahgpaaGreat
open Go Go.RowKit
theorem c_rWarm {x : Qi} {L : Nat} [hx : FitC x L] (h : L ≤ 17592186044415) : Fun Tryz.prog 97 [QT x] (BoolT (warmB x)) := by rw [← rwarm_eq]; exact c_rTemp h
theorem c_rcar {p c : List (List Qi)} {L : Nat} (hp : FitM p L) (hc : FitM c L) (hL1 : 1 ≤ L) (hL : L ≤ 1000000) (hps : Shp p p.length c.length) (hcs : Shp c c.length c.length) (hpl : p.length ≤ 8) (hcl : c.length ≤ 8) : Fun Tryz.prog 89 [QM p, QM c] (QM (carM p c)) := (c_rcarO hp hc hL1 hL hps hcs hpl hcl).fun fun B _ v S V h1 h2 => frz_matF (s := 5) (M := carM p c) carM_shp.1.symm v S V h1 h2
set_option maxRecDepth 20000 in
theorem c_rOwn {z : List Qi} {s : List (List Qi)} {t : Qi} {L : Nat} (hz : FitL z L) (hs : FitM s L) (ht : FitC t L) (hL1 : 1 ≤ L) (hL : L ≤ 4000) (hsh : Shp s z.length z.length) (hl : z.length ≤ 8) : Fun Tryz.prog 24 [RNetT z s, QT t] (TupT [RNoisyT (okL (wrmE t) z) (okL (wrmE t) s) (okL (wrmE t) (scaM t (ownM z s) z.length)), IntT .i64 (wrmE t)]) := by
  haveI := ht
  have hOs := ownM_shp z s
  have hOf := ownM_fit hz hs hL1 hl
  refine Fun.intro Tryz.func24 rfl Tryz.ntmps24 rfl (fun cx => ?_)
  refine T_seq ?_
  refine T_region ?_
  refine R_new rfl rfl rfl (new_box (Has.t rfl)) (fun B2 => ?_)
  refine R_new rfl rfl rfl (new_box (Has.t rfl)) (fun B3 => ?_)
  refine R_new rfl rfl rfl (new_alloc (Ts := [Is (.slice none 0 0), Is (.slice none 0 0), Is (.slice none 0 0)]) Tryz.zeroValue41 rfl (fun V => Cells.cons' ⟨rfl, trivial⟩ (Cells.cons' ⟨rfl, trivial⟩ (Cells.cons' ⟨rfl, trivial⟩ (Cells.nil))))) (fun B4 => ?_)
  refine R_op rfl rfl rfl (op_assign (Has.cN 0)) ?_
  refine R_nil ?_
  refine T_seq ?_
  refine T_seq ?_
  refine T_region ?_
  refine R_op rfl rfl rfl (op_ldBA Tryz.isAgg57 Tryz.sizeOf57 (Has.t rfl) (i := 1) rfl rfl rfl) ?_
  refine R_op rfl rfl rfl (op_call Tryz.call97 (c_rWarm (by omega)) ⟨(Has.t rfl), trivial⟩) ?_
  refine R_op rfl rfl rfl (op_not (Has.t rfl)) ?_
  refine R_nil ?_
  refine T_cond (Has.t rfl) (fun hb => ?_) (fun hb => ?_)
  · have he : wrmE t ≠ 0 := by simp only [Bool.not_eq_true'] at hb; rw [wrmE, hb]; decide
    have he1 : wrmE t = 1 := by simp only [Bool.not_eq_true'] at hb; rw [wrmE, hb]; rfl
    refine T_seq ?_
    refine T_region ?_
    refine R_op rfl rfl rfl (OpTy.imp (bld_41_ ) rnoisy_nil) ?_
    refine R_stA Tryz.sizeOf41 (Has.t rfl) (Has.t rfl) rfl (i := 2) rfl (Nat.le_of_ble_eq_true rfl) rfl rfl ?_
    refine R_op rfl rfl rfl (op_assign (Has.cN 1)) ?_
    refine R_nil ?_
    refine T_ret2 rfl (rv_to (rv_cell Tryz.isAgg41 Tryz.sizeOf41 rfl (i := 2) rfl rfl) ?_) (rv_to (rv_tmp rfl) ?_)
    · exact (rown_bad he)
    · exact (int_of he1.symm)
  · have he : wrmE t = 0 := by simp only [Bool.not_eq_false'] at hb; rw [wrmE, hb]; rfl
    refine T_skip ?_
    refine T_seq ?_
    refine T_region ?_
    refine R_op rfl rfl rfl (op_ldBA Tryz.isAgg39 Tryz.sizeOf39 (Has.t rfl) (i := 0) rfl rfl rfl) ?_
    refine R_call0 Tryz.call98 (c_rownO hz hs hL1 hL hsh hl) ⟨(Has.t rfl), trivial⟩ rfl (fun B14 _ => ?_)
    refine R_op rfl rfl rfl (op_assign (Has.t rfl)) ?_
    refine R_nil ?_
    refine T_seq ?_
    refine T_seq ?_
    refine T_region ?_
    refine R_op rfl rfl rfl (op_assign (Has.cN 0)) ?_
    refine R_nil ?_
    refine T_block ?_
    refine T_loop (fun (i : Nat) => i ≤ z.length) (fun (i : Nat) => z.length - i) (fun (i : Nat) => [(2, PtrB B2 0), (3, PtrB B3 0), (4, PtrB B4 0), (6, Is (.slice (some ⟨B14, 0, none⟩) z.length z.length)), (7, NT .i64 i)]) (fun (i : Nat) => [box B2 39 [QsT z, QM s], box B3 57 [BoolT (decide (t.a < 0)), NatT t.a.natAbs, BoolT (decide (t.b < 0)), NatT t.b.natAbs, NatT t.den], box B4 41 [Is (.slice none 0 0), Is (.slice none 0 0), Is (.slice none 0 0)], matP exactH B14 36 57 5 (FRow QT (mixG (fun i => tab z.length fun j => t * gm (ownM z s) i j) (fun i => tab z.length fun j => gm (ownM z s) i j) z.length i))]) 0 (Nat.zero_le _)
      (Sub.cons rfl (Sub.cons rfl (Sub.cons rfl (Sub.cons rfl (Sub.cons rfl Sub.nil))))) (HSub.cons (fun _ _ _ h => h) (HSub.cons (fun _ _ _ h => h) (HSub.cons (fun _ _ _ h => h) (HSub.cons (matO_of (by rw [← mixG_zero]; exact congrArg _ (mat_tab hOs))) HSub.nil)))) (fun i hi => ?_)
    refine T_seq ?_
    refine T_seq ?_
    refine T_region ?_
    refine R_op rfl rfl rfl (op_move (Has.t rfl)) ?_
    refine R_op rfl rfl rfl (op_move (Has.t rfl)) ?_
    refine R_op rfl rfl rfl (op_lenI Tryz.runUnderlying37 (Has.t rfl)) ?_
    refine R_op rfl rfl rfl (op_lssN (Has.t rfl) (Has.t rfl)) ?_
    refine R_nil ?_
    refine T_cond (Has.t rfl) (fun he2 => ?_) (fun he2 => ?_)
    · simp only [decide_eq_true_eq] at he2
      refine T_focusE 3 (i) rfl (frow_mixG he2) (fun v hv => ?_)
      refine T_skip ?_
      refine T_seq ?_
      refine T_block ?_
      refine T_seq ?_
      refine T_region ?_
      refine R_op rfl rfl rfl (op_assign (Has.cN 0)) ?_
      refine R_nil ?_
      refine T_block ?_
      refine T_loop (fun (j : Nat) => j ≤ z.length) (fun (j : Nat) => z.length - j) (fun (j : Nat) => [(2, PtrB B2 0), (3, PtrB B3 0), (4, PtrB B4 0), (6, Is (.slice (some ⟨B14, 0, none⟩) z.length z.length)), (7, NT .i64 i), (8, NT .i64 j)]) (fun (j : Nat) => [box B2 39 [QsT z, QM s], box B3 57 [BoolT (decide (t.a < 0)), NatT t.a.natAbs, BoolT (decide (t.b < 0)), NatT t.b.natAbs, NatT t.den], box B4 41 [Is (.slice none 0 0), Is (.slice none 0 0), Is (.slice none 0 0)], matQ exactH B14 36 57 5 (FRow QT (mixG (fun i => tab z.length fun j => t * gm (ownM z s) i j) (fun i => tab z.length fun j => gm (ownM z s) i j) z.length i)) i v, rowO 57 5 v ((mixG (fun j => t * gm (ownM z s) i j) (fun j => gm (ownM z s) i j) z.length j).map QT)]) 0 (Nat.zero_le _)
        (Sub.cons rfl (Sub.cons rfl (Sub.cons rfl (Sub.cons rfl (Sub.cons rfl (Sub.cons rfl Sub.nil)))))) (HSub.cons (fun _ _ _ h => h) (HSub.cons (fun _ _ _ h => h) (HSub.cons (fun _ _ _ h => h) (HSub.cons (fun _ _ _ h => h) (HSub.cons (rowO_of (by rw [← mixG_zero])) HSub.nil))))) (fun j hj => ?_)
      refine T_seq ?_
      refine T_seq ?_
      refine T_region ?_
      refine R_op rfl rfl rfl (op_move (Has.t rfl)) ?_
      refine R_op rfl rfl rfl (op_move (Has.t rfl)) ?_
      refine R_op rfl rfl rfl (op_lenI Tryz.runUnderlying37 (Has.t rfl)) ?_
      refine R_op rfl rfl rfl (op_lssN (Has.t rfl) (Has.t rfl)) ?_
      refine R_nil ?_
      refine T_cond (Has.t rfl) (fun hf => ?_) (fun hf => ?_)
      · simp only [decide_eq_true_eq] at hf
        have hrl := mixG_len (fun j => t * gm (ownM z s) i j) (fun j => gm (ownM z s) i j) z.length j
        haveI f1 : FitC (gm (ownM z s) i j) (201 * L + 301) := hOf.get (by omega) i j
        refine T_skip ?_
        refine T_seq ?_
        refine T_block ?_
        refine D_start (m := 14) ?_
        refine D_step (Ei := [(6, _)]) rfl rfl (Srcs.cons (Src.pre rfl rfl) Srcs.nil) (S_plain rfl (op_move (Has.t rfl))) ?_
        refine D_step (Ei := [(7, _)]) rfl rfl (Srcs.cons (Src.pre rfl rfl) Srcs.nil) (S_plain rfl (op_move (Has.t rfl))) ?_
        refine D_step (Ei := [(27, _), (28, _)]) rfl rfl (Srcs.cons (Src.op 0 rfl rfl) (Srcs.cons (Src.op 1 rfl rfl) Srcs.nil)) (S_plain rfl (op_idxB Tryz.runUnderlying37 Tryz.sizeOf36 (Has.t rfl) (Has.t rfl) rfl (by omega) (by rw [Nat.mul_one, Nat.zero_add]))) ?_
        refine D_step (Ei := [(29, _)]) rfl rfl (Srcs.cons (Src.op 2 rfl rfl) Srcs.nil) (S_plain rfl (op_ldH Tryz.isAgg36 Tryz.sizeOf36 (Has.t rfl) (j := 3) rfl)) ?_
        refine D_step (Ei := [(8, _)]) rfl rfl (Srcs.cons (Src.pre rfl rfl) Srcs.nil) (S_plain rfl (op_move (Has.t rfl))) ?_
        refine D_step (Ei := [(3, _)]) rfl rfl (Srcs.cons (Src.pre rfl rfl) Srcs.nil) (S_plain rfl (op_ldBA Tryz.isAgg57 Tryz.sizeOf57 (Has.t rfl) (i := 1) rfl rfl rfl)) ?_
        refine D_step (Ei := [(6, _)]) rfl rfl (Srcs.cons (Src.pre rfl rfl) Srcs.nil) (S_plain rfl (op_move (Has.t rfl))) ?_
        refine D_step (Ei := [(7, _)]) rfl rfl (Srcs.cons (Src.pre rfl rfl) Srcs.nil) (S_plain rfl (op_move (Has.t rfl))) ?_
        refine D_step (Ei := [(33, _), (34, _)]) rfl rfl (Srcs.cons (Src.op 6 rfl rfl) (Srcs.cons (Src.op 7 rfl rfl) Srcs.nil)) (S_plain rfl (op_idxB Tryz.runUnderlying37 Tryz.sizeOf36 (Has.t rfl) (Has.t rfl) rfl (by omega) (by rw [Nat.mul_one, Nat.zero_add]))) ?_
        refine D_step (Ei := [(35, _)]) rfl rfl (Srcs.cons (Src.op 8 rfl rfl) Srcs.nil) (S_plain rfl (op_ldH Tryz.isAgg36 Tryz.sizeOf36 (Has.t rfl) (j := 3) rfl)) ?_
        refine D_step (Ei := [(8, _)]) rfl rfl (Srcs.cons (Src.pre rfl rfl) Srcs.nil) (S_plain rfl (op_move (Has.t rfl))) ?_
        refine D_step (Ei := [(36, _), (37, _)]) rfl rfl (Srcs.cons (Src.op 9 rfl rfl) (Srcs.cons (Src.op 10 rfl rfl) Srcs.nil)) (S_plain rfl (op_idxO Tryz.runUnderlying36 Tryz.sizeOf57 (Has.t rfl) (Has.t rfl) rfl (i := 4) rfl (by simp only [List.length_map, hrl]; omega) rfl)) ?_
        refine D_step (Ei := [(38, _)]) rfl rfl (Srcs.cons (Src.op 11 rfl rfl) Srcs.nil) (S_plain rfl (op_ldO Tryz.isAgg57 Tryz.sizeOf57 (Has.t rfl) (i := 4) rfl rfl (map_get (mixG_get hf)))) ?_
        refine D_step (Ei := [(32, _), (39, _)]) rfl rfl (Srcs.cons (Src.op 5 rfl rfl) (Srcs.cons (Src.op 12 rfl rfl) Srcs.nil)) (S_plain rfl (op_call Tryz.call87 (c_rMul (by omega)) ⟨(Has.t rfl), (Has.t rfl), trivial⟩)) ?_
        refine D_done mixed rfl (by kernel_rfl) (F_val (F_val (F_val (F_val (F_val (F_val (F_val (F_val (F_val (F_val (F_val (F_val (F_val (F_val (F_nil ?_)))))))))))))))
        refine R_op rfl rfl rfl (op_idxO Tryz.runUnderlying36 Tryz.sizeOf57 (Has.t rfl) (Has.t rfl) rfl (i := 4) rfl (by simp only [List.length_map, hrl]; omega) rfl) ?_
        refine R_stO Tryz.sizeOf57 (Has.t rfl) (Has.t rfl) (El.ag rfl) (i := 4) rfl rfl (by simp only [List.length_map, hrl]; omega) rfl ?_
        refine R_nil ?_
        refine T_blk ?_
        refine T_region ?_
        refine R_op rfl rfl rfl (op_move (Has.t rfl)) ?_
        refine R_op rfl rfl rfl (op_addN (Has.t rfl) (Has.cN 1) (by show _ < 9223372036854775808; first | omega | (simp only [lim]; omega))) ?_
        refine R_op rfl rfl rfl (op_assign (Has.t rfl)) ?_
        refine R_nil ?_
        refine T_again (j + 1) hf (by omega) (Sub.cons rfl (Sub.cons rfl (Sub.cons rfl (Sub.cons rfl (Sub.cons rfl (Sub.cons rfl Sub.nil)))))) (HSub.cons (fun _ _ _ h => h) (HSub.cons (fun _ _ _ h => h) (HSub.cons (fun _ _ _ h => h) (HSub.cons (fun _ _ _ h => h) (HSub.cons (rowO_of (by rw [set_mapF, ← mixG_set (f := fun j => t * gm (ownM z s) i j)])) HSub.nil)))))
      · simp only [decide_eq_false_iff_not] at hf
        obtain rfl : j = z.length := Nat.le_antisymm hj (by omega)
        refine T_exit rfl ?_
        refine T_blk ?_
        refine T_unfocus 3 4 rfl rfl (by decide) (by simp only [FRow, List.length_map, mixG_len]; omega) ?_
        refine T_region ?_
        refine R_op rfl rfl rfl (op_move (Has.t rfl)) ?_
        refine R_op rfl rfl rfl (op_addN (Has.t rfl) (Has.cN 1) (by show _ < 9223372036854775808; first | omega | (simp only [lim]; omega))) ?_
        refine R_op rfl rfl rfl (op_assign (Has.t rfl)) ?_
        refine R_nil ?_
        refine T_keep [0, 1, 2, 3] rfl (by decide) ?_
        refine T_again (i + 1) he2 (by omega) (Sub.cons rfl (Sub.cons rfl (Sub.cons rfl (Sub.cons rfl (Sub.cons rfl Sub.nil))))) (HSub.cons (fun _ _ _ h => h) (HSub.cons (fun _ _ _ h => h) (HSub.cons (fun _ _ _ h => h) (HSub.cons (matO_of (by rw [set_FRow, mixG_fin, ← mixG_set (f := (fun i => tab z.length fun j => t * gm (ownM z s) i j))])) HSub.nil))))
    · simp only [decide_eq_false_iff_not] at he2
      obtain rfl : i = z.length := Nat.le_antisymm hi (by omega)
      rw [mixG_fin]
      refine T_exit rfl ?_
      refine T_seq ?_
      refine T_freeze (i := 3) (tt := 6) rfl rfl (frz_matF (s := 5) (M := (scaM t (ownM z s) z.length)) scaM_shp.1.symm) ?_
      refine T_region ?_
      refine R_op rfl rfl rfl (op_ldBA Tryz.isAgg39 Tryz.sizeOf39 (Has.t rfl) (i := 0) rfl rfl rfl) ?_
      refine R_op rfl rfl rfl (op_move (Has.t rfl)) ?_
      refine R_op rfl rfl rfl (bld_41_0_1 (Has.t rfl) (Has.t rfl)) ?_
      refine R_stA Tryz.sizeOf41 (Has.t rfl) (Has.t rfl) rfl (i := 2) rfl (Nat.le_of_ble_eq_true rfl) rfl rfl ?_
      refine R_op rfl rfl rfl (op_assign (Has.cN 0)) ?_
      refine R_nil ?_
      refine T_ret2 rfl (rv_to (rv_cell Tryz.isAgg41 Tryz.sizeOf41 rfl (i := 2) rfl rfl) ?_) (rv_to (rv_tmp rfl) ?_)
      · exact (rown_good he)
      · exact (int_of he.symm)
set_option maxRecDepth 20000 in
theorem c_rFactor {z : List Qi} {s c : List (List Qi)} {g t0 : Qi} {L : Nat} (hz : FitL z L) (hs : FitM s L) (hc : FitM c L) (hg : FitC g L) (ht : FitC t0 L) (hL1 : 1 ≤ L) (hL : L ≤ 4000) (hsh : Shp s z.length z.length) (hch : Shp c z.length z.length) (hl : z.length ≤ 8) : Fun Tryz.prog 19 [RNoisyT z s c, QT g, QT t0] (TupT [QT (facR z s c g t0).1, IntT .i64 (facR z s c g t0).2]) := by
  haveI := hg; haveI := ht
  have d1 : (dg (((1 : Nat) : Int)).natAbs).length = 1 := by decide
  refine Fun.intro Tryz.func19 rfl Tryz.ntmps19 rfl (fun cx => ?_)
  refine T_seq ?_
  refine T_region ?_
  refine R_new rfl rfl rfl (new_box (Has.t rfl)) (fun B3 => ?_)
  refine R_new rfl rfl rfl (new_box (Has.t rfl)) (fun B4 => ?_)
  refine R_new rfl rfl rfl (new_box (Has.t rfl)) (fun B5 => ?_)
  refine R_new rfl rfl rfl (new_alloc (Ts := [Is (.bool false), Is (.slice none 0 0), Is (.bool false), Is (.slice none 0 0), Is (.slice none 0 0)]) Tryz.zeroValue57 rfl (fun V => Cells.cons' ⟨rfl, trivial⟩ (Cells.cons' ⟨rfl, trivial⟩ (Cells.cons' ⟨rfl, trivial⟩ (Cells.cons' ⟨rfl, trivial⟩ (Cells.cons' ⟨rfl, trivial⟩ (Cells.nil))))))) (fun B6 => ?_)
  refine R_op rfl rfl rfl (op_assign (Has.cN 0)) ?_
  refine R_nil ?_
  refine T_seq ?_
  refine T_seq ?_
  refine T_region ?_
  refine R_op rfl rfl rfl (op_ldBA Tryz.isAgg57 Tryz.sizeOf57 (Has.t rfl) (i := 2) rfl rfl rfl) ?_
  refine R_op rfl rfl rfl (op_call Tryz.call84 (c_rSide (by omega)) ⟨(Has.t rfl), trivial⟩) ?_
  refine R_op rfl rfl rfl (op_neq (Has.t rfl) Has.c) ?_
  refine R_op rfl rfl rfl (op_move (Has.t rfl)) ?_
  refine R_step rfl rfl (S_when rfl rfl (Has.t rfl) (fun h => op_ldBA Tryz.isAgg57 Tryz.sizeOf57 (Has.t rfl) (i := 2) rfl rfl rfl)) ?_
  refine R_step rfl rfl (S_when rfl rfl (Has.t rfl) (fun h => op_call Tryz.call85 c_rSign ⟨(Has.w rfl h), trivial⟩)) ?_
  refine R_step rfl rfl (S_when rfl rfl (Has.t rfl) (fun h => op_leq (Has.w rfl h) Has.c)) ?_
  refine R_op rfl rfl rfl (op_or (Has.t rfl) (fun h => (Has.w rfl h))) ?_
  refine R_nil ?_
  refine T_cond (Has.t rfl) (fun hb => ?_) (fun hb => ?_)
  · rw [rnpos_eq] at hb
    simp only [Bool.not_eq_true'] at hb
    have he : facR z s c g t0 = (Qi.zero, 1) := by rw [facR, if_pos hb]
    refine T_seq ?_
    refine T_region ?_
    refine R_op rfl rfl rfl (op_call Tryz.call86 (c_rWhole (by decide) (by decide)) ⟨(Has.cN 0), trivial⟩) ?_
    refine R_stA Tryz.sizeOf57 (Has.t rfl) (Has.t rfl) rfl (i := 3) rfl (Nat.le_of_ble_eq_true rfl) rfl rfl ?_
    refine R_op rfl rfl rfl (op_assign (Has.cN 1)) ?_
    refine R_nil ?_
    refine T_ret2 rfl (rv_to (rv_cell Tryz.isAgg57 Tryz.sizeOf57 rfl (i := 3) rfl rfl) ?_) (rv_to (rv_tmp rfl) ?_)
    · exact (fun v V k => by rw [he]; exact k)
    · exact (fun v V k => by rw [he]; exact k)
  · rw [rnpos_eq] at hb
    simp only [Bool.not_eq_false'] at hb
    have hb2 : ¬ posQ t0 = false := by rw [hb]; decide
    refine T_skip ?_
    refine T_seq ?_
    refine T_seq ?_
    refine T_region ?_
    refine R_op rfl rfl rfl (op_fldB fa_41_0 (Has.t rfl) rfl) ?_
    refine R_op rfl rfl rfl (op_fldB fa_39_0 (Has.t rfl) rfl) ?_
    refine R_op rfl rfl rfl (op_ldB Tryz.isAgg36 Tryz.sizeOf36 (Has.t rfl) (i := 0) rfl rfl) ?_
    refine R_op rfl rfl rfl (op_len Tryz.runUnderlying36 (Has.t rfl) len_map) ?_
    refine R_op rfl rfl rfl (op_neqN (Has.t rfl) (Has.cN 2)) ?_
    refine R_nil ?_
    refine T_cond (Has.t rfl) (fun hd => ?_) (fun hd => ?_)
    · have hd2 : z.length ≠ 2 := by simpa using hd
      have he : facR z s c g t0 = (Qi.zero, 4) := by rw [facR, if_neg hb2, if_pos hd2]
      refine T_seq ?_
      refine T_region ?_
      refine R_op rfl rfl rfl (op_call Tryz.call86 (c_rWhole (by decide) (by decide)) ⟨(Has.cN 0), trivial⟩) ?_
      refine R_stA Tryz.sizeOf57 (Has.t rfl) (Has.t rfl) rfl (i := 3) rfl (Nat.le_of_ble_eq_true rfl) rfl rfl ?_
      refine R_op rfl rfl rfl (op_assign (Has.cN 4)) ?_
      refine R_nil ?_
      refine T_ret2 rfl (rv_to (rv_cell Tryz.isAgg57 Tryz.sizeOf57 rfl (i := 3) rfl rfl) ?_) (rv_to (rv_tmp rfl) ?_)
      · exact (fun v V k => by rw [he]; exact k)
      · exact (fun v V k => by rw [he]; exact k)
    · have hd2 : z.length = 2 := by simpa using hd
      have hd3 : ¬ z.length ≠ 2 := fun h => h hd2
      rw [hd2] at hsh hch
      have hs1 := hsh.1
      have hc1 := hch.1
      have hr0 := hsh.row (i := 0) (by decide)
      have hr1 := hsh.row (i := 1) (by decide)
      have hWf := facW_fit hs hg hL1
      have hW : Shp (facW s g) (facW s g).length c.length := ⟨rfl, fun r hr => by have := List.mem_singleton.1 hr; subst this; rw [hc1]; rfl⟩
      have hXs : Shp (carM (facW s g) c) 1 1 := carM_shp
      have hX0 := hXs.row (i := 0) (by decide)
      haveI f1 : FitC (gm s 1 0) L := hs.get hL1 1 0
      haveI f2 : FitC (gm s 0 0) L := hs.get hL1 0 0
      haveI f3 : FitC (gv z 0) L := hz.get hL1 0
      haveI f4 := facX_fit hs hc hg hL1 (by omega)
      haveI f5 := facD_fit hz hs hg ht hL1
      refine T_skip ?_
      refine T_seq ?_
      refine T_region ?_
      refine R_op rfl rfl rfl (op_fldB fa_41_0 (Has.t rfl) rfl) ?_
      refine R_op rfl rfl rfl (op_fldB fa_39_1 (Has.t rfl) rfl) ?_
      refine R_op rfl rfl rfl (op_ldB Tryz.isAgg37 Tryz.sizeOf37 (Has.t rfl) (i := 0) rfl rfl) ?_
      refine R_op rfl rfl rfl (op_assign (Has.t rfl)) ?_
      refine R_nil ?_
      refine T_seq ?_
      refine D_start (m := 14) ?_
      refine D_step (Ei := [(8, _)]) rfl rfl (Srcs.cons (Src.pre rfl rfl) Srcs.nil) (S_plain rfl (op_move (Has.t rfl))) ?_
      refine D_step (Ei := [(32, _)]) rfl rfl (Srcs.cons (Src.op 0 rfl rfl) Srcs.nil) (S_plain rfl (op_idx Tryz.runUnderlying37 Tryz.sizeOf36 (Has.t rfl) (Has.cN 1) rfl (map_get (getD_some (d := []) (by omega))))) ?_
      refine D_step (Ei := [(33, _)]) rfl rfl (Srcs.cons (Src.op 1 rfl rfl) Srcs.nil) (S_plain rfl (op_ld Tryz.isAgg36 Tryz.sizeOf36 (Has.t rfl))) ?_
      refine D_step (Ei := [(34, _)]) rfl rfl (Srcs.cons (Src.op 2 rfl rfl) Srcs.nil) (S_plain rfl (op_idx Tryz.runUnderlying36 Tryz.sizeOf57 (Has.t rfl) (Has.cN 0) rfl (map_get (getD_some (d := Qi.zero) (by rw [hr1]; decide))))) ?_
      refine D_step (Ei := [(35, _)]) rfl rfl (Srcs.cons (Src.op 3 rfl rfl) Srcs.nil) (S_plain rfl (op_ld Tryz.isAgg57 Tryz.sizeOf57 (Has.t rfl))) ?_
      refine D_step (Ei := [(4, _)]) rfl rfl (Srcs.cons (Src.pre rfl rfl) Srcs.nil) (S_plain rfl (op_ldBA Tryz.isAgg57 Tryz.sizeOf57 (Has.t rfl) (i := 1) rfl rfl rfl)) ?_
      refine D_step (Ei := [(36, _), (37, _)]) rfl rfl (Srcs.cons (Src.op 4 rfl rfl) (Srcs.cons (Src.op 5 rfl rfl) Srcs.nil)) (S_plain rfl (op_call Tryz.call87 (c_rMul (by omega)) ⟨(Has.t rfl), (Has.t rfl), trivial⟩)) ?_
      refine D_step (Ei := []) rfl rfl Srcs.nil (S_plain rfl (op_call Tryz.call86 (c_rWhole (by decide) (by decide)) ⟨(Has.cN 1), trivial⟩)) ?_
      refine D_step (Ei := [(4, _)]) rfl rfl (Srcs.cons (Src.pre rfl rfl) Srcs.nil) (S_plain rfl (op_ldBA Tryz.isAgg57 Tryz.sizeOf57 (Has.t rfl) (i := 1) rfl rfl rfl)) ?_
      refine D_step (Ei := [(8, _)]) rfl rfl (Srcs.cons (Src.pre rfl rfl) Srcs.nil) (S_plain rfl (op_move (Has.t rfl))) ?_
      refine D_step (Ei := [(41, _)]) rfl rfl (Srcs.cons (Src.op 9 rfl rfl) Srcs.nil) (S_plain rfl (op_idx Tryz.runUnderlying37 Tryz.sizeOf36 (Has.t rfl) (Has.cN 0) rfl (map_get (getD_some (d := []) (by omega))))) ?_
      refine D_step (Ei := [(42, _)]) rfl rfl (Srcs.cons (Src.op 10 rfl rfl) Srcs.nil) (S_plain rfl (op_ld Tryz.isAgg36 Tryz.sizeOf36 (Has.t rfl))) ?_
      refine D_step (Ei := [(43, _)]) rfl rfl (Srcs.cons (Src.op 11 rfl rfl) Srcs.nil) (S_plain rfl (op_idx Tryz.runUnderlying36 Tryz.sizeOf57 (Has.t rfl) (Has.cN 0) rfl (map_get (getD_some (d := Qi.zero) (by rw [hr0]; decide))))) ?_
      refine D_step (Ei := [(44, _)]) rfl rfl (Srcs.cons (Src.op 12 rfl rfl) Srcs.nil) (S_plain rfl (op_ld Tryz.isAgg57 Tryz.sizeOf57 (Has.t rfl))) ?_
      refine D_done mixed rfl (by kernel_rfl) (F_val (F_val (F_val (F_val (F_val (F_val (F_val (F_val (F_val (F_val (F_val (F_val (F_val (F_val (F_nil ?_)))))))))))))))
      refine R_op rfl rfl rfl (op_call Tryz.call87 (c_rMul (by omega)) ⟨(Has.t rfl), (Has.t rfl), trivial⟩) ?_
      refine R_op rfl rfl rfl (op_call Tryz.call88 (c_rSub (by omega)) ⟨(Has.t rfl), (Has.t rfl), trivial⟩) ?_
      refine R_op rfl rfl rfl (op_bslice (xs := [.tmp 38, .tmp 47]) Tryz.runUnderlying36 Tryz.sizeOf57 Tryz.zeroValue57 (Elems.cons (Has.t rfl) (Elems.cons (Has.t rfl) Elems.nil)) rfl rfl rfl) ?_
      refine R_op rfl rfl rfl (op_bslice (xs := [.tmp 48]) Tryz.runUnderlying37 Tryz.sizeOf36 Tryz.zeroValue36 (Elems.cons (Has.t rfl) Elems.nil) rfl rfl rfl) ?_
      refine R_op rfl rfl rfl (op_assign (Has.t rfl)) ?_
      refine R_nil ?_
      refine T_seq ?_
      refine T_region ?_
      refine R_op rfl rfl rfl (op_move (Has.t rfl)) ?_
      refine R_op rfl rfl rfl (op_fldB fa_41_1 (Has.t rfl) rfl) ?_
      refine R_op rfl rfl rfl (op_ldB Tryz.isAgg37 Tryz.sizeOf37 (Has.t rfl) (i := 0) rfl rfl) ?_
      refine R_op rfl rfl rfl (op_call Tryz.call89 (c_rcar (p := facW s g) (c := c) (L := 2 * L + 4) hWf (hc.le (by omega)) (by omega) (by omega) hW (by rw [hc1]; exact hch) (by show 1 ≤ 8; decide) (by omega)) ⟨(Has.t rfl), (Has.t rfl), trivial⟩) ?_
      refine R_op rfl rfl rfl (op_idx Tryz.runUnderlying37 Tryz.sizeOf36 (Has.t rfl) (Has.cN 0) rfl (map_get (getD_some (d := []) (by rw [hXs.1]; decide)))) ?_
      refine R_op rfl rfl rfl (op_ld Tryz.isAgg36 Tryz.sizeOf36 (Has.t rfl)) ?_
      refine R_op rfl rfl rfl (op_idx Tryz.runUnderlying36 Tryz.sizeOf57 (Has.t rfl) (Has.cN 0) rfl (map_get (getD_some (d := Qi.zero) (by rw [hX0]; decide)))) ?_
      refine R_op rfl rfl rfl (op_ld Tryz.isAgg57 Tryz.sizeOf57 (Has.t rfl)) ?_
      refine R_new rfl rfl rfl (new_alloc (Ts := [Is (.bool false), Is (.slice none 0 0), Is (.bool false), Is (.slice none 0 0), Is (.slice none 0 0)]) Tryz.zeroValue57 rfl (fun V => Cells.cons' ⟨rfl, trivial⟩ (Cells.cons' ⟨rfl, trivial⟩ (Cells.cons' ⟨rfl, trivial⟩ (Cells.cons' ⟨rfl, trivial⟩ (Cells.cons' ⟨rfl, trivial⟩ (Cells.nil))))))) (fun B10 => ?_)
      refine R_stA Tryz.sizeOf57 (Has.t rfl) (Has.t rfl) rfl (i := 4) rfl (Nat.le_of_ble_eq_true rfl) rfl rfl ?_
      refine R_nil ?_
      refine T_seq ?_
      refine D_start (m := 20) ?_
      refine D_step (Ei := [(8, _)]) rfl rfl (Srcs.cons (Src.pre rfl rfl) Srcs.nil) (S_plain rfl (op_move (Has.t rfl))) ?_
      refine D_step (Ei := [(58, _)]) rfl rfl (Srcs.cons (Src.op 0 rfl rfl) Srcs.nil) (S_plain rfl (op_idx Tryz.runUnderlying37 Tryz.sizeOf36 (Has.t rfl) (Has.cN 1) rfl (map_get (getD_some (d := []) (by omega))))) ?_
      refine D_step (Ei := [(59, _)]) rfl rfl (Srcs.cons (Src.op 1 rfl rfl) Srcs.nil) (S_plain rfl (op_ld Tryz.isAgg36 Tryz.sizeOf36 (Has.t rfl))) ?_
      refine D_step (Ei := [(60, _)]) rfl rfl (Srcs.cons (Src.op 2 rfl rfl) Srcs.nil) (S_plain rfl (op_idx Tryz.runUnderlying36 Tryz.sizeOf57 (Has.t rfl) (Has.cN 0) rfl (map_get (getD_some (d := Qi.zero) (by rw [hr1]; decide))))) ?_
      refine D_step (Ei := [(61, _)]) rfl rfl (Srcs.cons (Src.op 3 rfl rfl) Srcs.nil) (S_plain rfl (op_ld Tryz.isAgg57 Tryz.sizeOf57 (Has.t rfl))) ?_
      refine D_step (Ei := [(62, _)]) rfl rfl (Srcs.cons (Src.op 4 rfl rfl) Srcs.nil) (S_plain rfl (op_call Tryz.call90 (c_rNorm (by omega)) ⟨(Has.t rfl), trivial⟩)) ?_
      refine D_step (Ei := [(5, _)]) rfl rfl (Srcs.cons (Src.pre rfl rfl) Srcs.nil) (S_plain rfl (op_ldBA Tryz.isAgg57 Tryz.sizeOf57 (Has.t rfl) (i := 2) rfl rfl rfl)) ?_
      refine D_step (Ei := [(3, _)]) rfl rfl (Srcs.cons (Src.pre rfl rfl) Srcs.nil) (S_plain rfl (op_fldB fa_41_0 (Has.t rfl) rfl)) ?_
      refine D_step (Ei := [(65, _)]) rfl rfl (Srcs.cons (Src.op 7 rfl rfl) Srcs.nil) (S_plain rfl (op_fldB fa_39_0 (Has.t rfl) rfl)) ?_
      refine D_step (Ei := [(66, _)]) rfl rfl (Srcs.cons (Src.op 8 rfl rfl) Srcs.nil) (S_plain rfl (op_ldB Tryz.isAgg36 Tryz.sizeOf36 (Has.t rfl) (i := 0) rfl rfl)) ?_
      refine D_step (Ei := [(67, _)]) rfl rfl (Srcs.cons (Src.op 9 rfl rfl) Srcs.nil) (S_plain rfl (op_idx Tryz.runUnderlying36 Tryz.sizeOf57 (Has.t rfl) (Has.cN 0) rfl (map_get (getD_some (d := Qi.zero) (by omega))))) ?_
      refine D_step (Ei := [(68, _)]) rfl rfl (Srcs.cons (Src.op 10 rfl rfl) Srcs.nil) (S_plain rfl (op_ld Tryz.isAgg57 Tryz.sizeOf57 (Has.t rfl))) ?_
      refine D_step (Ei := [(64, _), (69, _)]) rfl rfl (Srcs.cons (Src.op 6 rfl rfl) (Srcs.cons (Src.op 11 rfl rfl) Srcs.nil)) (S_plain rfl (op_call Tryz.call87 (c_rMul (by omega)) ⟨(Has.t rfl), (Has.t rfl), trivial⟩)) ?_
      refine D_step (Ei := []) rfl rfl Srcs.nil (S_plain rfl (op_call Tryz.call86 (c_rWhole (by decide) (by decide)) ⟨(Has.cN 1), trivial⟩)) ?_
      refine D_step (Ei := [(4, _)]) rfl rfl (Srcs.cons (Src.pre rfl rfl) Srcs.nil) (S_plain rfl (op_ldBA Tryz.isAgg57 Tryz.sizeOf57 (Has.t rfl) (i := 1) rfl rfl rfl)) ?_
      refine D_step (Ei := [(72, _)]) rfl rfl (Srcs.cons (Src.op 14 rfl rfl) Srcs.nil) (S_plain rfl (op_call Tryz.call90 (c_rNorm (by omega)) ⟨(Has.t rfl), trivial⟩)) ?_
      refine D_step (Ei := [(71, _), (73, _)]) rfl rfl (Srcs.cons (Src.op 13 rfl rfl) (Srcs.cons (Src.op 15 rfl rfl) Srcs.nil)) (S_plain rfl (op_call Tryz.call88 (c_rSub (by omega)) ⟨(Has.t rfl), (Has.t rfl), trivial⟩)) ?_
      refine D_step (Ei := [(70, _), (74, _)]) rfl rfl (Srcs.cons (Src.op 12 rfl rfl) (Srcs.cons (Src.op 16 rfl rfl) Srcs.nil)) (S_plain rfl (op_call Tryz.call87 (c_rMul (by omega)) ⟨(Has.t rfl), (Has.t rfl), trivial⟩)) ?_
      refine D_step (Ei := [(63, _), (75, _)]) rfl rfl (Srcs.cons (Src.op 5 rfl rfl) (Srcs.cons (Src.op 17 rfl rfl) Srcs.nil)) (S_plain rfl (op_call Tryz.call87 (c_rMul (by omega)) ⟨(Has.t rfl), (Has.t rfl), trivial⟩)) ?_
      refine D_new (Ei := []) rfl rfl rfl Srcs.nil (new_alloc (Ts := [Is (.bool false), Is (.slice none 0 0), Is (.bool false), Is (.slice none 0 0), Is (.slice none 0 0)]) Tryz.zeroValue57 rfl (fun V => Cells.cons' ⟨rfl, trivial⟩ (Cells.cons' ⟨rfl, trivial⟩ (Cells.cons' ⟨rfl, trivial⟩ (Cells.cons' ⟨rfl, trivial⟩ (Cells.cons' ⟨rfl, trivial⟩ (Cells.nil))))))) ?_
      refine D_done mixed rfl (by kernel_rfl) (F_val (F_val (F_val (F_val (F_val (F_val (F_val (F_val (F_val (F_val (F_val (F_val (F_val (F_val (F_val (F_val (F_val (F_val (F_val (F_new (fun B11 => F_nil ?_)))))))))))))))))))))
      refine R_stA Tryz.sizeOf57 (Has.t rfl) (Has.t rfl) rfl (i := 5) rfl (Nat.le_of_ble_eq_true rfl) rfl rfl ?_
      refine R_nil ?_
      refine T_seq ?_
      refine T_region ?_
      refine R_op rfl rfl rfl (op_ldBA Tryz.isAgg57 Tryz.sizeOf57 (Has.t rfl) (i := 4) rfl rfl rfl) ?_
      refine R_op rfl rfl rfl (op_ldBA Tryz.isAgg57 Tryz.sizeOf57 (Has.t rfl) (i := 5) rfl rfl rfl) ?_
      refine R_op rfl rfl rfl (op_call Tryz.call91 (c_rQDiv (x := facX s c g) (y := facD z s g t0) (by omega)) ⟨(Has.t rfl), (Has.t rfl), trivial⟩) ?_
      refine R_op rfl rfl rfl (op_move (Has.t rfl)) ?_
      refine R_op rfl rfl rfl (op_extract (Has.t rfl) rfl) ?_
      refine R_op rfl rfl rfl (op_extract (Has.t rfl) rfl) ?_
      refine R_new rfl rfl rfl (new_alloc (Ts := [Is (.bool false), Is (.slice none 0 0), Is (.bool false), Is (.slice none 0 0), Is (.slice none 0 0)]) Tryz.zeroValue57 rfl (fun V => Cells.cons' ⟨rfl, trivial⟩ (Cells.cons' ⟨rfl, trivial⟩ (Cells.cons' ⟨rfl, trivial⟩ (Cells.cons' ⟨rfl, trivial⟩ (Cells.cons' ⟨rfl, trivial⟩ (Cells.nil))))))) (fun B12 => ?_)
      refine R_stA Tryz.sizeOf57 (Has.t rfl) (Has.t rfl) rfl (i := 6) rfl (Nat.le_of_ble_eq_true rfl) rfl rfl ?_
      refine R_op rfl rfl rfl (op_assign (Has.t rfl)) ?_
      refine R_nil ?_
      refine T_seq ?_
      refine T_seq ?_
      refine T_region ?_
      refine R_op rfl rfl rfl (op_move (Has.t rfl)) ?_
      refine R_op rfl rfl rfl (op_neq (Has.t rfl) Has.c) ?_
      refine R_nil ?_
      refine T_cond (Has.t rfl) (fun hk => ?_) (fun hk => ?_)
      · have hk2 : facD z s g t0 = Qi.zero := by
          by_cases h : facD z s g t0 = Qi.zero
          · exact h
          · rw [if_neg h] at hk; exact absurd hk (by decide)
        have he : facR z s c g t0 = (Qi.zero, 3) := by rw [facR, if_neg hb2, if_neg hd3, if_pos hk2]
        refine T_seq ?_
        refine T_region ?_
        refine R_op rfl rfl rfl (op_call Tryz.call86 (c_rWhole (by decide) (by decide)) ⟨(Has.cN 0), trivial⟩) ?_
        refine R_op rfl rfl rfl (op_move (Has.t rfl)) ?_
        refine R_stA Tryz.sizeOf57 (Has.t rfl) (Has.t rfl) rfl (i := 3) rfl (Nat.le_of_ble_eq_true rfl) rfl rfl ?_
        refine R_op rfl rfl rfl (op_assign (Has.t rfl)) ?_
        refine R_nil ?_
        refine T_ret2 rfl (rv_to (rv_cell Tryz.isAgg57 Tryz.sizeOf57 rfl (i := 3) rfl rfl) ?_) (rv_to (rv_tmp rfl) ?_)
        · exact (fun v V k => by rw [he]; exact k)
        · exact (int_of (by rw [he, if_pos hk2]))
      · have hk2 : ¬ facD z s g t0 = Qi.zero := fun h => by rw [if_pos h] at hk; exact absurd hk (by decide)
        have he : facR z s c g t0 = (oneQ + facX s c g / facD z s g t0, 0) := by rw [facR, if_neg hb2, if_neg hd3, if_neg hk2]
        refine T_skip ?_
        refine T_seq ?_
        refine D_start (m := 2) ?_
        refine D_step (Ei := []) rfl rfl Srcs.nil (S_plain rfl (op_call Tryz.call86 (c_rWhole (by decide) (by decide)) ⟨(Has.cN 1), trivial⟩)) ?_
        refine D_step (Ei := [(12, _)]) rfl rfl (Srcs.cons (Src.pre rfl rfl) Srcs.nil) (S_plain rfl (op_ldBA Tryz.isAgg57 Tryz.sizeOf57 (Has.t rfl) (i := 6) rfl rfl rfl)) ?_
        refine D_done mixed rfl (by kernel_rfl) (F_val (F_val (F_nil ?_)))
        refine R_op rfl rfl rfl (op_call Tryz.call92 (c_rAdd (by omega)) ⟨(Has.t rfl), (Has.t rfl), trivial⟩) ?_
        refine R_stA Tryz.sizeOf57 (Has.t rfl) (Has.t rfl) rfl (i := 3) rfl (Nat.le_of_ble_eq_true rfl) rfl rfl ?_
        refine R_op rfl rfl rfl (op_assign (Has.cN 0)) ?_
        refine R_nil ?_
        refine T_ret2 rfl (rv_to (rv_cell Tryz.isAgg57 Tryz.sizeOf57 rfl (i := 3) rfl rfl) ?_) (rv_to (rv_tmp rfl) ?_)
        · exact (fun v V k => by rw [he]; exact k)
        · exact (fun v V k => by rw [he]; exact k)
end Go.Proofs.YtppibhcfaahgpaaGreat
namespace Go.Proofs.YtppibhcfaahgpaaGreat
open Go Go.RowKit
theorem meth_49_Of (v : Value) (w : World) : (method (Tryz.prog.types.size + Made.depth) 49 v "Of").run Tryz.prog w = .ok (264, v) w := by kernel_rfl
theorem mkif_49 (v : Value) (w : World) : (Instr.makeInterface 49 v).run Tryz.prog w = .ok (.iface 49 v) w := by
  simp [Instr.makeInterface, Sem.run_bind, Result.andThen, Tryz.runUnderlying49]
end Go.Proofs.YtppibhcfaahgpaaGreat
namespace Go.Proofs.YtppibhcfaahgpaaGreat
open Go Go.RowKit
set_option maxRecDepth 20000 in
theorem c_warm {x : Qi} {L : Nat} [hx : FitC x L] (h : L ≤ 8796093022208) : Fun Tryz.prog 95 [NumT x] (BoolT (warmB x)) := by
  haveI hz : FitC Qi.zero 1 := FitC.zero (Nat.le_refl 1)
  rw [← warm_eq]
  refine Fun.intro Tryz.func95 rfl Tryz.ntmps95 rfl (fun cx => ?_)
  refine T_seq ?_
  refine T_region ?_
  refine R_new rfl rfl rfl (new_box (Has.t rfl)) (fun B1 => ?_)
  refine R_op rfl rfl rfl (op_assign Has.c) ?_
  refine R_nil ?_
  refine T_seq ?_
  refine D_start (m := 5) ?_
  refine D_step (Ei := [(1, _)]) rfl rfl (Srcs.cons (Src.pre rfl rfl) Srcs.nil) (S_plain rfl (op_ldBA Tryz.isAgg49 Tryz.sizeOf49 (Has.t rfl) (i := 0) rfl rfl rfl)) ?_
  refine D_step (Ei := [(3, _)]) rfl rfl (Srcs.cons (Src.op 0 rfl rfl) Srcs.nil) (S_plain rfl (op_call Tryz.call32 c_Real ⟨(Has.t rfl), trivial⟩)) ?_
  refine D_step (Ei := [(4, _)]) rfl rfl (Srcs.cons (Src.op 1 rfl rfl) Srcs.nil) (S_plain rfl (op_move (Has.t rfl))) ?_
  refine D_step (Ei := [(1, _), (5, _)]) rfl rfl (Srcs.cons (Src.pre rfl rfl) (Srcs.cons (Src.op 2 rfl rfl) Srcs.nil)) (S_when rfl rfl (Has.t rfl) (fun h => op_ldBA Tryz.isAgg49 Tryz.sizeOf49 (Has.t rfl) (i := 0) rfl rfl rfl)) ?_
  refine D_step (Ei := [(5, _)]) rfl rfl (Srcs.cons (Src.op 2 rfl rfl) Srcs.nil) (S_when rfl rfl (Has.t rfl) (fun h => op_call Tryz.call28 (c_Int (n := 0) (by decide) (by decide)) ⟨(Has.cN 0), trivial⟩)) ?_
  refine D_done mixed rfl (by kernel_rfl) (F_val (F_val (F_val (F_val (F_val (F_nil ?_))))))
  refine R_step rfl rfl (S_when rfl rfl (Has.t rfl) (fun h => op_call Tryz.call33 (c_Cmp (x := x) (y := Qi.zero) (M := 1) (by omega)) ⟨(Has.w rfl h), (Has.w rfl h), trivial⟩)) ?_
  refine R_step rfl rfl (S_when rfl rfl (Has.t rfl) (fun h => op_geq (Has.w rfl h) Has.c)) ?_
  refine R_op rfl rfl rfl (op_and (Has.t rfl) (fun h => (Has.w rfl h))) ?_
  refine R_op rfl rfl rfl (op_assign (Has.t rfl)) ?_
  refine R_nil ?_
  exact T_ret1 rfl (rv_tmp rfl)
set_option maxRecDepth 20000 in
theorem c_OfZ {y : Qi} : Fun Tryz.prog 264 [AggT [Is (.bool false), Is (.slice none 0 0), Is (.bool false), Is (.slice none 0 0), Is (.slice none 0 0)], NumT y] (NumT y) := by
  refine Fun.intro Tryz.func264 rfl Tryz.ntmps264 rfl (fun cx => ?_)
  refine T_seq ?_
  refine T_region ?_
  refine R_new rfl rfl rfl (new_box (Has.t rfl)) (fun B2 => ?_)
  refine R_new rfl rfl rfl (new_box (Has.t rfl)) (fun B3 => ?_)
  refine R_new rfl rfl rfl (new_alloc (Ts := [Is (.bool false), Is (.slice none 0 0), Is (.bool false), Is (.slice none 0 0), Is (.slice none 0 0)]) Tryz.zeroValue49 rfl (fun V => Cells.cons' ⟨rfl, trivial⟩ (Cells.cons' ⟨rfl, trivial⟩ (Cells.cons' ⟨rfl, trivial⟩ (Cells.cons' ⟨rfl, trivial⟩ (Cells.cons' ⟨rfl, trivial⟩ (Cells.nil))))))) (fun B4 => ?_)
  refine R_nil ?_
  refine T_seq ?_
  refine T_region ?_
  refine R_op rfl rfl rfl (op_ldBA Tryz.isAgg49 Tryz.sizeOf49 (Has.t rfl) (i := 1) rfl rfl rfl) ?_
  refine R_stA Tryz.sizeOf49 (Has.t rfl) (Has.t rfl) rfl (i := 2) rfl (Nat.le_of_ble_eq_true rfl) rfl rfl ?_
  refine R_nil ?_
  exact T_ret1 rfl (rv_cell Tryz.isAgg49 Tryz.sizeOf49 rfl (i := 2) rfl rfl)
set_option maxRecDepth 20000 in
theorem c_of {x : Qi} : Fun Tryz.prog 81 [NumT x] (NumT x) := by
  refine Fun.intro Tryz.func81 rfl Tryz.ntmps81 rfl (fun cx => ?_)
  refine T_seq ?_
  refine T_region ?_
  refine R_new rfl rfl rfl (new_box (Has.t rfl)) (fun B1 => ?_)
  refine R_new rfl rfl rfl (new_alloc (Ts := [Is (.bool false), Is (.slice none 0 0), Is (.bool false), Is (.slice none 0 0), Is (.slice none 0 0)]) Tryz.zeroValue49 rfl (fun V => Cells.cons' ⟨rfl, trivial⟩ (Cells.cons' ⟨rfl, trivial⟩ (Cells.cons' ⟨rfl, trivial⟩ (Cells.cons' ⟨rfl, trivial⟩ (Cells.cons' ⟨rfl, trivial⟩ (Cells.nil))))))) (fun B2 => ?_)
  refine R_nil ?_
  refine T_seq ?_
  refine T_region ?_
  refine R_new rfl rfl rfl (new_alloc (Ts := [Is (.bool false), Is (.slice none 0 0), Is (.bool false), Is (.slice none 0 0), Is (.slice none 0 0)]) Tryz.zeroValue49 rfl (fun V => Cells.cons' ⟨rfl, trivial⟩ (Cells.cons' ⟨rfl, trivial⟩ (Cells.cons' ⟨rfl, trivial⟩ (Cells.cons' ⟨rfl, trivial⟩ (Cells.cons' ⟨rfl, trivial⟩ (Cells.nil))))))) (fun B3 => ?_)
  refine R_nil ?_
  refine T_seq ?_
  refine T_region ?_
  refine R_op rfl rfl rfl (op_ldBA Tryz.isAgg49 Tryz.sizeOf49 (Has.t rfl) (i := 2) rfl rfl rfl) ?_
  refine R_op rfl rfl rfl (op_iface mkif_49 (Has.t rfl)) ?_
  refine R_op rfl rfl rfl (op_ldBA Tryz.isAgg49 Tryz.sizeOf49 (Has.t rfl) (i := 0) rfl rfl rfl) ?_
  refine R_op rfl rfl rfl (op_invoke meth_49_Of Tryz.call264 c_OfZ (Has.t rfl) ⟨(Has.t rfl), trivial⟩) ?_
  refine R_stA Tryz.sizeOf49 (Has.t rfl) (Has.t rfl) rfl (i := 1) rfl (Nat.le_of_ble_eq_true rfl) rfl rfl ?_
  refine R_nil ?_
  exact T_ret1 rfl (rv_cell Tryz.isAgg49 Tryz.sizeOf49 rfl (i := 1) rfl rfl)
set_option maxRecDepth 20000 in
theorem c_columns1 {r : List Qi} {k : Nat} : Fun Tryz.prog 228 [NumsT r, PT (NT .i64 k)] (BoolT (!decide (r.length = k))) := by
  refine Fun.intro Tryz.func228 rfl Tryz.ntmps228 rfl (fun cx => ?_)
  refine T_seq ?_
  refine T_region ?_
  refine R_op rfl rfl rfl (op_assign Has.c) ?_
  refine R_nil ?_
  refine T_seq ?_
  refine T_region ?_
  refine R_op rfl rfl rfl (op_move (Has.t rfl)) ?_
  refine R_op rfl rfl rfl (op_len Tryz.runUnderlying30 (Has.t rfl) len_map) ?_
  refine R_op rfl rfl rfl (op_ld Tryz.isAgg3 Tryz.sizeOf3 (Has.t rfl)) ?_
  refine R_op rfl rfl rfl (op_neqN (Has.t rfl) (Has.t rfl)) ?_
  refine R_op rfl rfl rfl (op_assign (Has.t rfl)) ?_
  refine R_nil ?_
  exact T_ret1 rfl (rv_tmp rfl)
set_option maxRecDepth 20000 in
theorem c_columns {a : List (List Qi)} {n k : Nat} (h : Shp a n k) (h1 : 1 ≤ n) (hn : n ≤ 32) (hk : k ≤ 32) : Fun Tryz.prog 200 [NumM a] (TupT [NT .i64 k, BoolT true]) := by
  obtain ⟨rfl, h2⟩ := h
  have hr0 : (a.getD 0 []).length = k := Shp.row ⟨rfl, h2⟩ (by omega)
  refine Fun.intro Tryz.func200 rfl Tryz.ntmps200 rfl (fun cx => ?_)
  refine T_seq ?_
  refine T_region ?_
  refine R_op rfl rfl rfl (op_assign (Has.cN 0)) ?_
  refine R_op rfl rfl rfl (op_assign Has.c) ?_
  refine R_nil ?_
  refine T_seq ?_
  refine T_seq ?_
  refine T_region ?_
  refine R_op rfl rfl rfl (op_move (Has.t rfl)) ?_
  refine R_op rfl rfl rfl (op_len Tryz.runUnderlying31 (Has.t rfl) len_map) ?_
  refine R_op rfl rfl rfl (op_eqlN (Has.t rfl) (Has.cN 0)) ?_
  refine R_nil ?_
  refine T_cond (Has.t rfl) (fun hb => ?_) (fun hb => ?_)
  · simp only [decide_eq_true_eq] at hb
    omega
  · refine T_skip ?_
    refine T_seq ?_
    refine T_region ?_
    refine R_op rfl rfl rfl (op_move (Has.t rfl)) ?_
    refine R_op rfl rfl rfl (op_idx Tryz.runUnderlying31 Tryz.sizeOf30 (Has.t rfl) (Has.cN 0) rfl (map_get (getD_some (d := []) (by omega)))) ?_
    refine R_op rfl rfl rfl (op_ld Tryz.isAgg30 Tryz.sizeOf30 (Has.t rfl)) ?_
    refine R_op rfl rfl rfl (op_len Tryz.runUnderlying30 (Has.t rfl) len_map) ?_
    refine R_new rfl rfl rfl (new_alloc (Ts := [Is (.int .i64 0)]) Tryz.zeroValue3 rfl (fun V => Cells.cons' ⟨rfl, trivial⟩ (Cells.nil))) (fun B4 => ?_)
    refine R_st Tryz.sizeOf3 (Has.t rfl) (Has.t rfl) (i := 0) rfl (Nat.le_of_ble_eq_true rfl) rfl ?_
    refine R_nil ?_
    refine T_seq ?_
    refine T_freeze (i := 0) (tt := 4) rfl rfl frz_ptr1 ?_
    refine D_start (m := 15) ?_
    refine D_step (Ei := [(4, _)]) rfl rfl (Srcs.cons (Src.pre rfl rfl) Srcs.nil) (S_plain rfl (op_ld Tryz.isAgg3 Tryz.sizeOf3 (Has.t rfl))) ?_
    refine D_step (Ei := [(0, _)]) rfl rfl (Srcs.cons (Src.pre rfl rfl) Srcs.nil) (S_plain rfl (op_move (Has.t rfl))) ?_
    refine D_step (Ei := [(13, _)]) rfl rfl (Srcs.cons (Src.op 1 rfl rfl) Srcs.nil) (S_plain rfl (op_len Tryz.runUnderlying31 (Has.t rfl) len_map)) ?_
    refine D_step (Ei := [(14, _)]) rfl rfl (Srcs.cons (Src.op 2 rfl rfl) Srcs.nil) (S_plain rfl (op_leqN (Has.t rfl) (Has.cN 32))) ?_
    refine D_step (Ei := [(15, _)]) rfl rfl (Srcs.cons (Src.op 3 rfl rfl) Srcs.nil) (S_plain rfl (op_move (Has.t rfl))) ?_
    refine D_step (Ei := [(4, _), (16, _)]) rfl rfl (Srcs.cons (Src.pre rfl rfl) (Srcs.cons (Src.op 4 rfl rfl) Srcs.nil)) (S_when rfl rfl (Has.t rfl) (fun h => op_ld Tryz.isAgg3 Tryz.sizeOf3 (Has.t rfl))) ?_
    refine D_step (Ei := [(17, _), (16, _)]) rfl rfl (Srcs.cons (Src.op 5 rfl rfl) (Srcs.cons (Src.op 4 rfl rfl) Srcs.nil)) (S_when rfl rfl (Has.t rfl) (fun h => op_leqN (Has.w rfl h) (Has.cN 32))) ?_
    refine D_step (Ei := [(16, _), (18, _)]) rfl rfl (Srcs.cons (Src.op 4 rfl rfl) (Srcs.cons (Src.op 6 rfl rfl) Srcs.nil)) (S_plain rfl (op_and (Has.t rfl) (fun h => (Has.w rfl h)))) ?_
    refine D_step (Ei := [(19, _)]) rfl rfl (Srcs.cons (Src.op 7 rfl rfl) Srcs.nil) (S_plain rfl (op_move (Has.t rfl))) ?_
    refine D_step (Ei := [(0, _), (20, _)]) rfl rfl (Srcs.cons (Src.pre rfl rfl) (Srcs.cons (Src.op 8 rfl rfl) Srcs.nil)) (S_when rfl rfl (Has.t rfl) (fun h => op_move (Has.t rfl))) ?_
    refine D_step (Ei := [(4, _), (20, _)]) rfl rfl (Srcs.cons (Src.pre rfl rfl) (Srcs.cons (Src.op 8 rfl rfl) Srcs.nil)) (S_when rfl rfl (Has.t rfl) (fun h => op_clos (γ := List Qi) (Ts := fun r => [NumsT r]) (U := fun r => BoolT (!decide (r.length = (a.getD 0 []).length))) Tryz.call228 (fun r => c_columns1) ⟨(Has.t rfl), trivial⟩)) ?_
    refine D_step (Ei := [(21, _), (22, _), (20, _)]) rfl rfl (Srcs.cons (Src.op 9 rfl rfl) (Srcs.cons (Src.op 10 rfl rfl) (Srcs.cons (Src.op 8 rfl rfl) Srcs.nil))) (S_when rfl rfl (Has.t rfl) (fun h => op_call Tryz.call151 (c_ContainsRow (l := a) (T := NumsT) (p := fun r => !decide (r.length = (a.getD 0 []).length)) (by omega)) ⟨(Has.w rfl h), (Has.w rfl h), trivial⟩)) ?_
    refine D_step (Ei := [(23, _), (20, _)]) rfl rfl (Srcs.cons (Src.op 11 rfl rfl) (Srcs.cons (Src.op 8 rfl rfl) Srcs.nil)) (S_when rfl rfl (Has.t rfl) (fun h => op_not (Has.w rfl h))) ?_
    refine D_step (Ei := [(20, _), (24, _)]) rfl rfl (Srcs.cons (Src.op 8 rfl rfl) (Srcs.cons (Src.op 12 rfl rfl) Srcs.nil)) (S_plain rfl (op_and (Has.t rfl) (fun h => (Has.w rfl h)))) ?_
    refine D_step (Ei := [(12, _)]) rfl rfl (Srcs.cons (Src.op 0 rfl rfl) Srcs.nil) (S_plain rfl (op_assign (Has.t rfl))) ?_
    refine D_done mixed rfl (by kernel_rfl) (F_val (F_val (F_val (F_val (F_val (F_val (F_val (F_val (F_val (F_val (F_val (F_val (F_val (F_val (F_val (F_nil ?_))))))))))))))))
    refine R_op rfl rfl rfl (op_assign (Has.t rfl)) ?_
    refine R_nil ?_
    refine T_ret2 rfl (rv_to (rv_tmp rfl) ?_) (rv_to (rv_tmp rfl) ?_)
    · exact (nt_of hr0)
    · exact (bool_of (by rw [hr0, cols_ok ⟨rfl, h2⟩]; simp; omega))
end Go.Proofs.YtppibhcfaahgpaaGreat
namespace Go.Proofs.YtppibhcfaahgpaaGreat
open Go Go.RowKit
theorem meth_49_Add (v : Value) (w : World) : (method (Tryz.prog.types.size + Made.depth) 49 v "Add").run Tryz.prog w = .ok (59, v) w := by kernel_rfl
theorem meth_49_Conj (v : Value) (w : World) : (method (Tryz.prog.types.size + Made.depth) 49 v "Conj").run Tryz.prog w = .ok (263, v) w := by kernel_rfl
theorem meth_49_Mul (v : Value) (w : World) : (method (Tryz.prog.types.size + Made.depth) 49 v "Mul").run Tryz.prog w = .ok (56, v) w := by kernel_rfl
end Go.Proofs.YtppibhcfaahgpaaGreat
namespace Go.Proofs.YtppibhcfaahgpaaGreat
open Go Go.RowKit
set_option maxRecDepth 20000 in
theorem c_ProdO {a b : List (List Qi)} {n k m L M : Nat} (ha : Shp a n k) (hb : Shp b k m) (hfa : FitM a L) (hfb : FitM b M) (hL1 : 1 ≤ L) (hM1 : 1 ≤ M) (hL : L ≤ 100000000) (hM : M ≤ 100000000) (hn1 : 1 ≤ n) (hk1 : 1 ≤ k) (hn : n ≤ 8) (hk : k ≤ 8) (hm : m ≤ 8) : FunO Tryz.prog 153 [NumM a, NumM b] [] (Nat) (fun B => TupT [Is (.slice (some ⟨B, 0, none⟩) n n), IntT .i64 0]) (fun B => [matO B 30 49 5 (FRow NumT (mulM a b n k m))]) (fun _ => True) := by
  have hal := ha.1
  have hbl := hb.1
  refine FunO.intro Tryz.func153 rfl Tryz.ntmps153 rfl (fun cx Z => ?_)
  refine T_seq ?_
  refine T_region ?_
  refine R_op rfl rfl rfl (op_assign Has.c) ?_
  refine R_op rfl rfl rfl (op_assign (Has.cN 0)) ?_
  refine R_nil ?_
  refine T_seq ?_
  refine T_region ?_
  refine R_op rfl rfl rfl (op_move (Has.t rfl)) ?_
  refine R_op rfl rfl rfl (op_call Tryz.call200 (c_columns ha hn1 (by omega) (by omega)) ⟨(Has.t rfl), trivial⟩) ?_
  refine R_op rfl rfl rfl (op_move (Has.t rfl)) ?_
  refine R_op rfl rfl rfl (op_extract (Has.t rfl) rfl) ?_
  refine R_op rfl rfl rfl (op_extract (Has.t rfl) rfl) ?_
  refine R_op rfl rfl rfl (op_assign (Has.t rfl)) ?_
  refine R_op rfl rfl rfl (op_assign (Has.t rfl)) ?_
  refine R_nil ?_
  refine T_seq ?_
  refine T_region ?_
  refine R_op rfl rfl rfl (op_move (Has.t rfl)) ?_
  refine R_op rfl rfl rfl (op_call Tryz.call200 (c_columns hb hk1 (by omega) (by omega)) ⟨(Has.t rfl), trivial⟩) ?_
  refine R_op rfl rfl rfl (op_move (Has.t rfl)) ?_
  refine R_op rfl rfl rfl (op_extract (Has.t rfl) rfl) ?_
  refine R_op rfl rfl rfl (op_extract (Has.t rfl) rfl) ?_
  refine R_op rfl rfl rfl (op_assign (Has.t rfl)) ?_
  refine R_op rfl rfl rfl (op_assign (Has.t rfl)) ?_
  refine R_nil ?_
  refine T_seq ?_
  refine T_seq ?_
  refine T_region ?_
  refine R_op rfl rfl rfl (op_move (Has.t rfl)) ?_
  refine R_op rfl rfl rfl (op_not (Has.t rfl)) ?_
  refine R_op rfl rfl rfl (op_move (Has.t rfl)) ?_
  refine R_step rfl rfl (S_when rfl rfl (Has.t rfl) (fun h => op_move (Has.t rfl))) ?_
  refine R_step rfl rfl (S_when rfl rfl (Has.t rfl) (fun h => op_not (Has.w rfl h))) ?_
  refine R_op rfl rfl rfl (op_or (Has.t rfl) (fun h => (Has.w rfl h))) ?_
  refine R_op rfl rfl rfl (op_move (Has.t rfl)) ?_
  refine R_step rfl rfl (S_when rfl rfl (Has.t rfl) (fun h => op_move (Has.t rfl))) ?_
  refine R_step rfl rfl (S_when rfl rfl (Has.t rfl) (fun h => op_move (Has.t rfl))) ?_
  refine R_step rfl rfl (S_when rfl rfl (Has.t rfl) (fun h => op_len Tryz.runUnderlying31 (Has.w rfl h) len_map)) ?_
  refine R_step rfl rfl (S_when rfl rfl (Has.t rfl) (fun h => op_neqN (Has.w rfl h) (Has.w rfl h))) ?_
  refine R_op rfl rfl rfl (op_or (Has.t rfl) (fun h => (Has.w rfl h))) ?_
  refine R_nil ?_
  refine T_cond (Has.t rfl) (fun h0 => ?_) (fun h0 => ?_)
  · exact absurd h0 (by simp [hbl])
  · refine T_skip ?_
    refine T_seq ?_
    refine T_region ?_
    refine R_op rfl rfl rfl (op_move (Has.t rfl)) ?_
    refine R_op rfl rfl rfl (op_len Tryz.runUnderlying31 (Has.t rfl) len_map) ?_
    refine R_new rfl rfl rfl (new_make (T := Is (.slice none 0 0)) (i := Tryz.t30) Tryz.underlying31 info_30 rfl rfl (Has.t rfl) rfl (fun _ => rfl) trivial (by show 24 * _ ≤ _; omega) (by omega)) (fun B39 => ?_)
    refine R_op rfl rfl rfl (op_assign (Has.t rfl)) ?_
    refine R_nil ?_
    refine T_seq ?_
    refine T_seq ?_
    refine T_region ?_
    refine R_op rfl rfl rfl (op_move (Has.t rfl)) ?_
    refine R_op rfl rfl rfl (op_lenI Tryz.runUnderlying31 (Has.t rfl)) ?_
    refine R_op rfl rfl rfl (op_move (Has.cN 0)) ?_
    refine R_nil ?_
    refine T_block ?_
    refine T_conv 1 rfl (mat_nil (e := 49) (s := 5)) ?_
    refine T_loop (fun (i : Nat) => i ≤ n) (fun (i : Nat) => n - i) (fun (i : Nat) => [(0, NumM a), (1, NumM b), (6, NT .i64 k), (8, NT .i64 m), (10, Is (.slice (some ⟨B39, 0, none⟩) n n)), (41, NT .i64 n), (42, NT .i64 i)]) (fun (i : Nat) => [Z, matO B39 30 49 5 (FRow NumT (mixT (fun i => tab m fun c => dotN a b k i c) [] n i))]) 0 (Nat.zero_le _)
      (Sub.cons rfl (Sub.cons rfl (Sub.cons rfl (Sub.cons rfl (Sub.to rfl (fun v V h => by rw [← hal]; exact h) (Sub.to rfl (nt_of hal) (Sub.cons rfl Sub.nil))))))) (HSub.cons (fun _ _ _ h => h) (HSub.cons (matO_of (by rw [← mix_zero, tab_const, hal]; exact rep_FRow NumT n)) HSub.nil)) (fun i hi => ?_)
    refine T_seq ?_
    refine T_region ?_
    refine R_op rfl rfl rfl (op_lssN (Has.t rfl) (Has.t rfl)) ?_
    refine R_nil ?_
    refine T_seq ?_
    refine T_cond (Has.t rfl) (fun hd => ?_) (fun hd => ?_)
    · simp only [decide_eq_true_eq] at hd
      have har := ha.row hd
      have hb0 := hb.row (i := 0) (by omega)
      refine T_focus 1 (i) rfl (frow_mix hd) (fun v => ?_)
      refine T_skip ?_
      refine T_seq ?_
      refine T_block ?_
      refine T_seq ?_
      refine T_region ?_
      refine R_op rfl rfl rfl (op_move (Has.t rfl)) ?_
      refine R_op rfl rfl rfl (op_assign (Has.t rfl)) ?_
      refine R_nil ?_
      refine T_seq ?_
      refine T_region ?_
      refine R_op rfl rfl rfl (op_move (Has.t rfl)) ?_
      refine R_op rfl rfl rfl (op_move (Has.cN 0)) ?_
      refine R_nil ?_
      refine T_block ?_
      refine T_loop2 (fun (c : Nat) (v : Value) => c ≤ m) (fun (c : Nat) (v : Value) => m - c) (fun (c : Nat) (v : Value) => [(0, NumM a), (1, NumM b), (6, NT .i64 k), (8, NT .i64 m), (10, Is (.slice (some ⟨B39, 0, none⟩) n n)), (11, NT .i64 i), (41, NT .i64 n), (42, NT .i64 i), (45, NT .i64 m), (46, NT .i64 c)]) (fun (c : Nat) (v : Value) => [Z, matH B39 30 49 5 (FRow NumT (mixT (fun i => tab m fun c => dotN a b k i c) [] n i)) i v, rowO 49 5 v ((tab c fun c => dotN a b k i c).map NumT)]) 0 v (Nat.zero_le _)
        (Sub.cons rfl (Sub.cons rfl (Sub.cons rfl (Sub.cons rfl (Sub.cons rfl (Sub.cons rfl (Sub.cons rfl (Sub.cons rfl (Sub.cons rfl (Sub.cons rfl Sub.nil)))))))))) (HSub.refl _) (fun c v hc => ?_)
      refine T_seq ?_
      refine T_region ?_
      refine R_op rfl rfl rfl (op_lssN (Has.t rfl) (Has.t rfl)) ?_
      refine R_nil ?_
      refine T_seq ?_
      refine T_cond (Has.t rfl) (fun he => ?_) (fun he => ?_)
      · simp only [decide_eq_true_eq] at he
        haveI f1 : FitC (gm a i 0) L := hfa.get hL1 i 0
        haveI f2 : FitC (gm b 0 c) M := hfb.get hM1 0 c
        refine T_skip ?_
        refine T_seq ?_
        refine T_block ?_
        refine T_seq ?_
        refine T_region ?_
        refine R_op rfl rfl rfl (op_move (Has.t rfl)) ?_
        refine R_op rfl rfl rfl (op_assign (Has.t rfl)) ?_
        refine R_nil ?_
        refine T_seq ?_
        refine D_start (m := 15) ?_
        refine D_step (Ei := [(0, _)]) rfl rfl (Srcs.cons (Src.pre rfl rfl) Srcs.nil) (S_plain rfl (op_move (Has.t rfl))) ?_
        refine D_step (Ei := [(11, _)]) rfl rfl (Srcs.cons (Src.pre rfl rfl) Srcs.nil) (S_plain rfl (op_move (Has.t rfl))) ?_
        refine D_step (Ei := [(49, _), (50, _)]) rfl rfl (Srcs.cons (Src.op 0 rfl rfl) (Srcs.cons (Src.op 1 rfl rfl) Srcs.nil)) (S_plain rfl (op_idx Tryz.runUnderlying31 Tryz.sizeOf30 (Has.t rfl) (Has.t rfl) rfl (map_get (getD_some (d := []) (by omega))))) ?_
        refine D_step (Ei := [(51, _)]) rfl rfl (Srcs.cons (Src.op 2 rfl rfl) Srcs.nil) (S_plain rfl (op_ld Tryz.isAgg30 Tryz.sizeOf30 (Has.t rfl))) ?_
        refine D_step (Ei := [(52, _)]) rfl rfl (Srcs.cons (Src.op 3 rfl rfl) Srcs.nil) (S_plain rfl (op_idx Tryz.runUnderlying30 Tryz.sizeOf49 (Has.t rfl) (Has.cN 0) rfl (map_get (getD_some (d := Qi.zero) (by rw [har]; omega))))) ?_
        refine D_step (Ei := [(53, _)]) rfl rfl (Srcs.cons (Src.op 4 rfl rfl) Srcs.nil) (S_plain rfl (op_ld Tryz.isAgg49 Tryz.sizeOf49 (Has.t rfl))) ?_
        refine D_step (Ei := [(54, _)]) rfl rfl (Srcs.cons (Src.op 5 rfl rfl) Srcs.nil) (S_plain rfl (op_iface mkif_49 (Has.t rfl))) ?_
        refine D_step (Ei := [(1, _)]) rfl rfl (Srcs.cons (Src.pre rfl rfl) Srcs.nil) (S_plain rfl (op_move (Has.t rfl))) ?_
        refine D_step (Ei := [(56, _)]) rfl rfl (Srcs.cons (Src.op 7 rfl rfl) Srcs.nil) (S_plain rfl (op_idx Tryz.runUnderlying31 Tryz.sizeOf30 (Has.t rfl) (Has.cN 0) rfl (map_get (getD_some (d := []) (by omega))))) ?_
        refine D_step (Ei := [(57, _)]) rfl rfl (Srcs.cons (Src.op 8 rfl rfl) Srcs.nil) (S_plain rfl (op_ld Tryz.isAgg30 Tryz.sizeOf30 (Has.t rfl))) ?_
        refine D_step (Ei := [(12, _)]) rfl rfl (Srcs.cons (Src.pre rfl rfl) Srcs.nil) (S_plain rfl (op_move (Has.t rfl))) ?_
        refine D_step (Ei := [(58, _), (59, _)]) rfl rfl (Srcs.cons (Src.op 9 rfl rfl) (Srcs.cons (Src.op 10 rfl rfl) Srcs.nil)) (S_plain rfl (op_idx Tryz.runUnderlying30 Tryz.sizeOf49 (Has.t rfl) (Has.t rfl) rfl (map_get (getD_some (d := Qi.zero) (by rw [hb0]; omega))))) ?_
        refine D_step (Ei := [(60, _)]) rfl rfl (Srcs.cons (Src.op 11 rfl rfl) Srcs.nil) (S_plain rfl (op_ld Tryz.isAgg49 Tryz.sizeOf49 (Has.t rfl))) ?_
        refine D_step (Ei := [(55, _), (61, _)]) rfl rfl (Srcs.cons (Src.op 6 rfl rfl) (Srcs.cons (Src.op 12 rfl rfl) Srcs.nil)) (S_plain rfl (op_invoke meth_49_Mul Tryz.call56 (c_Mul (by omega)) (Has.t rfl) ⟨(Has.t rfl), trivial⟩)) ?_
        refine D_new (Ei := []) rfl rfl rfl Srcs.nil (new_alloc (Ts := [Is (.bool false), Is (.slice none 0 0), Is (.bool false), Is (.slice none 0 0), Is (.slice none 0 0)]) Tryz.zeroValue49 rfl (fun V => Cells.cons' ⟨rfl, trivial⟩ (Cells.cons' ⟨rfl, trivial⟩ (Cells.cons' ⟨rfl, trivial⟩ (Cells.cons' ⟨rfl, trivial⟩ (Cells.cons' ⟨rfl, trivial⟩ (Cells.nil))))))) ?_
        refine D_done mixed rfl (by kernel_rfl) (F_val (F_val (F_val (F_val (F_val (F_val (F_val (F_val (F_val (F_val (F_val (F_val (F_val (F_val (F_new (fun B13 => F_nil ?_))))))))))))))))
        refine R_stA Tryz.sizeOf49 (Has.t rfl) (Has.t rfl) rfl (i := 3) rfl (Nat.le_of_ble_eq_true rfl) rfl rfl ?_
        refine R_nil ?_
        refine T_seq ?_
        refine T_seq ?_
        refine T_region ?_
        refine R_op rfl rfl rfl (op_assign (Has.cN 1)) ?_
        refine R_nil ?_
        refine T_block ?_
        refine T_loop (fun (j : Nat) => 1 ≤ j ∧ j ≤ k) (fun (j : Nat) => k - j) (fun (j : Nat) => [(0, NumM a), (1, NumM b), (6, NT .i64 k), (8, NT .i64 m), (10, Is (.slice (some ⟨B39, 0, none⟩) n n)), (11, NT .i64 i), (12, NT .i64 c), (13, PtrB B13 0), (14, NT .i64 j), (41, NT .i64 n), (42, NT .i64 i), (45, NT .i64 m), (46, NT .i64 c)]) (fun (j : Nat) => [Z, matH B39 30 49 5 (FRow NumT (mixT (fun i => tab m fun c => dotN a b k i c) [] n i)) i v, rowO 49 5 v ((tab c fun c => dotN a b k i c).map NumT), box B13 49 [BoolT (decide ((sumN j fun j => gm a i j * gm b j c).a < 0)), NatT (sumN j fun j => gm a i j * gm b j c).a.natAbs, BoolT (decide ((sumN j fun j => gm a i j * gm b j c).b < 0)), NatT (sumN j fun j => gm a i j * gm b j c).b.natAbs, NatT (du (sumN j fun j => gm a i j * gm b j c))]]) 1 ⟨Nat.le_refl _, hk1⟩
          (Sub.cons rfl (Sub.cons rfl (Sub.cons rfl (Sub.cons rfl (Sub.cons rfl (Sub.cons rfl (Sub.cons rfl (Sub.cons rfl (Sub.cons rfl (Sub.cons rfl (Sub.cons rfl (Sub.cons rfl (Sub.cons rfl Sub.nil))))))))))))) (HSub.cons (fun _ _ _ h => h) (HSub.cons (fun _ _ _ h => h) (HSub.cons (fun _ _ _ h => h) (HSub.cons (box_of (by rw [sumN_one]; rfl)) HSub.nil)))) (fun j ⟨hj1, hj⟩ => ?_)
        refine T_seq ?_
        refine T_seq ?_
        refine T_region ?_
        refine R_op rfl rfl rfl (op_move (Has.t rfl)) ?_
        refine R_op rfl rfl rfl (op_move (Has.t rfl)) ?_
        refine R_op rfl rfl rfl (op_lssN (Has.t rfl) (Has.t rfl)) ?_
        refine R_nil ?_
        refine T_cond (Has.t rfl) (fun hf => ?_) (fun hf => ?_)
        · simp only [decide_eq_true_eq] at hf
          haveI f3 : FitC (gm a i j) L := hfa.get hL1 i j
          haveI f4 : FitC (gm b j c) M := hfb.get hM1 j c
          haveI f5 : FitC (sumN j fun j => gm a i j * gm b j c) (8 * (L + M) + 17) := dot_fit hfa hfb hL1 hM1 (by omega) i c
          have hbj := hb.row (i := j) (by omega)
          refine T_skip ?_
          refine T_seq ?_
          refine T_block ?_
          refine D_start (m := 18) ?_
          refine D_step (Ei := [(13, _)]) rfl rfl (Srcs.cons (Src.pre rfl rfl) Srcs.nil) (S_plain rfl (op_ldBA Tryz.isAgg49 Tryz.sizeOf49 (Has.t rfl) (i := 3) rfl rfl rfl)) ?_
          refine D_step (Ei := [(68, _)]) rfl rfl (Srcs.cons (Src.op 0 rfl rfl) Srcs.nil) (S_plain rfl (op_iface mkif_49 (Has.t rfl))) ?_
          refine D_step (Ei := [(0, _)]) rfl rfl (Srcs.cons (Src.pre rfl rfl) Srcs.nil) (S_plain rfl (op_move (Has.t rfl))) ?_
          refine D_step (Ei := [(11, _)]) rfl rfl (Srcs.cons (Src.pre rfl rfl) Srcs.nil) (S_plain rfl (op_move (Has.t rfl))) ?_
          refine D_step (Ei := [(70, _), (71, _)]) rfl rfl (Srcs.cons (Src.op 2 rfl rfl) (Srcs.cons (Src.op 3 rfl rfl) Srcs.nil)) (S_plain rfl (op_idx Tryz.runUnderlying31 Tryz.sizeOf30 (Has.t rfl) (Has.t rfl) rfl (map_get (getD_some (d := []) (by omega))))) ?_
          refine D_step (Ei := [(72, _)]) rfl rfl (Srcs.cons (Src.op 4 rfl rfl) Srcs.nil) (S_plain rfl (op_ld Tryz.isAgg30 Tryz.sizeOf30 (Has.t rfl))) ?_
          refine D_step (Ei := [(14, _)]) rfl rfl (Srcs.cons (Src.pre rfl rfl) Srcs.nil) (S_plain rfl (op_move (Has.t rfl))) ?_
          refine D_step (Ei := [(73, _), (74, _)]) rfl rfl (Srcs.cons (Src.op 5 rfl rfl) (Srcs.cons (Src.op 6 rfl rfl) Srcs.nil)) (S_plain rfl (op_idx Tryz.runUnderlying30 Tryz.sizeOf49 (Has.t rfl) (Has.t rfl) rfl (map_get (getD_some (d := Qi.zero) (by rw [har]; omega))))) ?_
          refine D_step (Ei := [(75, _)]) rfl rfl (Srcs.cons (Src.op 7 rfl rfl) Srcs.nil) (S_plain rfl (op_ld Tryz.isAgg49 Tryz.sizeOf49 (Has.t rfl))) ?_
          refine D_step (Ei := [(76, _)]) rfl rfl (Srcs.cons (Src.op 8 rfl rfl) Srcs.nil) (S_plain rfl (op_iface mkif_49 (Has.t rfl))) ?_
          refine D_step (Ei := [(1, _)]) rfl rfl (Srcs.cons (Src.pre rfl rfl) Srcs.nil) (S_plain rfl (op_move (Has.t rfl))) ?_
          refine D_step (Ei := [(14, _)]) rfl rfl (Srcs.cons (Src.pre rfl rfl) Srcs.nil) (S_plain rfl (op_move (Has.t rfl))) ?_
          refine D_step (Ei := [(78, _), (79, _)]) rfl rfl (Srcs.cons (Src.op 10 rfl rfl) (Srcs.cons (Src.op 11 rfl rfl) Srcs.nil)) (S_plain rfl (op_idx Tryz.runUnderlying31 Tryz.sizeOf30 (Has.t rfl) (Has.t rfl) rfl (map_get (getD_some (d := []) (by omega))))) ?_
          refine D_step (Ei := [(80, _)]) rfl rfl (Srcs.cons (Src.op 12 rfl rfl) Srcs.nil) (S_plain rfl (op_ld Tryz.isAgg30 Tryz.sizeOf30 (Has.t rfl))) ?_
          refine D_step (Ei := [(12, _)]) rfl rfl (Srcs.cons (Src.pre rfl rfl) Srcs.nil) (S_plain rfl (op_move (Has.t rfl))) ?_
          refine D_step (Ei := [(81, _), (82, _)]) rfl rfl (Srcs.cons (Src.op 13 rfl rfl) (Srcs.cons (Src.op 14 rfl rfl) Srcs.nil)) (S_plain rfl (op_idx Tryz.runUnderlying30 Tryz.sizeOf49 (Has.t rfl) (Has.t rfl) rfl (map_get (getD_some (d := Qi.zero) (by rw [hbj]; omega))))) ?_
          refine D_step (Ei := [(83, _)]) rfl rfl (Srcs.cons (Src.op 15 rfl rfl) Srcs.nil) (S_plain rfl (op_ld Tryz.isAgg49 Tryz.sizeOf49 (Has.t rfl))) ?_
          refine D_step (Ei := [(77, _), (84, _)]) rfl rfl (Srcs.cons (Src.op 9 rfl rfl) (Srcs.cons (Src.op 16 rfl rfl) Srcs.nil)) (S_plain rfl (op_invoke meth_49_Mul Tryz.call56 (c_Mul (by omega)) (Has.t rfl) ⟨(Has.t rfl), trivial⟩)) ?_
          refine D_done mixed rfl (by kernel_rfl) (F_val (F_val (F_val (F_val (F_val (F_val (F_val (F_val (F_val (F_val (F_val (F_val (F_val (F_val (F_val (F_val (F_val (F_val (F_nil ?_)))))))))))))))))))
          refine R_op rfl rfl rfl (op_invoke meth_49_Add Tryz.call59 (c_Add (by omega)) (Has.t rfl) ⟨(Has.t rfl), trivial⟩) ?_
          refine R_stA Tryz.sizeOf49 (Has.t rfl) (Has.t rfl) rfl (i := 3) rfl (Nat.le_of_ble_eq_true rfl) rfl rfl ?_
          refine R_nil ?_
          refine T_blk ?_
          refine T_region ?_
          refine R_op rfl rfl rfl (op_move (Has.t rfl)) ?_
          refine R_op rfl rfl rfl (op_addN (Has.t rfl) (Has.cN 1) (by show _ < 9223372036854775808; first | omega | (simp only [lim]; omega))) ?_
          refine R_op rfl rfl rfl (op_assign (Has.t rfl)) ?_
          refine R_nil ?_
          refine T_again (j + 1) ⟨by omega, hf⟩ (by omega) (Sub.cons rfl (Sub.cons rfl (Sub.cons rfl (Sub.cons rfl (Sub.cons rfl (Sub.cons rfl (Sub.cons rfl (Sub.cons rfl (Sub.cons rfl (Sub.cons rfl (Sub.cons rfl (Sub.cons rfl (Sub.cons rfl Sub.nil))))))))))))) (HSub.cons (fun _ _ _ h => h) (HSub.cons (fun _ _ _ h => h) (HSub.cons (fun _ _ _ h => h) (HSub.cons (box_of rfl) HSub.nil))))
        · simp only [decide_eq_false_iff_not] at hf
          obtain rfl : k = j := Nat.le_antisymm (by omega) hj
          refine T_exit rfl ?_
          refine Y.D_startA (m := 9) [] 8 2 rfl rfl ?_
          refine Y.D_hide (Ei := [(10, _)]) rfl rfl (Y.Srcs.cons (Y.Src.pre rfl rfl) Y.Srcs.nil) rfl rfl (S_plain rfl (op_move (Has.t rfl))) ?_
          refine Y.D_hide (Ei := [(11, _)]) rfl rfl (Y.Srcs.cons (Y.Src.pre rfl rfl) Y.Srcs.nil) rfl rfl (S_plain rfl (op_move (Has.t rfl))) ?_
          refine Y.D_hide (Ei := [(10, _)]) rfl rfl (Y.Srcs.cons (Y.Src.pre rfl rfl) Y.Srcs.nil) rfl rfl (S_plain rfl (op_move (Has.t rfl))) ?_
          refine Y.D_hide (Ei := [(11, _)]) rfl rfl (Y.Srcs.cons (Y.Src.pre rfl rfl) Y.Srcs.nil) rfl rfl (S_plain rfl (op_move (Has.t rfl))) ?_
          refine Y.D_hide (Ei := [(89, _), (90, _)]) rfl rfl (Y.Srcs.cons (Y.Src.op 2 rfl rfl) (Y.Srcs.cons (Y.Src.op 3 rfl rfl) Y.Srcs.nil)) rfl rfl (S_plain rfl (op_idxB Tryz.runUnderlying31 Tryz.sizeOf30 (Has.t rfl) (Has.t rfl) rfl (by omega) (by rw [Nat.mul_one, Nat.zero_add]))) ?_
          refine Y.D_hide (Ei := [(91, _)]) rfl rfl (Y.Srcs.cons (Y.Src.op 4 rfl rfl) Y.Srcs.nil) rfl rfl (S_plain rfl (op_ldH Tryz.isAgg30 Tryz.sizeOf30 (Has.t rfl) (j := 1) rfl)) ?_
          refine Y.D_hide (Ei := [(13, _)]) rfl rfl (Y.Srcs.cons (Y.Src.pre rfl rfl) Y.Srcs.nil) rfl rfl (S_plain rfl (op_ldBA Tryz.isAgg49 Tryz.sizeOf49 (Has.t rfl) (i := 3) rfl rfl rfl)) ?_
          refine Y.D_hide (Ei := [(93, _)]) rfl rfl (Y.Srcs.cons (Y.Src.op 6 rfl rfl) Y.Srcs.nil) rfl rfl (S_plain rfl (op_bslice (xs := [.tmp 93]) Tryz.runUnderlying30 Tryz.sizeOf49 Tryz.zeroValue49 (Elems.cons (Has.t rfl) Elems.nil) rfl rfl rfl)) ?_
          refine Y.D_app (Ei := [(92, _), (94, _)]) rfl rfl rfl rfl (Y.Srcs.cons (Y.Src.op 5 rfl rfl) (Y.Srcs.cons (Y.Src.op 7 rfl rfl) Y.Srcs.nil)) rfl (A_append (inf := Tryz.t49) und_30 info_49 rfl rfl rfl (Has.t rfl) (Has.t rfl) (by simp) (fun T hT => by simp at hT; subst hT; exact El.ag rfl) (by show _ * 88 ≤ _; simp only [List.length_map, tab_len, List.length_cons, List.length_nil]; omega) (by simp only [List.length_map, tab_len, List.length_cons, List.length_nil]; omega)) ?_
          refine Y.D_done mixed rfl (by kernel_rfl) rfl (by simp [Y.okP]) rfl rfl (Y.F_val (Y.F_val (Y.F_val (Y.F_val (Y.F_val (Y.F_val (Y.F_val (Y.F_val (Y.F_app (fun v2 => Y.F_nil ?_))))))))))
          refine R_op rfl rfl rfl (op_idxB Tryz.runUnderlying31 Tryz.sizeOf30 (Has.t rfl) (Has.t rfl) rfl (by omega) (by rw [Nat.mul_one, Nat.zero_add])) ?_
          refine R_stH Tryz.sizeOf30 (Has.t rfl) (Has.t rfl) (by simp only [FRow, List.length_map, mix_len]; omega) (j := 1) (l := 4) rfl rfl rfl ?_
          refine R_nil ?_
          refine T_blk ?_
          refine T_region ?_
          refine R_op rfl rfl rfl (op_addN (Has.t rfl) (Has.cN 1) (by show _ < 9223372036854775808; first | omega | (simp only [lim]; omega))) ?_
          refine R_op rfl rfl rfl (op_move (Has.t rfl)) ?_
          refine R_nil ?_
          refine T_keep [0, 1, 4] rfl (by decide) ?_
          refine T_again (c + 1, v2) he (by dsimp only; omega) (Sub.cons rfl (Sub.cons rfl (Sub.cons rfl (Sub.cons rfl (Sub.cons rfl (Sub.cons rfl (Sub.cons rfl (Sub.cons rfl (Sub.cons rfl (Sub.cons rfl Sub.nil)))))))))) (HSub.cons (fun _ _ _ h => h) (HSub.cons (fun _ _ _ h => h) (HSub.cons (rowO_of ((app_mapF NumT _ (dotN a b k i c)).trans (congrArg _ (tab_succ c (fun c => dotN a b k i c)).symm))) HSub.nil)))
      · simp only [decide_eq_false_iff_not] at he
        obtain rfl : m = c := Nat.le_antisymm (by omega) hc
        refine T_exit rfl ?_
        refine T_blk ?_
        refine T_unfocus 1 2 rfl rfl (by decide) (by simp only [FRow, List.length_map, mix_len]; omega) ?_
        refine T_region ?_
        refine R_op rfl rfl rfl (op_addN (Has.t rfl) (Has.cN 1) (by show _ < 9223372036854775808; first | omega | (simp only [lim]; omega))) ?_
        refine R_op rfl rfl rfl (op_move (Has.t rfl)) ?_
        refine R_nil ?_
        refine T_keep [0, 1] rfl (by decide) ?_
        refine T_again (i + 1) hd (by omega) (Sub.cons rfl (Sub.cons rfl (Sub.cons rfl (Sub.cons rfl (Sub.cons rfl (Sub.cons rfl (Sub.cons rfl Sub.nil))))))) (HSub.cons (fun _ _ _ h => h) (HSub.cons (matO_of (by rw [set_FRow, ← mix_set (f := (fun i => tab m fun c => dotN a b k i c))])) HSub.nil))
    · simp only [decide_eq_false_iff_not] at hd
      obtain rfl : n = i := Nat.le_antisymm (by omega) hi
      refine T_exit rfl ?_
      refine T_seq ?_
      refine T_region ?_
      refine R_op rfl rfl rfl (op_move (Has.t rfl)) ?_
      refine R_op rfl rfl rfl (op_assign (Has.t rfl)) ?_
      refine R_op rfl rfl rfl (op_assign (Has.cN 0)) ?_
      refine R_nil ?_
      exact T_retO B39 trivial [0, 1] ⟨⟨_, rfl, fun _ _ _ h => h⟩, ⟨_, rfl, (matO_of (by rw [mix_fin]; rfl))⟩, trivial⟩ (by decide) (rvs2 rfl (rv_tmp rfl) (rv_tmp rfl))
theorem c_Prod {a b : List (List Qi)} {n k m L M : Nat} (ha : Shp a n k) (hb : Shp b k m) (hfa : FitM a L) (hfb : FitM b M) (hL1 : 1 ≤ L) (hM1 : 1 ≤ M) (hL : L ≤ 100000000) (hM : M ≤ 100000000) (hn1 : 1 ≤ n) (hk1 : 1 ≤ k) (hn : n ≤ 8) (hk : k ≤ 8) (hm : m ≤ 8) : Fun Tryz.prog 153 [NumM a, NumM b] (TupT [NumM (mulM a b n k m), IntT .i64 0]) := (c_ProdO ha hb hfa hfb hL1 hM1 hL hM hn1 hk1 hn hk hm).fun fun B _ v S V h1 h2 => tup1 h1 fun u hu => frz_matF (s := 5) (M := mulM a b n k m) (tab_len _ _).symm u S V hu h2
set_option maxRecDepth 20000 in
theorem c_AdjO {a : List (List Qi)} {n m : Nat} (ha : Shp a n m) (hn1 : 1 ≤ n) (hn : n ≤ 8) (hm : m ≤ 8) : FunO Tryz.prog 154 [NumM a] [] (Nat) (fun B => TupT [Is (.slice (some ⟨B, 0, none⟩) m m), IntT .i64 0]) (fun B => [matO B 30 49 5 (FRow NumT (adjM a n m))]) (fun _ => True) := by
  have hal := ha.1
  refine FunO.intro Tryz.func154 rfl Tryz.ntmps154 rfl (fun cx Z => ?_)
  refine T_seq ?_
  refine T_region ?_
  refine R_op rfl rfl rfl (op_assign Has.c) ?_
  refine R_op rfl rfl rfl (op_assign (Has.cN 0)) ?_
  refine R_nil ?_
  refine T_seq ?_
  refine T_region ?_
  refine R_op rfl rfl rfl (op_move (Has.t rfl)) ?_
  refine R_op rfl rfl rfl (op_call Tryz.call200 (c_columns ha hn1 (by omega) (by omega)) ⟨(Has.t rfl), trivial⟩) ?_
  refine R_op rfl rfl rfl (op_move (Has.t rfl)) ?_
  refine R_op rfl rfl rfl (op_extract (Has.t rfl) rfl) ?_
  refine R_op rfl rfl rfl (op_extract (Has.t rfl) rfl) ?_
  refine R_op rfl rfl rfl (op_assign (Has.t rfl)) ?_
  refine R_op rfl rfl rfl (op_assign (Has.t rfl)) ?_
  refine R_nil ?_
  refine T_seq ?_
  refine T_seq ?_
  refine T_region ?_
  refine R_op rfl rfl rfl (op_move (Has.t rfl)) ?_
  refine R_op rfl rfl rfl (op_not (Has.t rfl)) ?_
  refine R_nil ?_
  refine T_cond (Has.t rfl) (fun h0 => ?_) (fun h0 => ?_)
  · exact absurd h0 (by simp)
  · refine T_skip ?_
    refine T_seq ?_
    refine T_region ?_
    refine R_op rfl rfl rfl (op_move (Has.t rfl)) ?_
    refine R_new rfl rfl rfl (new_make (T := Is (.slice none 0 0)) (i := Tryz.t30) Tryz.underlying31 info_30 rfl rfl (Has.t rfl) rfl (fun _ => rfl) trivial (by show 24 * _ ≤ _; omega) (by omega)) (fun B17 => ?_)
    refine R_op rfl rfl rfl (op_assign (Has.t rfl)) ?_
    refine R_nil ?_
    refine T_seq ?_
    refine T_seq ?_
    refine T_region ?_
    refine R_op rfl rfl rfl (op_move (Has.t rfl)) ?_
    refine R_op rfl rfl rfl (op_lenI Tryz.runUnderlying31 (Has.t rfl)) ?_
    refine R_op rfl rfl rfl (op_move (Has.cN 0)) ?_
    refine R_nil ?_
    refine T_block ?_
    refine T_conv 1 rfl (mat_nil (e := 49) (s := 5)) ?_
    refine T_loop (fun (k : Nat) => k ≤ m) (fun (k : Nat) => m - k) (fun (k : Nat) => [(0, NumM a), (6, Is (.slice (some ⟨B17, 0, none⟩) m m)), (19, NT .i64 m), (20, NT .i64 k)]) (fun (k : Nat) => [Z, matO B17 30 49 5 (FRow NumT (mixT (fun k => tab n fun i => (gm a i k).conj) [] m k))]) 0 (Nat.zero_le _)
      (Sub.cons rfl (Sub.cons rfl (Sub.cons rfl (Sub.cons rfl Sub.nil)))) (HSub.cons (fun _ _ _ h => h) (HSub.cons (matO_of (by rw [← mix_zero, tab_const]; exact rep_FRow NumT m)) HSub.nil)) (fun k hk => ?_)
    refine T_seq ?_
    refine T_region ?_
    refine R_op rfl rfl rfl (op_lssN (Has.t rfl) (Has.t rfl)) ?_
    refine R_nil ?_
    refine T_seq ?_
    refine T_cond (Has.t rfl) (fun hd => ?_) (fun hd => ?_)
    · simp only [decide_eq_true_eq] at hd
      refine T_focus 1 (k) rfl (frow_mix hd) (fun v => ?_)
      refine T_skip ?_
      refine T_seq ?_
      refine T_block ?_
      refine T_seq ?_
      refine T_region ?_
      refine R_op rfl rfl rfl (op_move (Has.t rfl)) ?_
      refine R_op rfl rfl rfl (op_assign (Has.t rfl)) ?_
      refine R_nil ?_
      refine T_seq ?_
      refine T_region ?_
      refine R_op rfl rfl rfl (op_move (Has.t rfl)) ?_
      refine R_op rfl rfl rfl (op_len Tryz.runUnderlying31 (Has.t rfl) len_map) ?_
      refine R_op rfl rfl rfl (op_move (Has.cN 0)) ?_
      refine R_nil ?_
      refine T_block ?_
      refine T_loop2 (fun (i : Nat) (v : Value) => i ≤ n) (fun (i : Nat) (v : Value) => n - i) (fun (i : Nat) (v : Value) => [(0, NumM a), (6, Is (.slice (some ⟨B17, 0, none⟩) m m)), (7, NT .i64 k), (19, NT .i64 m), (20, NT .i64 k), (24, NT .i64 n), (25, NT .i64 i)]) (fun (i : Nat) (v : Value) => [Z, matH B17 30 49 5 (FRow NumT (mixT (fun k => tab n fun i => (gm a i k).conj) [] m k)) k v, rowO 49 5 v ((tab i fun i => (gm a i k).conj).map NumT)]) 0 v (Nat.zero_le _)
        (Sub.cons rfl (Sub.cons rfl (Sub.cons rfl (Sub.cons rfl (Sub.cons rfl (Sub.to rfl (nt_of hal) (Sub.cons rfl Sub.nil))))))) (HSub.refl _) (fun i v hi => ?_)
      refine T_seq ?_
      refine T_region ?_
      refine R_op rfl rfl rfl (op_lssN (Has.t rfl) (Has.t rfl)) ?_
      refine R_nil ?_
      refine T_seq ?_
      refine T_cond (Has.t rfl) (fun he => ?_) (fun he => ?_)
      · simp only [decide_eq_true_eq] at he
        have har := ha.row he
        refine T_skip ?_
        refine T_seq ?_
        refine T_block ?_
        refine T_seq ?_
        refine T_region ?_
        refine R_op rfl rfl rfl (op_move (Has.t rfl)) ?_
        refine R_op rfl rfl rfl (op_assign (Has.t rfl)) ?_
        refine R_nil ?_
        refine Y.D_startA (m := 17) [] 16 2 rfl rfl ?_
        refine Y.D_hide (Ei := [(6, _)]) rfl rfl (Y.Srcs.cons (Y.Src.pre rfl rfl) Y.Srcs.nil) rfl rfl (S_plain rfl (op_move (Has.t rfl))) ?_
        refine Y.D_hide (Ei := [(7, _)]) rfl rfl (Y.Srcs.cons (Y.Src.pre rfl rfl) Y.Srcs.nil) rfl rfl (S_plain rfl (op_move (Has.t rfl))) ?_
        refine Y.D_hide (Ei := [(6, _)]) rfl rfl (Y.Srcs.cons (Y.Src.pre rfl rfl) Y.Srcs.nil) rfl rfl (S_plain rfl (op_move (Has.t rfl))) ?_
        refine Y.D_hide (Ei := [(7, _)]) rfl rfl (Y.Srcs.cons (Y.Src.pre rfl rfl) Y.Srcs.nil) rfl rfl (S_plain rfl (op_move (Has.t rfl))) ?_
        refine Y.D_hide (Ei := [(30, _), (31, _)]) rfl rfl (Y.Srcs.cons (Y.Src.op 2 rfl rfl) (Y.Srcs.cons (Y.Src.op 3 rfl rfl) Y.Srcs.nil)) rfl rfl (S_plain rfl (op_idxB Tryz.runUnderlying31 Tryz.sizeOf30 (Has.t rfl) (Has.t rfl) rfl (by omega) (by rw [Nat.mul_one, Nat.zero_add]))) ?_
        refine Y.D_hide (Ei := [(32, _)]) rfl rfl (Y.Srcs.cons (Y.Src.op 4 rfl rfl) Y.Srcs.nil) rfl rfl (S_plain rfl (op_ldH Tryz.isAgg30 Tryz.sizeOf30 (Has.t rfl) (j := 1) rfl)) ?_
        refine Y.D_hide (Ei := [(0, _)]) rfl rfl (Y.Srcs.cons (Y.Src.pre rfl rfl) Y.Srcs.nil) rfl rfl (S_plain rfl (op_move (Has.t rfl))) ?_
        refine Y.D_hide (Ei := [(8, _)]) rfl rfl (Y.Srcs.cons (Y.Src.pre rfl rfl) Y.Srcs.nil) rfl rfl (S_plain rfl (op_move (Has.t rfl))) ?_
        refine Y.D_hide (Ei := [(34, _), (35, _)]) rfl rfl (Y.Srcs.cons (Y.Src.op 6 rfl rfl) (Y.Srcs.cons (Y.Src.op 7 rfl rfl) Y.Srcs.nil)) rfl rfl (S_plain rfl (op_idx Tryz.runUnderlying31 Tryz.sizeOf30 (Has.t rfl) (Has.t rfl) rfl (map_get (getD_some (d := []) (by omega))))) ?_
        refine Y.D_hide (Ei := [(36, _)]) rfl rfl (Y.Srcs.cons (Y.Src.op 8 rfl rfl) Y.Srcs.nil) rfl rfl (S_plain rfl (op_ld Tryz.isAgg30 Tryz.sizeOf30 (Has.t rfl))) ?_
        refine Y.D_hide (Ei := [(7, _)]) rfl rfl (Y.Srcs.cons (Y.Src.pre rfl rfl) Y.Srcs.nil) rfl rfl (S_plain rfl (op_move (Has.t rfl))) ?_
        refine Y.D_hide (Ei := [(37, _), (38, _)]) rfl rfl (Y.Srcs.cons (Y.Src.op 9 rfl rfl) (Y.Srcs.cons (Y.Src.op 10 rfl rfl) Y.Srcs.nil)) rfl rfl (S_plain rfl (op_idx Tryz.runUnderlying30 Tryz.sizeOf49 (Has.t rfl) (Has.t rfl) rfl (map_get (getD_some (d := Qi.zero) (by rw [har]; omega))))) ?_
        refine Y.D_hide (Ei := [(39, _)]) rfl rfl (Y.Srcs.cons (Y.Src.op 11 rfl rfl) Y.Srcs.nil) rfl rfl (S_plain rfl (op_ld Tryz.isAgg49 Tryz.sizeOf49 (Has.t rfl))) ?_
        refine Y.D_hide (Ei := [(40, _)]) rfl rfl (Y.Srcs.cons (Y.Src.op 12 rfl rfl) Y.Srcs.nil) rfl rfl (S_plain rfl (op_iface mkif_49 (Has.t rfl))) ?_
        refine Y.D_hide (Ei := [(41, _)]) rfl rfl (Y.Srcs.cons (Y.Src.op 13 rfl rfl) Y.Srcs.nil) rfl rfl (S_plain rfl (op_invoke meth_49_Conj Tryz.call263 c_Conj (Has.t rfl) trivial)) ?_
        refine Y.D_hide (Ei := [(42, _)]) rfl rfl (Y.Srcs.cons (Y.Src.op 14 rfl rfl) Y.Srcs.nil) rfl rfl (S_plain rfl (op_bslice (xs := [.tmp 42]) Tryz.runUnderlying30 Tryz.sizeOf49 Tryz.zeroValue49 (Elems.cons (Has.t rfl) Elems.nil) rfl rfl rfl)) ?_
        refine Y.D_app (Ei := [(33, _), (43, _)]) rfl rfl rfl rfl (Y.Srcs.cons (Y.Src.op 5 rfl rfl) (Y.Srcs.cons (Y.Src.op 15 rfl rfl) Y.Srcs.nil)) rfl (A_append (inf := Tryz.t49) und_30 info_49 rfl rfl rfl (Has.t rfl) (Has.t rfl) (by simp) (fun T hT => by simp at hT; subst hT; exact El.ag rfl) (by show _ * 88 ≤ _; simp only [List.length_map, tab_len, List.length_cons, List.length_nil]; omega) (by simp only [List.length_map, tab_len, List.length_cons, List.length_nil]; omega)) ?_
        refine Y.D_done mixed rfl (by kernel_rfl) rfl (by simp [Y.okP]) rfl rfl (Y.F_val (Y.F_val (Y.F_val (Y.F_val (Y.F_val (Y.F_val (Y.F_val (Y.F_val (Y.F_val (Y.F_val (Y.F_val (Y.F_val (Y.F_val (Y.F_val (Y.F_val (Y.F_val (Y.F_app (fun v2 => Y.F_nil ?_))))))))))))))))))
        refine R_op rfl rfl rfl (op_idxB Tryz.runUnderlying31 Tryz.sizeOf30 (Has.t rfl) (Has.t rfl) rfl (by omega) (by rw [Nat.mul_one, Nat.zero_add])) ?_
        refine R_stH Tryz.sizeOf30 (Has.t rfl) (Has.t rfl) (by simp only [FRow, List.length_map, mix_len]; omega) (j := 1) (l := 3) rfl rfl rfl ?_
        refine R_nil ?_
        refine T_blk ?_
        refine T_region ?_
        refine R_op rfl rfl rfl (op_addN (Has.t rfl) (Has.cN 1) (by show _ < 9223372036854775808; first | omega | (simp only [lim]; omega))) ?_
        refine R_op rfl rfl rfl (op_move (Has.t rfl)) ?_
        refine R_nil ?_
        refine T_keep [0, 1, 3] rfl (by decide) ?_
        refine T_again (i + 1, v2) he (by dsimp only; omega) (Sub.cons rfl (Sub.cons rfl (Sub.cons rfl (Sub.cons rfl (Sub.cons rfl (Sub.cons rfl (Sub.cons rfl Sub.nil))))))) (HSub.cons (fun _ _ _ h => h) (HSub.cons (fun _ _ _ h => h) (HSub.cons (rowO_of ((app_mapF NumT _ (gm a i k).conj).trans (congrArg _ (tab_succ i (fun i => (gm a i k).conj)).symm))) HSub.nil)))
      · simp only [decide_eq_false_iff_not] at he
        obtain rfl : n = i := Nat.le_antisymm (by omega) hi
        refine T_exit rfl ?_
        refine T_blk ?_
        refine T_unfocus 1 2 rfl rfl (by decide) (by simp only [FRow, List.length_map, mix_len]; omega) ?_
        refine T_region ?_
        refine R_op rfl rfl rfl (op_addN (Has.t rfl) (Has.cN 1) (by show _ < 9223372036854775808; first | omega | (simp only [lim]; omega))) ?_
        refine R_op rfl rfl rfl (op_move (Has.t rfl)) ?_
        refine R_nil ?_
        refine T_keep [0, 1] rfl (by decide) ?_
        refine T_again (k + 1) hd (by omega) (Sub.cons rfl (Sub.cons rfl (Sub.cons rfl (Sub.cons rfl Sub.nil)))) (HSub.cons (fun _ _ _ h => h) (HSub.cons (matO_of (by rw [set_FRow, ← mix_set (f := (fun k => tab n fun i => (gm a i k).conj))])) HSub.nil))
    · simp only [decide_eq_false_iff_not] at hd
      obtain rfl : m = k := Nat.le_antisymm (by omega) hk
      refine T_exit rfl ?_
      refine T_seq ?_
      refine T_region ?_
      refine R_op rfl rfl rfl (op_move (Has.t rfl)) ?_
      refine R_op rfl rfl rfl (op_assign (Has.t rfl)) ?_
      refine R_op rfl rfl rfl (op_assign (Has.cN 0)) ?_
      refine R_nil ?_
      exact T_retO B17 trivial [0, 1] ⟨⟨_, rfl, fun _ _ _ h => h⟩, ⟨_, rfl, (matO_of (by rw [mix_fin]; rfl))⟩, trivial⟩ (by decide) (rvs2 rfl (rv_tmp rfl) (rv_tmp rfl))
theorem c_Adj {a : List (List Qi)} {n m : Nat} (ha : Shp a n m) (hn1 : 1 ≤ n) (hn : n ≤ 8) (hm : m ≤ 8) : Fun Tryz.prog 154 [NumM a] (TupT [NumM (adjM a n m), IntT .i64 0]) := (c_AdjO ha hn1 hn hm).fun fun B _ v S V h1 h2 => tup1 h1 fun u hu => frz_matF (s := 5) (M := adjM a n m) (tab_len _ _).symm u S V hu h2
set_option maxRecDepth 20000 in
theorem c_scatO {z : List Qi} {s : List (List Qi)} (hsh : Shp s z.length z.length) (hl : z.length ≤ 8) : FunO Tryz.prog 80 [NetT z s] [] (Nat) (fun B => Is (.slice (some ⟨B, 0, none⟩) z.length z.length)) (fun B => [matO B 30 49 5 (FRow NumT (tab z.length fun i => tab z.length fun k => gm s i k))]) (fun _ => True) := by
  refine FunO.intro Tryz.func80 rfl Tryz.ntmps80 rfl (fun cx Z => ?_)
  refine T_seq ?_
  refine T_region ?_
  refine R_new rfl rfl rfl (new_box (Has.t rfl)) (fun B1 => ?_)
  refine R_op rfl rfl rfl (op_assign Has.c) ?_
  refine R_nil ?_
  refine T_seq ?_
  refine T_region ?_
  refine R_op rfl rfl rfl (op_ldBA Tryz.isAgg33 Tryz.sizeOf33 (Has.t rfl) (i := 1) rfl rfl rfl) ?_
  refine R_op rfl rfl rfl (op_call Tryz.call74 c_Ports ⟨(Has.t rfl), trivial⟩) ?_
  refine R_new rfl rfl rfl (new_make (T := Is (.slice none 0 0)) (i := Tryz.t30) Tryz.underlying31 info_30 rfl rfl (Has.t rfl) rfl (fun _ => rfl) trivial (by show 24 * _ ≤ _; omega) (by omega)) (fun B10 => ?_)
  refine R_op rfl rfl rfl (op_assign (Has.t rfl)) ?_
  refine R_nil ?_
  refine T_seq ?_
  refine T_seq ?_
  refine T_region ?_
  refine R_op rfl rfl rfl (op_move (Has.t rfl)) ?_
  refine R_op rfl rfl rfl (op_lenI Tryz.runUnderlying31 (Has.t rfl)) ?_
  refine R_op rfl rfl rfl (op_move (Has.cN 0)) ?_
  refine R_nil ?_
  refine T_block ?_
  refine T_conv 2 rfl (mat_nil (e := 49) (s := 5)) ?_
  refine T_loop (fun (i : Nat) => i ≤ z.length) (fun (i : Nat) => z.length - i) (fun (i : Nat) => [(1, PtrB B1 0), (3, Is (.slice (some ⟨B10, 0, none⟩) z.length z.length)), (12, NT .i64 z.length), (13, NT .i64 i)]) (fun (i : Nat) => [Z, box B1 33 [NumsT z, NumM s], matO B10 30 49 5 (FRow NumT (mixT (fun i => tab z.length fun k => gm s i k) [] z.length i))]) 0 (Nat.zero_le _)
    (Sub.cons rfl (Sub.cons rfl (Sub.cons rfl (Sub.cons rfl Sub.nil)))) (HSub.cons (fun _ _ _ h => h) (HSub.cons (fun _ _ _ h => h) (HSub.cons (matO_of (by rw [← mix_zero, tab_const]; exact rep_FRow NumT z.length)) HSub.nil))) (fun i hi => ?_)
  refine T_seq ?_
  refine T_region ?_
  refine R_op rfl rfl rfl (op_lssN (Has.t rfl) (Has.t rfl)) ?_
  refine R_nil ?_
  refine T_seq ?_
  refine T_cond (Has.t rfl) (fun hd => ?_) (fun hd => ?_)
  · simp only [decide_eq_true_eq] at hd
    refine T_focus 2 (i) rfl (frow_mix hd) (fun v => ?_)
    refine T_skip ?_
    refine T_seq ?_
    refine T_block ?_
    refine T_seq ?_
    refine T_region ?_
    refine R_op rfl rfl rfl (op_move (Has.t rfl)) ?_
    refine R_op rfl rfl rfl (op_assign (Has.t rfl)) ?_
    refine R_nil ?_
    refine T_seq ?_
    refine T_region ?_
    refine R_op rfl rfl rfl (op_move (Has.t rfl)) ?_
    refine R_op rfl rfl rfl (op_lenI Tryz.runUnderlying31 (Has.t rfl)) ?_
    refine R_op rfl rfl rfl (op_move (Has.cN 0)) ?_
    refine R_nil ?_
    refine T_block ?_
    refine T_loop2 (fun (k : Nat) (v : Value) => k ≤ z.length) (fun (k : Nat) (v : Value) => z.length - k) (fun (k : Nat) (v : Value) => [(1, PtrB B1 0), (3, Is (.slice (some ⟨B10, 0, none⟩) z.length z.length)), (4, NT .i64 i), (12, NT .i64 z.length), (13, NT .i64 i), (17, NT .i64 z.length), (18, NT .i64 k)]) (fun (k : Nat) (v : Value) => [Z, box B1 33 [NumsT z, NumM s], matH B10 30 49 5 (FRow NumT (mixT (fun i => tab z.length fun k => gm s i k) [] z.length i)) i v, rowO 49 5 v ((tab k fun k => gm s i k).map NumT)]) 0 v (Nat.zero_le _)
      (Sub.cons rfl (Sub.cons rfl (Sub.cons rfl (Sub.cons rfl (Sub.cons rfl (Sub.cons rfl (Sub.cons rfl Sub.nil))))))) (HSub.refl _) (fun k v hk => ?_)
    refine T_seq ?_
    refine T_region ?_
    refine R_op rfl rfl rfl (op_lssN (Has.t rfl) (Has.t rfl)) ?_
    refine R_nil ?_
    refine T_seq ?_
    refine T_cond (Has.t rfl) (fun he => ?_) (fun he => ?_)
    · simp only [decide_eq_true_eq] at he
      refine T_skip ?_
      refine T_seq ?_
      refine T_block ?_
      refine T_seq ?_
      refine T_region ?_
      refine R_op rfl rfl rfl (op_move (Has.t rfl)) ?_
      refine R_op rfl rfl rfl (op_assign (Has.t rfl)) ?_
      refine R_nil ?_
      refine T_seq ?_
      refine T_region ?_
      refine R_op rfl rfl rfl (op_ldBA Tryz.isAgg33 Tryz.sizeOf33 (Has.t rfl) (i := 1) rfl rfl rfl) ?_
      refine R_op rfl rfl rfl (op_move (Has.t rfl)) ?_
      refine R_op rfl rfl rfl (op_addN (Has.t rfl) (Has.cN 1) (by show _ < 9223372036854775808; first | omega | (simp only [lim]; omega))) ?_
      refine R_op rfl rfl rfl (op_move (Has.t rfl)) ?_
      refine R_op rfl rfl rfl (op_addN (Has.t rfl) (Has.cN 1) (by show _ < 9223372036854775808; first | omega | (simp only [lim]; omega))) ?_
      refine R_op rfl rfl rfl (op_call Tryz.call72 (c_At (i := (i : Int) + 1) (j := (k : Int) + 1) hsh (by omega)) ⟨(Has.t rfl), (Has.t rfl), (Has.t rfl), trivial⟩) ?_
      refine R_op rfl rfl rfl (op_move (Has.t rfl)) ?_
      refine R_op rfl rfl rfl (op_extract (Has.t rfl) rfl) ?_
      refine R_op rfl rfl rfl (op_extract (Has.t rfl) rfl) ?_
      refine R_new rfl rfl rfl (new_alloc (Ts := [Is (.bool false), Is (.slice none 0 0), Is (.bool false), Is (.slice none 0 0), Is (.slice none 0 0)]) Tryz.zeroValue49 rfl (fun V => Cells.cons' ⟨rfl, trivial⟩ (Cells.cons' ⟨rfl, trivial⟩ (Cells.cons' ⟨rfl, trivial⟩ (Cells.cons' ⟨rfl, trivial⟩ (Cells.cons' ⟨rfl, trivial⟩ (Cells.nil))))))) (fun B6 => ?_)
      refine R_stA Tryz.sizeOf49 (Has.t rfl) (Has.t rfl) rfl (i := 4) rfl (Nat.le_of_ble_eq_true rfl) rfl rfl ?_
      refine R_op rfl rfl rfl (op_assign (Has.t rfl)) ?_
      refine R_nil ?_
      refine Y.D_startA (m := 9) [] 8 3 rfl rfl ?_
      refine Y.D_hide (Ei := [(3, _)]) rfl rfl (Y.Srcs.cons (Y.Src.pre rfl rfl) Y.Srcs.nil) rfl rfl (S_plain rfl (op_move (Has.t rfl))) ?_
      refine Y.D_hide (Ei := [(4, _)]) rfl rfl (Y.Srcs.cons (Y.Src.pre rfl rfl) Y.Srcs.nil) rfl rfl (S_plain rfl (op_move (Has.t rfl))) ?_
      refine Y.D_hide (Ei := [(3, _)]) rfl rfl (Y.Srcs.cons (Y.Src.pre rfl rfl) Y.Srcs.nil) rfl rfl (S_plain rfl (op_move (Has.t rfl))) ?_
      refine Y.D_hide (Ei := [(4, _)]) rfl rfl (Y.Srcs.cons (Y.Src.pre rfl rfl) Y.Srcs.nil) rfl rfl (S_plain rfl (op_move (Has.t rfl))) ?_
      refine Y.D_hide (Ei := [(32, _), (33, _)]) rfl rfl (Y.Srcs.cons (Y.Src.op 2 rfl rfl) (Y.Srcs.cons (Y.Src.op 3 rfl rfl) Y.Srcs.nil)) rfl rfl (S_plain rfl (op_idxB Tryz.runUnderlying31 Tryz.sizeOf30 (Has.t rfl) (Has.t rfl) rfl (by omega) (by rw [Nat.mul_one, Nat.zero_add]))) ?_
      refine Y.D_hide (Ei := [(34, _)]) rfl rfl (Y.Srcs.cons (Y.Src.op 4 rfl rfl) Y.Srcs.nil) rfl rfl (S_plain rfl (op_ldH Tryz.isAgg30 Tryz.sizeOf30 (Has.t rfl) (j := 2) rfl)) ?_
      refine Y.D_hide (Ei := [(6, _)]) rfl rfl (Y.Srcs.cons (Y.Src.pre rfl rfl) Y.Srcs.nil) rfl rfl (S_plain rfl (op_ldBA Tryz.isAgg49 Tryz.sizeOf49 (Has.t rfl) (i := 4) rfl rfl rfl)) ?_
      refine Y.D_hide (Ei := [(36, _)]) rfl rfl (Y.Srcs.cons (Y.Src.op 6 rfl rfl) Y.Srcs.nil) rfl rfl (S_plain rfl (op_bslice (xs := [.tmp 36]) Tryz.runUnderlying30 Tryz.sizeOf49 Tryz.zeroValue49 (Elems.cons (Has.t rfl) Elems.nil) rfl rfl rfl)) ?_
      refine Y.D_app (Ei := [(35, _), (37, _)]) rfl rfl rfl rfl (Y.Srcs.cons (Y.Src.op 5 rfl rfl) (Y.Srcs.cons (Y.Src.op 7 rfl rfl) Y.Srcs.nil)) rfl (A_append (inf := Tryz.t49) und_30 info_49 rfl rfl rfl (Has.t rfl) (Has.t rfl) (by simp) (fun T hT => by simp at hT; subst hT; exact El.ag rfl) (by show _ * 88 ≤ _; simp only [List.length_map, tab_len, List.length_cons, List.length_nil]; omega) (by simp only [List.length_map, tab_len, List.length_cons, List.length_nil]; omega)) ?_
      refine Y.D_done mixed rfl (by kernel_rfl) rfl (by simp [Y.okP]) rfl rfl (Y.F_val (Y.F_val (Y.F_val (Y.F_val (Y.F_val (Y.F_val (Y.F_val (Y.F_val (Y.F_app (fun v2 => Y.F_nil ?_))))))))))
      refine R_op rfl rfl rfl (op_idxB Tryz.runUnderlying31 Tryz.sizeOf30 (Has.t rfl) (Has.t rfl) rfl (by omega) (by rw [Nat.mul_one, Nat.zero_add])) ?_
      refine R_stH Tryz.sizeOf30 (Has.t rfl) (Has.t rfl) (by simp only [FRow, List.length_map, mix_len]; omega) (j := 2) (l := 5) rfl rfl rfl ?_
      refine R_nil ?_
      refine T_blk ?_
      refine T_region ?_
      refine R_op rfl rfl rfl (op_addN (Has.t rfl) (Has.cN 1) (by show _ < 9223372036854775808; first | omega | (simp only [lim]; omega))) ?_
      refine R_op rfl rfl rfl (op_move (Has.t rfl)) ?_
      refine R_nil ?_
      refine T_keep [0, 1, 2, 5] rfl (by decide) ?_
      refine T_again (k + 1, v2) he (by dsimp only; omega) (Sub.cons rfl (Sub.cons rfl (Sub.cons rfl (Sub.cons rfl (Sub.cons rfl (Sub.cons rfl (Sub.cons rfl Sub.nil))))))) (HSub.cons (fun _ _ _ h => h) (HSub.cons (fun _ _ _ h => h) (HSub.cons (fun _ _ _ h => h) (HSub.cons (rowO_of (by rw [tab_succ, List.map_append, pkm_at hd he]; rfl)) HSub.nil))))
    · simp only [decide_eq_false_iff_not] at he
      obtain rfl : k = z.length := Nat.le_antisymm hk (by omega)
      refine T_exit rfl ?_
      refine T_blk ?_
      refine T_unfocus 2 3 rfl rfl (by decide) (by simp only [FRow, List.length_map, mix_len]; omega) ?_
      refine T_region ?_
      refine R_op rfl rfl rfl (op_addN (Has.t rfl) (Has.cN 1) (by show _ < 9223372036854775808; first | omega | (simp only [lim]; omega))) ?_
      refine R_op rfl rfl rfl (op_move (Has.t rfl)) ?_
      refine R_nil ?_
      refine T_keep [0, 1, 2] rfl (by decide) ?_
      refine T_again (i + 1) hd (by omega) (Sub.cons rfl (Sub.cons rfl (Sub.cons rfl (Sub.cons rfl Sub.nil)))) (HSub.cons (fun _ _ _ h => h) (HSub.cons (fun _ _ _ h => h) (HSub.cons (matO_of (by rw [set_FRow, ← mix_set (f := (fun i => tab z.length fun k => gm s i k))])) HSub.nil)))
  · simp only [decide_eq_false_iff_not] at hd
    obtain rfl : i = z.length := Nat.le_antisymm hi (by omega)
    refine T_exit rfl ?_
    refine T_seq ?_
    refine T_region ?_
    refine R_op rfl rfl rfl (op_move (Has.t rfl)) ?_
    refine R_op rfl rfl rfl (op_assign (Has.t rfl)) ?_
    refine R_nil ?_
    exact T_retO B10 trivial [0, 2] ⟨⟨_, rfl, fun _ _ _ h => h⟩, ⟨_, rfl, (matO_of (by rw [mix_fin]))⟩, trivial⟩ (by decide) (rvs1 rfl (rv_tmp rfl))
theorem c_scat {z : List Qi} {s : List (List Qi)} (hsh : Shp s z.length z.length) (hl : z.length ≤ 8) : Fun Tryz.prog 80 [NetT z s] (NumM s) := (c_scatO hsh hl).fun fun B _ v S V h1 h2 => by
  have h3 := frz_matF (s := 5) (M := tab z.length fun i => tab z.length fun k => gm s i k) (tab_len _ _).symm v S V h1 h2
  rw [← mat_tab hsh] at h3; exact h3
set_option maxRecDepth 20000 in
theorem c_refs {z : List Qi} {s : List (List Qi)} (hl : z.length ≤ 8) : Fun Tryz.prog 167 [NetT z s] (NumsT z) := by
  refine Fun.intro Tryz.func167 rfl Tryz.ntmps167 rfl (fun cx => ?_)
  refine T_seq ?_
  refine T_region ?_
  refine R_new rfl rfl rfl (new_box (Has.t rfl)) (fun B1 => ?_)
  refine R_op rfl rfl rfl (op_assign Has.c) ?_
  refine R_nil ?_
  refine T_seq ?_
  refine T_region ?_
  refine R_op rfl rfl rfl (op_ldBA Tryz.isAgg33 Tryz.sizeOf33 (Has.t rfl) (i := 0) rfl rfl rfl) ?_
  refine R_op rfl rfl rfl (op_call Tryz.call74 c_Ports ⟨(Has.t rfl), trivial⟩) ?_
  refine R_new rfl rfl rfl (new_makeO (T := NumT Qi.zero) (i := Tryz.t49) und_30 info_49 rfl rfl (Has.t rfl) rfl num_zero_p (El.ag rfl) (by show 88 * _ ≤ _; omega) (by omega)) (fun B7 => ?_)
  refine R_op rfl rfl rfl (op_assign (Has.t rfl)) ?_
  refine R_nil ?_
  refine T_seq ?_
  refine T_seq ?_
  refine T_region ?_
  refine R_op rfl rfl rfl (op_move (Has.t rfl)) ?_
  refine R_op rfl rfl rfl (op_lenO Tryz.runUnderlying30 (Has.t rfl) (i := 1) rfl (show ((List.replicate z.length (NumT Qi.zero)).length : Int) = ((z.length : Nat) : Int) by simp)) ?_
  refine R_op rfl rfl rfl (op_move (Has.cN 0)) ?_
  refine R_nil ?_
  refine T_block ?_
  refine T_loop2 (fun (k : Nat) (out : List Qi) => FillS (fun i => gv z i) z.length out k) (fun (k : Nat) (out : List Qi) => z.length - k) (fun (k : Nat) (out : List Qi) => [(1, PtrB B1 0), (3, Is B7), (9, NT .i64 z.length), (10, NT .i64 k)]) (fun (k : Nat) (out : List Qi) => [box B1 33 [NumsT z, NumM s], rowO 49 5 B7 (out.map NumT)]) 0 (List.replicate z.length Qi.zero) (FillS.start _ _ _)
    (Sub.cons rfl (Sub.cons rfl (Sub.cons rfl (Sub.cons rfl Sub.nil)))) (HSub.cons (fun _ _ _ h => h) (HSub.cons (rowO_of (rep_mapF NumT _ _)) HSub.nil)) (fun k out hS => ?_)
  refine T_seq ?_
  refine T_region ?_
  refine R_op rfl rfl rfl (op_lssN (Has.t rfl) (Has.t rfl)) ?_
  refine R_nil ?_
  refine T_seq ?_
  refine T_cond (Has.t rfl) (fun hk => ?_) (fun hk => ?_)
  · simp only [decide_eq_true_eq] at hk
    have hlen := hS.len
    refine T_skip ?_
    refine T_seq ?_
    refine T_block ?_
    refine T_seq ?_
    refine T_region ?_
    refine R_op rfl rfl rfl (op_move (Has.t rfl)) ?_
    refine R_op rfl rfl rfl (op_assign (Has.t rfl)) ?_
    refine R_nil ?_
    refine T_region ?_
    refine R_op rfl rfl rfl (op_move (Has.t rfl)) ?_
    refine R_op rfl rfl rfl (op_move (Has.t rfl)) ?_
    refine R_op rfl rfl rfl (op_ldBA Tryz.isAgg33 Tryz.sizeOf33 (Has.t rfl) (i := 0) rfl rfl rfl) ?_
    refine R_op rfl rfl rfl (op_move (Has.t rfl)) ?_
    refine R_op rfl rfl rfl (op_addN (Has.t rfl) (Has.cN 1) (by show _ < 9223372036854775808; first | omega | (simp only [lim]; omega))) ?_
    refine R_op rfl rfl rfl (op_call Tryz.call71 (c_Ref (i := (k : Int) + 1) (by omega)) ⟨(Has.t rfl), (Has.t rfl), trivial⟩) ?_
    refine R_op rfl rfl rfl (op_move (Has.t rfl)) ?_
    refine R_op rfl rfl rfl (op_extract (Has.t rfl) rfl) ?_
    refine R_op rfl rfl rfl (op_extract (Has.t rfl) rfl) ?_
    refine R_op rfl rfl rfl (op_idxO Tryz.runUnderlying30 Tryz.sizeOf49 (Has.t rfl) (Has.t rfl) rfl (i := 1) rfl (by first | omega | (simp; omega)) rfl) ?_
    refine R_stO Tryz.sizeOf49 (Has.t rfl) (Has.t rfl) (El.ag rfl) (i := 1) rfl rfl (by first | omega | (simp; omega)) rfl ?_
    refine R_nil ?_
    refine T_blk ?_
    refine T_region ?_
    refine R_op rfl rfl rfl (op_addN (Has.t rfl) (Has.cN 1) (by show _ < 9223372036854775808; first | omega | (simp only [lim]; omega))) ?_
    refine R_op rfl rfl rfl (op_move (Has.t rfl)) ?_
    refine R_nil ?_
    refine T_again (k + 1, _) (hS.next hk (pkv_at hk)) (by dsimp only; omega) (Sub.cons rfl (Sub.cons rfl (Sub.cons rfl (Sub.cons rfl Sub.nil)))) (HSub.cons (fun _ _ _ h => h) (HSub.cons (rowO_of (set_mapF NumT _ _ _)) HSub.nil))
  · simp only [decide_eq_false_iff_not] at hk
    obtain rfl : k = z.length := Nat.le_antisymm hS.kle (by omega)
    have hfin := hS.fin.trans (list_tab (l := z) rfl).symm
    refine T_exit rfl ?_
    refine T_freeze (i := 1) (tt := 3) rfl rfl frz_row ?_
    refine T_seq ?_
    refine T_region ?_
    refine R_op rfl rfl rfl (op_move (Has.t rfl)) ?_
    refine R_op rfl rfl rfl (op_assign (Has.t rfl)) ?_
    refine R_nil ?_
    refine T_ret1 rfl (rv_to (rv_tmp rfl) ?_)
    exact (slT_of (by rw [hfin]))
end Go.Proofs.YtppibhcfaahgpaaGreat
namespace Go.Proofs.YtppibhcfaahgpaaGreat
open Go Go.RowKit
theorem meth_49_Div (v : Value) (w : World) : (method (Tryz.prog.types.size + Made.depth) 49 v "Div").run Tryz.prog w = .ok (174, v) w := by kernel_rfl
theorem meth_49_Sub (v : Value) (w : World) : (method (Tryz.prog.types.size + Made.depth) 49 v "Sub").run Tryz.prog w = .ok (58, v) w := by kernel_rfl
end Go.Proofs.YtppibhcfaahgpaaGreat
namespace Go.Proofs.YtppibhcfaahgpaaGreat
open Go Go.RowKit
set_option maxRecDepth 20000 in
theorem c_carO {p c : List (List Qi)} {n m L : Nat} (hp : Shp p n m) (hc : Shp c m m) (hfp : FitM p L) (hfc : FitM c L) (hL1 : 1 ≤ L) (hL : L ≤ 100000) (hn1 : 1 ≤ n) (hm1 : 1 ≤ m) (hn : n ≤ 8) (hm : m ≤ 8) : FunO Tryz.prog 82 [NumM p, NumM c] [] (Nat) (fun B => Is (.slice (some ⟨B, 0, none⟩) n n)) (fun B => [matO B 30 49 5 (FRow NumT (carM p c))]) (fun _ => True) := by
  have hpl := hp.1
  have hf1 := mulM_fit (n := n) (m := m) hfp hfc hL1 hL1 hm
  have hf2 := adjM_fit (n := n) (m := m) hfp hL1
  have hs1 : Shp (mulM p c n m m) n m := mulM_shp
  have hs2 : Shp (adjM p n m) m n := adjM_shp
  refine FunO.intro Tryz.func82 rfl Tryz.ntmps82 rfl (fun cx Z => ?_)
  refine T_seq ?_
  refine T_region ?_
  refine R_op rfl rfl rfl (op_assign Has.c) ?_
  refine R_nil ?_
  refine T_seq ?_
  refine T_seq ?_
  refine T_region ?_
  refine R_op rfl rfl rfl (op_move (Has.t rfl)) ?_
  refine R_op rfl rfl rfl (op_len Tryz.runUnderlying31 (Has.t rfl) len_map) ?_
  refine R_op rfl rfl rfl (op_eqlN (Has.t rfl) (Has.cN 0)) ?_
  refine R_nil ?_
  refine T_cond (Has.t rfl) (fun h0 => ?_) (fun h0 => ?_)
  · simp only [decide_eq_true_eq] at h0
    omega
  · refine T_skip ?_
    refine T_seq ?_
    refine T_region ?_
    refine R_op rfl rfl rfl (op_move (Has.t rfl)) ?_
    refine R_op rfl rfl rfl (op_move (Has.t rfl)) ?_
    refine R_op rfl rfl rfl (op_call Tryz.call153 (c_Prod hp hc hfp hfc hL1 hL1 (by omega) (by omega) hn1 hm1 hn hm hm) ⟨(Has.t rfl), (Has.t rfl), trivial⟩) ?_
    refine R_op rfl rfl rfl (op_move (Has.t rfl)) ?_
    refine R_op rfl rfl rfl (op_extract (Has.t rfl) rfl) ?_
    refine R_op rfl rfl rfl (op_extract (Has.t rfl) rfl) ?_
    refine R_op rfl rfl rfl (op_assign (Has.t rfl)) ?_
    refine R_op rfl rfl rfl (op_assign (Has.t rfl)) ?_
    refine R_nil ?_
    refine T_seq ?_
    refine T_region ?_
    refine R_op rfl rfl rfl (op_move (Has.t rfl)) ?_
    refine R_op rfl rfl rfl (op_call Tryz.call154 (c_Adj hp hn1 hn hm) ⟨(Has.t rfl), trivial⟩) ?_
    refine R_op rfl rfl rfl (op_move (Has.t rfl)) ?_
    refine R_op rfl rfl rfl (op_extract (Has.t rfl) rfl) ?_
    refine R_op rfl rfl rfl (op_extract (Has.t rfl) rfl) ?_
    refine R_op rfl rfl rfl (op_assign (Has.t rfl)) ?_
    refine R_op rfl rfl rfl (op_assign (Has.t rfl)) ?_
    refine R_nil ?_
    refine T_seq ?_
    refine T_region ?_
    refine R_op rfl rfl rfl (op_move (Has.t rfl)) ?_
    refine R_op rfl rfl rfl (op_move (Has.t rfl)) ?_
    refine R_call0 Tryz.call153 (c_ProdO (a := mulM p c n m m) (b := adjM p n m) hs1 hs2 hf1 hf2 (by omega) hL1 (by omega) (by omega) hn1 hm1 hn hm hn) ⟨(Has.t rfl), (Has.t rfl), trivial⟩ rfl (fun B28 _ => ?_)
    refine R_op rfl rfl rfl (op_move (Has.t rfl)) ?_
    refine R_op rfl rfl rfl (op_extract (Has.t rfl) rfl) ?_
    refine R_op rfl rfl rfl (op_extract (Has.t rfl) rfl) ?_
    refine R_op rfl rfl rfl (op_assign (Has.t rfl)) ?_
    refine R_op rfl rfl rfl (op_assign (Has.t rfl)) ?_
    refine R_nil ?_
    refine T_seq ?_
    refine T_region ?_
    refine R_op rfl rfl rfl (op_move (Has.t rfl)) ?_
    refine R_op rfl rfl rfl (op_assign (Has.t rfl)) ?_
    refine R_nil ?_
    exact T_retO B28 trivial [0, 1] ⟨⟨_, rfl, fun _ _ _ h => h⟩, ⟨_, rfl, (matO_of (by rw [car_eq hp hc]))⟩, trivial⟩ (by decide) (rvs1 rfl (rv_tmp rfl))
theorem c_car {p c : List (List Qi)} {n m L : Nat} (hp : Shp p n m) (hc : Shp c m m) (hfp : FitM p L) (hfc : FitM c L) (hL1 : 1 ≤ L) (hL : L ≤ 100000) (hn1 : 1 ≤ n) (hm1 : 1 ≤ m) (hn : n ≤ 8) (hm : m ≤ 8) : Fun Tryz.prog 82 [NumM p, NumM c] (NumM (carM p c)) := (c_carO hp hc hfp hfc hL1 hL hn1 hm1 hn hm).fun fun B _ v S V h1 h2 => frz_matF (s := 5) (M := carM p c) (by rw [carM_shp.1, hp.1]) v S V h1 h2
set_option maxHeartbeats 1000000 in
set_option maxRecDepth 20000 in
theorem c_Factor {z : List Qi} {s c : List (List Qi)} {g t0 : Qi} {L : Nat} (hz : FitL z L) (hs : FitM s L) (hc : FitM c L) (hg : FitC g L) (ht : FitC t0 L) (hL1 : 1 ≤ L) (hL : L ≤ 4000) (hsh : Shp s z.length z.length) (hch : Shp c z.length z.length) (hl : z.length ≤ 8) : Fun Tryz.prog 17 [NoisyT z s c, NumT g, NumT t0] (TupT [NumT (facR z s c g t0).1, IntT .i64 (facR z s c g t0).2]) := by
  haveI := hg; haveI := ht
  haveI hz0 : FitC Qi.zero 1 := FitC.zero (Nat.le_refl 1)
  have d1 : (dg (((1 : Nat) : Int)).natAbs).length = 1 := by decide
  have d2 : (dg (Int.natAbs 1)).length = 1 := by decide
  have hcl := hch.1
  refine Fun.intro Tryz.func17 rfl Tryz.ntmps17 rfl (fun cx => ?_)
  refine T_seq ?_
  refine T_region ?_
  refine R_new rfl rfl rfl (new_box (Has.t rfl)) (fun B3 => ?_)
  refine R_new rfl rfl rfl (new_box (Has.t rfl)) (fun B4 => ?_)
  refine R_new rfl rfl rfl (new_box (Has.t rfl)) (fun B5 => ?_)
  refine R_new rfl rfl rfl (new_alloc (Ts := [Is (.bool false), Is (.slice none 0 0), Is (.bool false), Is (.slice none 0 0), Is (.slice none 0 0)]) Tryz.zeroValue49 rfl (fun V => Cells.cons' ⟨rfl, trivial⟩ (Cells.cons' ⟨rfl, trivial⟩ (Cells.cons' ⟨rfl, trivial⟩ (Cells.cons' ⟨rfl, trivial⟩ (Cells.cons' ⟨rfl, trivial⟩ (Cells.nil))))))) (fun B6 => ?_)
  refine R_op rfl rfl rfl (op_assign (Has.cN 0)) ?_
  refine R_nil ?_
  refine T_seq ?_
  refine T_region ?_
  refine R_new rfl rfl rfl (new_alloc (Ts := [Is (.bool false), Is (.slice none 0 0), Is (.bool false), Is (.slice none 0 0), Is (.slice none 0 0)]) Tryz.zeroValue49 rfl (fun V => Cells.cons' ⟨rfl, trivial⟩ (Cells.cons' ⟨rfl, trivial⟩ (Cells.cons' ⟨rfl, trivial⟩ (Cells.cons' ⟨rfl, trivial⟩ (Cells.cons' ⟨rfl, trivial⟩ (Cells.nil))))))) (fun B8 => ?_)
  refine R_nil ?_
  refine T_seq ?_
  refine T_seq ?_
  refine D_start (m := 6) ?_
  refine D_step (Ei := [(5, _)]) rfl rfl (Srcs.cons (Src.pre rfl rfl) Srcs.nil) (S_plain rfl (op_ldBA Tryz.isAgg49 Tryz.sizeOf49 (Has.t rfl) (i := 2) rfl rfl rfl)) ?_
  refine D_step (Ei := [(18, _)]) rfl rfl (Srcs.cons (Src.op 0 rfl rfl) Srcs.nil) (S_plain rfl (op_call Tryz.call32 c_Real ⟨(Has.t rfl), trivial⟩)) ?_
  refine D_step (Ei := [(19, _)]) rfl rfl (Srcs.cons (Src.op 1 rfl rfl) Srcs.nil) (S_plain rfl (op_not (Has.t rfl))) ?_
  refine D_step (Ei := [(20, _)]) rfl rfl (Srcs.cons (Src.op 2 rfl rfl) Srcs.nil) (S_plain rfl (op_move (Has.t rfl))) ?_
  refine D_step (Ei := [(5, _), (21, _)]) rfl rfl (Srcs.cons (Src.pre rfl rfl) (Srcs.cons (Src.op 3 rfl rfl) Srcs.nil)) (S_when rfl rfl (Has.t rfl) (fun h => op_ldBA Tryz.isAgg49 Tryz.sizeOf49 (Has.t rfl) (i := 2) rfl rfl rfl)) ?_
  refine D_step (Ei := [(21, _)]) rfl rfl (Srcs.cons (Src.op 3 rfl rfl) Srcs.nil) (S_when rfl rfl (Has.t rfl) (fun h => op_call Tryz.call28 (c_Int (n := 0) (by decide) (by decide)) ⟨(Has.cN 0), trivial⟩)) ?_
  refine D_done mixed rfl (by kernel_rfl) (F_val (F_val (F_val (F_val (F_val (F_val (F_nil ?_)))))))
  refine R_step rfl rfl (S_when rfl rfl (Has.t rfl) (fun h => op_call Tryz.call33 (c_Cmp (x := t0) (y := Qi.zero) (M := 1) (by omega)) ⟨(Has.w rfl h), (Has.w rfl h), trivial⟩)) ?_
  refine R_step rfl rfl (S_when rfl rfl (Has.t rfl) (fun h => op_leq (Has.w rfl h) Has.c)) ?_
  refine R_op rfl rfl rfl (op_or (Has.t rfl) (fun h => (Has.w rfl h))) ?_
  refine R_nil ?_
  refine T_cond (Has.t rfl) (fun hb => ?_) (fun hb => ?_)
  · rw [npos_eq] at hb
    simp only [Bool.not_eq_true'] at hb
    have he : facR z s c g t0 = (Qi.zero, 1) := by rw [facR, if_pos hb]
    refine T_seq ?_
    refine T_region ?_
    refine R_op rfl rfl rfl (op_ldBA Tryz.isAgg49 Tryz.sizeOf49 (Has.t rfl) (i := 4) rfl rfl rfl) ?_
    refine R_stA Tryz.sizeOf49 (Has.t rfl) (Has.t rfl) rfl (i := 3) rfl (Nat.le_of_ble_eq_true rfl) rfl rfl ?_
    refine R_op rfl rfl rfl (op_assign (Has.cN 1)) ?_
    refine R_nil ?_
    refine T_ret2 rfl (rv_to (rv_cell Tryz.isAgg49 Tryz.sizeOf49 rfl (i := 3) rfl rfl) ?_) (rv_to (rv_tmp rfl) ?_)
    · exact (fun v V k => by rw [he]; exact num_zero v V k)
    · exact (fun v V k => by rw [he]; exact k)
  · rw [npos_eq] at hb
    simp only [Bool.not_eq_false'] at hb
    have hb2 : ¬ posQ t0 = false := by rw [hb]; decide
    refine T_skip ?_
    refine T_seq ?_
    refine T_seq ?_
    refine T_region ?_
    refine R_op rfl rfl rfl (op_fldB fa_35_1 (Has.t rfl) rfl) ?_
    refine R_op rfl rfl rfl (op_ldB Tryz.isAgg31 Tryz.sizeOf31 (Has.t rfl) (i := 0) rfl rfl) ?_
    refine R_op rfl rfl rfl (op_len Tryz.runUnderlying31 (Has.t rfl) len_map) ?_
    refine R_op rfl rfl rfl (op_neqN (Has.t rfl) (Has.cN 2)) ?_
    refine R_nil ?_
    refine T_cond (Has.t rfl) (fun hd => ?_) (fun hd => ?_)
    · have hd2 : z.length ≠ 2 := by rw [← hcl]; simpa using hd
      have he : facR z s c g t0 = (Qi.zero, 4) := by rw [facR, if_neg hb2, if_pos hd2]
      refine T_seq ?_
      refine T_region ?_
      refine R_op rfl rfl rfl (op_ldBA Tryz.isAgg49 Tryz.sizeOf49 (Has.t rfl) (i := 4) rfl rfl rfl) ?_
      refine R_stA Tryz.sizeOf49 (Has.t rfl) (Has.t rfl) rfl (i := 3) rfl (Nat.le_of_ble_eq_true rfl) rfl rfl ?_
      refine R_op rfl rfl rfl (op_assign (Has.cN 4)) ?_
      refine R_nil ?_
      refine T_ret2 rfl (rv_to (rv_cell Tryz.isAgg49 Tryz.sizeOf49 rfl (i := 3) rfl rfl) ?_) (rv_to (rv_tmp rfl) ?_)
      · exact (fun v V k => by rw [he]; exact num_zero v V k)
      · exact (fun v V k => by rw [he]; exact k)
    · have hd2 : z.length = 2 := by rw [← hcl]; simpa using hd
      have hd3 : ¬ z.length ≠ 2 := fun h => h hd2
      have hsh2 := hsh
      rw [hd2] at hsh hch
      have hs1 := hsh.1
      have hc1 := hch.1
      have hr0 := hsh.row (i := 0) (by decide)
      have hr1 := hsh.row (i := 1) (by decide)
      have hWf := facW_fit hs hg hL1
      have hW : Shp (facW s g) 1 2 := ⟨rfl, fun r hr => by have := List.mem_singleton.1 hr; subst this; rfl⟩
      have hXs : Shp (carM (facW s g) c) 1 1 := carM_shp
      have hX0 := hXs.row (i := 0) (by decide)
      have hp1 := pk1 (z := z) (by omega)
      haveI f1 : FitC (gm s 1 0) L := hs.get hL1 1 0
      haveI f2 : FitC (gm s 0 0) L := hs.get hL1 0 0
      haveI f3 : FitC (pkv z ((1 : Nat) : Int)) L := by rw [hp1]; exact hz.get hL1 0
      haveI f4 := facX_fit hs hc hg hL1 (by omega)
      have hpd : gm s 1 0 * (gm s 1 0).conj * (t0 * pkv z ((1 : Nat) : Int)) * (oneQ - g * g.conj) = facD z s g t0 := by rw [hp1, Qi.mul_conj_norm, Qi.mul_conj_norm, facD, Qi.mul_assoc']
      refine T_skip ?_
      refine T_seq ?_
      refine T_region ?_
      refine R_op rfl rfl rfl (op_fldB fa_35_0 (Has.t rfl) rfl) ?_
      refine R_op rfl rfl rfl (op_ldBA Tryz.isAgg33 Tryz.sizeOf33 (Has.t rfl) (i := 0) rfl rfl rfl) ?_
      refine R_op rfl rfl rfl (op_call Tryz.call80 (c_scat hsh2 (by omega)) ⟨(Has.t rfl), trivial⟩) ?_
      refine R_op rfl rfl rfl (op_call Tryz.call28 (c_Int (n := 1) (by decide) (by decide)) ⟨(Has.cN 1), trivial⟩) ?_
      refine R_op rfl rfl rfl (op_call Tryz.call81 c_of ⟨(Has.t rfl), trivial⟩) ?_
      refine R_new rfl rfl rfl (new_alloc (Ts := [Is (.bool false), Is (.slice none 0 0), Is (.bool false), Is (.slice none 0 0), Is (.slice none 0 0)]) Tryz.zeroValue49 rfl (fun V => Cells.cons' ⟨rfl, trivial⟩ (Cells.cons' ⟨rfl, trivial⟩ (Cells.cons' ⟨rfl, trivial⟩ (Cells.cons' ⟨rfl, trivial⟩ (Cells.cons' ⟨rfl, trivial⟩ (Cells.nil))))))) (fun B10 => ?_)
      refine R_op rfl rfl rfl (op_assign (Has.t rfl)) ?_
      refine R_stA Tryz.sizeOf49 (Has.t rfl) (Has.t rfl) rfl (i := 5) rfl (Nat.le_of_ble_eq_true rfl) rfl rfl ?_
      refine R_nil ?_
      refine T_seq ?_
      refine T_region ?_
      refine R_op rfl rfl rfl (op_fldB fa_35_0 (Has.t rfl) rfl) ?_
      refine R_op rfl rfl rfl (op_ldBA Tryz.isAgg33 Tryz.sizeOf33 (Has.t rfl) (i := 0) rfl rfl rfl) ?_
      refine R_op rfl rfl rfl (op_call Tryz.call71 (c_Ref (i := ((1 : Nat) : Int)) (by omega)) ⟨(Has.t rfl), (Has.cN 1), trivial⟩) ?_
      refine R_op rfl rfl rfl (op_move (Has.t rfl)) ?_
      refine R_op rfl rfl rfl (op_extract (Has.t rfl) rfl) ?_
      refine R_op rfl rfl rfl (op_extract (Has.t rfl) rfl) ?_
      refine R_new rfl rfl rfl (new_alloc (Ts := [Is (.bool false), Is (.slice none 0 0), Is (.bool false), Is (.slice none 0 0), Is (.slice none 0 0)]) Tryz.zeroValue49 rfl (fun V => Cells.cons' ⟨rfl, trivial⟩ (Cells.cons' ⟨rfl, trivial⟩ (Cells.cons' ⟨rfl, trivial⟩ (Cells.cons' ⟨rfl, trivial⟩ (Cells.cons' ⟨rfl, trivial⟩ (Cells.nil))))))) (fun B11 => ?_)
      refine R_stA Tryz.sizeOf49 (Has.t rfl) (Has.t rfl) rfl (i := 6) rfl (Nat.le_of_ble_eq_true rfl) rfl rfl ?_
      refine R_op rfl rfl rfl (op_assign (Has.t rfl)) ?_
      refine R_nil ?_
      refine T_seq ?_
      refine T_sub (E' := [(3, _), (4, _), (5, _), (6, _), (7, _), (8, _), (9, _), (10, _), (11, _)]) (Sub.cons rfl (Sub.cons rfl (Sub.cons rfl (Sub.cons rfl (Sub.cons rfl (Sub.cons rfl (Sub.cons rfl (Sub.cons rfl (Sub.cons rfl Sub.nil))))))))) ?_
      refine D_start (m := 18) ?_
      refine D_step (Ei := [(9, _)]) rfl rfl (Srcs.cons (Src.pre rfl rfl) Srcs.nil) (S_plain rfl (op_move (Has.t rfl))) ?_
      refine D_step (Ei := [(44, _)]) rfl rfl (Srcs.cons (Src.op 0 rfl rfl) Srcs.nil) (S_plain rfl (op_idx Tryz.runUnderlying31 Tryz.sizeOf30 (Has.t rfl) (Has.cN 1) rfl (map_get (getD_some (d := []) (by omega))))) ?_
      refine D_step (Ei := [(45, _)]) rfl rfl (Srcs.cons (Src.op 1 rfl rfl) Srcs.nil) (S_plain rfl (op_ld Tryz.isAgg30 Tryz.sizeOf30 (Has.t rfl))) ?_
      refine D_step (Ei := [(46, _)]) rfl rfl (Srcs.cons (Src.op 2 rfl rfl) Srcs.nil) (S_plain rfl (op_idx Tryz.runUnderlying30 Tryz.sizeOf49 (Has.t rfl) (Has.cN 0) rfl (map_get (getD_some (d := Qi.zero) (by rw [hr1]; decide))))) ?_
      refine D_step (Ei := [(47, _)]) rfl rfl (Srcs.cons (Src.op 3 rfl rfl) Srcs.nil) (S_plain rfl (op_ld Tryz.isAgg49 Tryz.sizeOf49 (Has.t rfl))) ?_
      refine D_step (Ei := [(48, _)]) rfl rfl (Srcs.cons (Src.op 4 rfl rfl) Srcs.nil) (S_plain rfl (op_iface mkif_49 (Has.t rfl))) ?_
      refine D_step (Ei := [(4, _)]) rfl rfl (Srcs.cons (Src.pre rfl rfl) Srcs.nil) (S_plain rfl (op_ldBA Tryz.isAgg49 Tryz.sizeOf49 (Has.t rfl) (i := 1) rfl rfl rfl)) ?_
      refine D_step (Ei := [(49, _), (50, _)]) rfl rfl (Srcs.cons (Src.op 5 rfl rfl) (Srcs.cons (Src.op 6 rfl rfl) Srcs.nil)) (S_plain rfl (op_invoke meth_49_Mul Tryz.call56 (c_Mul (by omega)) (Has.t rfl) ⟨(Has.t rfl), trivial⟩)) ?_
      refine D_step (Ei := [(10, _)]) rfl rfl (Srcs.cons (Src.pre rfl rfl) Srcs.nil) (S_plain rfl (op_ldBA Tryz.isAgg49 Tryz.sizeOf49 (Has.t rfl) (i := 5) rfl rfl rfl)) ?_
      refine D_step (Ei := [(52, _)]) rfl rfl (Srcs.cons (Src.op 8 rfl rfl) Srcs.nil) (S_plain rfl (op_iface mkif_49 (Has.t rfl))) ?_
      refine D_step (Ei := [(4, _)]) rfl rfl (Srcs.cons (Src.pre rfl rfl) Srcs.nil) (S_plain rfl (op_ldBA Tryz.isAgg49 Tryz.sizeOf49 (Has.t rfl) (i := 1) rfl rfl rfl)) ?_
      refine D_step (Ei := [(54, _)]) rfl rfl (Srcs.cons (Src.op 10 rfl rfl) Srcs.nil) (S_plain rfl (op_iface mkif_49 (Has.t rfl))) ?_
      refine D_step (Ei := [(9, _)]) rfl rfl (Srcs.cons (Src.pre rfl rfl) Srcs.nil) (S_plain rfl (op_move (Has.t rfl))) ?_
      refine D_step (Ei := [(56, _)]) rfl rfl (Srcs.cons (Src.op 12 rfl rfl) Srcs.nil) (S_plain rfl (op_idx Tryz.runUnderlying31 Tryz.sizeOf30 (Has.t rfl) (Has.cN 0) rfl (map_get (getD_some (d := []) (by omega))))) ?_
      refine D_step (Ei := [(57, _)]) rfl rfl (Srcs.cons (Src.op 13 rfl rfl) Srcs.nil) (S_plain rfl (op_ld Tryz.isAgg30 Tryz.sizeOf30 (Has.t rfl))) ?_
      refine D_step (Ei := [(58, _)]) rfl rfl (Srcs.cons (Src.op 14 rfl rfl) Srcs.nil) (S_plain rfl (op_idx Tryz.runUnderlying30 Tryz.sizeOf49 (Has.t rfl) (Has.cN 0) rfl (map_get (getD_some (d := Qi.zero) (by rw [hr0]; decide))))) ?_
      refine D_step (Ei := [(59, _)]) rfl rfl (Srcs.cons (Src.op 15 rfl rfl) Srcs.nil) (S_plain rfl (op_ld Tryz.isAgg49 Tryz.sizeOf49 (Has.t rfl))) ?_
      refine D_step (Ei := [(55, _), (60, _)]) rfl rfl (Srcs.cons (Src.op 11 rfl rfl) (Srcs.cons (Src.op 16 rfl rfl) Srcs.nil)) (S_plain rfl (op_invoke meth_49_Mul Tryz.call56 (c_Mul (by omega)) (Has.t rfl) ⟨(Has.t rfl), trivial⟩)) ?_
      refine D_done mixed rfl (by kernel_rfl) (F_val (F_val (F_val (F_val (F_val (F_val (F_val (F_val (F_val (F_val (F_val (F_val (F_val (F_val (F_val (F_val (F_val (F_val (F_nil ?_)))))))))))))))))))
      refine R_op rfl rfl rfl (op_invoke meth_49_Sub Tryz.call58 (c_Sub (by omega)) (Has.t rfl) ⟨(Has.t rfl), trivial⟩) ?_
      refine R_op rfl rfl rfl (op_bslice (xs := [.tmp 51, .tmp 62]) Tryz.runUnderlying30 Tryz.sizeOf49 Tryz.zeroValue49 (Elems.cons (Has.t rfl) (Elems.cons (Has.t rfl) Elems.nil)) rfl rfl rfl) ?_
      refine R_op rfl rfl rfl (op_bslice (xs := [.tmp 63]) Tryz.runUnderlying31 Tryz.sizeOf30 Tryz.zeroValue30 (Elems.cons (Has.t rfl) Elems.nil) rfl rfl rfl) ?_
      refine R_op rfl rfl rfl (op_assign (Has.t rfl)) ?_
      refine R_nil ?_
      refine T_seq ?_
      refine T_sub (E' := [(3, _), (4, _), (5, _), (6, _), (7, _), (8, _), (9, _), (10, _), (11, _), (13, _)]) (Sub.cons rfl (Sub.cons rfl (Sub.cons rfl (Sub.cons rfl (Sub.cons rfl (Sub.cons rfl (Sub.cons rfl (Sub.cons rfl (Sub.cons rfl (Sub.cons rfl Sub.nil)))))))))) ?_
      refine T_region ?_
      refine R_op rfl rfl rfl (op_move (Has.t rfl)) ?_
      refine R_op rfl rfl rfl (op_fldB fa_35_1 (Has.t rfl) rfl) ?_
      refine R_op rfl rfl rfl (op_ldB Tryz.isAgg31 Tryz.sizeOf31 (Has.t rfl) (i := 0) rfl rfl) ?_
      refine R_op rfl rfl rfl (op_call Tryz.call82 (c_car (p := facW s g) (c := c) (n := 1) (m := 2) (L := 2 * L + 4) hW hch hWf (hc.le (by omega)) (by omega) (by omega) (by decide) (by decide) (by decide) (by decide)) ⟨(Has.t rfl), (Has.t rfl), trivial⟩) ?_
      refine R_op rfl rfl rfl (op_idx Tryz.runUnderlying31 Tryz.sizeOf30 (Has.t rfl) (Has.cN 0) rfl (map_get (getD_some (d := []) (by rw [hXs.1]; decide)))) ?_
      refine R_op rfl rfl rfl (op_ld Tryz.isAgg30 Tryz.sizeOf30 (Has.t rfl)) ?_
      refine R_op rfl rfl rfl (op_idx Tryz.runUnderlying30 Tryz.sizeOf49 (Has.t rfl) (Has.cN 0) rfl (map_get (getD_some (d := Qi.zero) (by rw [hX0]; decide)))) ?_
      refine R_op rfl rfl rfl (op_ld Tryz.isAgg49 Tryz.sizeOf49 (Has.t rfl)) ?_
      refine R_new rfl rfl rfl (new_alloc (Ts := [Is (.bool false), Is (.slice none 0 0), Is (.bool false), Is (.slice none 0 0), Is (.slice none 0 0)]) Tryz.zeroValue49 rfl (fun V => Cells.cons' ⟨rfl, trivial⟩ (Cells.cons' ⟨rfl, trivial⟩ (Cells.cons' ⟨rfl, trivial⟩ (Cells.cons' ⟨rfl, trivial⟩ (Cells.cons' ⟨rfl, trivial⟩ (Cells.nil))))))) (fun B14 => ?_)
      refine R_stA Tryz.sizeOf49 (Has.t rfl) (Has.t rfl) rfl (i := 7) rfl (Nat.le_of_ble_eq_true rfl) rfl rfl ?_
      refine R_nil ?_
      refine T_seq ?_
      refine T_sub (E' := [(3, _), (4, _), (5, _), (6, _), (7, _), (8, _), (9, _), (10, _), (11, _), (14, _)]) (Sub.cons rfl (Sub.cons rfl (Sub.cons rfl (Sub.cons rfl (Sub.cons rfl (Sub.cons rfl (Sub.cons rfl (Sub.cons rfl (Sub.cons rfl (Sub.cons rfl Sub.nil)))))))))) ?_
      refine D_start (m := 32) ?_
      refine D_step (Ei := [(9, _)]) rfl rfl (Srcs.cons (Src.pre rfl rfl) Srcs.nil) (S_plain rfl (op_move (Has.t rfl))) ?_
      refine D_step (Ei := [(73, _)]) rfl rfl (Srcs.cons (Src.op 0 rfl rfl) Srcs.nil) (S_plain rfl (op_idx Tryz.runUnderlying31 Tryz.sizeOf30 (Has.t rfl) (Has.cN 1) rfl (map_get (getD_some (d := []) (by omega))))) ?_
      refine D_step (Ei := [(74, _)]) rfl rfl (Srcs.cons (Src.op 1 rfl rfl) Srcs.nil) (S_plain rfl (op_ld Tryz.isAgg30 Tryz.sizeOf30 (Has.t rfl))) ?_
      refine D_step (Ei := [(75, _)]) rfl rfl (Srcs.cons (Src.op 2 rfl rfl) Srcs.nil) (S_plain rfl (op_idx Tryz.runUnderlying30 Tryz.sizeOf49 (Has.t rfl) (Has.cN 0) rfl (map_get (getD_some (d := Qi.zero) (by rw [hr1]; decide))))) ?_
      refine D_step (Ei := [(76, _)]) rfl rfl (Srcs.cons (Src.op 3 rfl rfl) Srcs.nil) (S_plain rfl (op_ld Tryz.isAgg49 Tryz.sizeOf49 (Has.t rfl))) ?_
      refine D_step (Ei := [(77, _)]) rfl rfl (Srcs.cons (Src.op 4 rfl rfl) Srcs.nil) (S_plain rfl (op_iface mkif_49 (Has.t rfl))) ?_
      refine D_step (Ei := [(9, _)]) rfl rfl (Srcs.cons (Src.pre rfl rfl) Srcs.nil) (S_plain rfl (op_move (Has.t rfl))) ?_
      refine D_step (Ei := [(79, _)]) rfl rfl (Srcs.cons (Src.op 6 rfl rfl) Srcs.nil) (S_plain rfl (op_idx Tryz.runUnderlying31 Tryz.sizeOf30 (Has.t rfl) (Has.cN 1) rfl (map_get (getD_some (d := []) (by omega))))) ?_
      refine D_step (Ei := [(80, _)]) rfl rfl (Srcs.cons (Src.op 7 rfl rfl) Srcs.nil) (S_plain rfl (op_ld Tryz.isAgg30 Tryz.sizeOf30 (Has.t rfl))) ?_
      refine D_step (Ei := [(81, _)]) rfl rfl (Srcs.cons (Src.op 8 rfl rfl) Srcs.nil) (S_plain rfl (op_idx Tryz.runUnderlying30 Tryz.sizeOf49 (Has.t rfl) (Has.cN 0) rfl (map_get (getD_some (d := Qi.zero) (by rw [hr1]; decide))))) ?_
      refine D_step (Ei := [(82, _)]) rfl rfl (Srcs.cons (Src.op 9 rfl rfl) Srcs.nil) (S_plain rfl (op_ld Tryz.isAgg49 Tryz.sizeOf49 (Has.t rfl))) ?_
      refine D_step (Ei := [(83, _)]) rfl rfl (Srcs.cons (Src.op 10 rfl rfl) Srcs.nil) (S_plain rfl (op_iface mkif_49 (Has.t rfl))) ?_
      refine D_step (Ei := [(84, _)]) rfl rfl (Srcs.cons (Src.op 11 rfl rfl) Srcs.nil) (S_plain rfl (op_invoke meth_49_Conj Tryz.call263 c_Conj (Has.t rfl) trivial)) ?_
      refine D_step (Ei := [(78, _), (85, _)]) rfl rfl (Srcs.cons (Src.op 5 rfl rfl) (Srcs.cons (Src.op 12 rfl rfl) Srcs.nil)) (S_plain rfl (op_invoke meth_49_Mul Tryz.call56 (c_Mul (by omega)) (Has.t rfl) ⟨(Has.t rfl), trivial⟩)) ?_
      refine D_step (Ei := [(86, _)]) rfl rfl (Srcs.cons (Src.op 13 rfl rfl) Srcs.nil) (S_plain rfl (op_iface mkif_49 (Has.t rfl))) ?_
      refine D_step (Ei := [(5, _)]) rfl rfl (Srcs.cons (Src.pre rfl rfl) Srcs.nil) (S_plain rfl (op_ldBA Tryz.isAgg49 Tryz.sizeOf49 (Has.t rfl) (i := 2) rfl rfl rfl)) ?_
      refine D_step (Ei := [(11, _)]) rfl rfl (Srcs.cons (Src.pre rfl rfl) Srcs.nil) (S_plain rfl (op_ldBA Tryz.isAgg49 Tryz.sizeOf49 (Has.t rfl) (i := 6) rfl rfl rfl)) ?_
      refine D_step (Ei := [(88, _), (89, _)]) rfl rfl (Srcs.cons (Src.op 15 rfl rfl) (Srcs.cons (Src.op 16 rfl rfl) Srcs.nil)) (S_plain rfl (op_call Tryz.call56 (c_Mul (by omega)) ⟨(Has.t rfl), (Has.t rfl), trivial⟩)) ?_
      refine D_step (Ei := [(90, _)]) rfl rfl (Srcs.cons (Src.op 17 rfl rfl) Srcs.nil) (S_plain rfl (op_call Tryz.call81 c_of ⟨(Has.t rfl), trivial⟩)) ?_
      refine D_step (Ei := [(87, _), (91, _)]) rfl rfl (Srcs.cons (Src.op 14 rfl rfl) (Srcs.cons (Src.op 18 rfl rfl) Srcs.nil)) (S_plain rfl (op_invoke meth_49_Mul Tryz.call56 (c_Mul (by omega)) (Has.t rfl) ⟨(Has.t rfl), trivial⟩)) ?_
      refine D_step (Ei := [(92, _)]) rfl rfl (Srcs.cons (Src.op 19 rfl rfl) Srcs.nil) (S_plain rfl (op_iface mkif_49 (Has.t rfl))) ?_
      refine D_step (Ei := [(10, _)]) rfl rfl (Srcs.cons (Src.pre rfl rfl) Srcs.nil) (S_plain rfl (op_ldBA Tryz.isAgg49 Tryz.sizeOf49 (Has.t rfl) (i := 5) rfl rfl rfl)) ?_
      refine D_step (Ei := [(94, _)]) rfl rfl (Srcs.cons (Src.op 21 rfl rfl) Srcs.nil) (S_plain rfl (op_iface mkif_49 (Has.t rfl))) ?_
      refine D_step (Ei := [(4, _)]) rfl rfl (Srcs.cons (Src.pre rfl rfl) Srcs.nil) (S_plain rfl (op_ldBA Tryz.isAgg49 Tryz.sizeOf49 (Has.t rfl) (i := 1) rfl rfl rfl)) ?_
      refine D_step (Ei := [(96, _)]) rfl rfl (Srcs.cons (Src.op 23 rfl rfl) Srcs.nil) (S_plain rfl (op_iface mkif_49 (Has.t rfl))) ?_
      refine D_step (Ei := [(4, _)]) rfl rfl (Srcs.cons (Src.pre rfl rfl) Srcs.nil) (S_plain rfl (op_ldBA Tryz.isAgg49 Tryz.sizeOf49 (Has.t rfl) (i := 1) rfl rfl rfl)) ?_
      refine D_step (Ei := [(98, _)]) rfl rfl (Srcs.cons (Src.op 25 rfl rfl) Srcs.nil) (S_plain rfl (op_iface mkif_49 (Has.t rfl))) ?_
      refine D_step (Ei := [(99, _)]) rfl rfl (Srcs.cons (Src.op 26 rfl rfl) Srcs.nil) (S_plain rfl (op_invoke meth_49_Conj Tryz.call263 c_Conj (Has.t rfl) trivial)) ?_
      refine D_step (Ei := [(97, _), (100, _)]) rfl rfl (Srcs.cons (Src.op 24 rfl rfl) (Srcs.cons (Src.op 27 rfl rfl) Srcs.nil)) (S_plain rfl (op_invoke meth_49_Mul Tryz.call56 (c_Mul (by omega)) (Has.t rfl) ⟨(Has.t rfl), trivial⟩)) ?_
      refine D_step (Ei := [(95, _), (101, _)]) rfl rfl (Srcs.cons (Src.op 22 rfl rfl) (Srcs.cons (Src.op 28 rfl rfl) Srcs.nil)) (S_plain rfl (op_invoke meth_49_Sub Tryz.call58 (c_Sub (by omega)) (Has.t rfl) ⟨(Has.t rfl), trivial⟩)) ?_
      refine D_step (Ei := [(93, _), (102, _)]) rfl rfl (Srcs.cons (Src.op 20 rfl rfl) (Srcs.cons (Src.op 29 rfl rfl) Srcs.nil)) (S_plain rfl (op_invoke meth_49_Mul Tryz.call56 (c_Mul (by omega)) (Has.t rfl) ⟨(Has.t rfl), trivial⟩)) ?_
      refine D_new (Ei := []) rfl rfl rfl Srcs.nil (new_alloc (Ts := [Is (.bool false), Is (.slice none 0 0), Is (.bool false), Is (.slice none 0 0), Is (.slice none 0 0)]) Tryz.zeroValue49 rfl (fun V => Cells.cons' ⟨rfl, trivial⟩ (Cells.cons' ⟨rfl, trivial⟩ (Cells.cons' ⟨rfl, trivial⟩ (Cells.cons' ⟨rfl, trivial⟩ (Cells.cons' ⟨rfl, trivial⟩ (Cells.nil))))))) ?_
      refine D_done mixed rfl (by kernel_rfl) (F_val (F_val (F_val (F_val (F_val (F_val (F_val (F_val (F_val (F_val (F_val (F_val (F_val (F_val (F_val (F_val (F_val (F_val (F_val (F_val (F_val (F_val (F_val (F_val (F_val (F_val (F_val (F_val (F_val (F_val (F_val (F_new (fun B15 => F_nil ?_)))))))))))))))))))))))))))))))))
      refine R_stA Tryz.sizeOf49 (Has.t rfl) (Has.t rfl) rfl (i := 8) rfl (Nat.le_of_ble_eq_true rfl) rfl rfl ?_
      refine R_nil ?_
      refine T_seq ?_
      refine T_sub (E' := [(6, _), (7, _), (8, _), (10, _), (14, _), (15, _)]) (Sub.cons rfl (Sub.cons rfl (Sub.cons rfl (Sub.cons rfl (Sub.cons rfl (Sub.cons rfl Sub.nil)))))) ?_
      refine T_region ?_
      refine R_op rfl rfl rfl (op_ldBA Tryz.isAgg49 Tryz.sizeOf49 (Has.t rfl) (i := 7) rfl rfl rfl) ?_
      refine R_op rfl rfl rfl (op_iface mkif_49 (Has.t rfl)) ?_
      refine R_op rfl rfl rfl (op_ldBA Tryz.isAgg49 Tryz.sizeOf49 (Has.t rfl) (i := 8) rfl rfl rfl) ?_
      refine R_op rfl rfl rfl (op_invoke meth_49_Div Tryz.call174 (c_Div (x := facX s c g) (y := gm s 1 0 * (gm s 1 0).conj * (t0 * pkv z ((1 : Nat) : Int)) * (oneQ - g * g.conj)) (by omega)) (Has.t rfl) ⟨(Has.t rfl), trivial⟩) ?_
      refine R_op rfl rfl rfl (op_move (Has.t rfl)) ?_
      refine R_op rfl rfl rfl (op_extract (Has.t rfl) rfl) ?_
      refine R_op rfl rfl rfl (op_extract (Has.t rfl) rfl) ?_
      refine R_new rfl rfl rfl (new_alloc (Ts := [Is (.bool false), Is (.slice none 0 0), Is (.bool false), Is (.slice none 0 0), Is (.slice none 0 0)]) Tryz.zeroValue49 rfl (fun V => Cells.cons' ⟨rfl, trivial⟩ (Cells.cons' ⟨rfl, trivial⟩ (Cells.cons' ⟨rfl, trivial⟩ (Cells.cons' ⟨rfl, trivial⟩ (Cells.cons' ⟨rfl, trivial⟩ (Cells.nil))))))) (fun B16 => ?_)
      refine R_stA Tryz.sizeOf49 (Has.t rfl) (Has.t rfl) rfl (i := 9) rfl (Nat.le_of_ble_eq_true rfl) rfl rfl ?_
      refine R_op rfl rfl rfl (op_assign (Has.t rfl)) ?_
      refine R_nil ?_
      refine T_seq ?_
      refine T_seq ?_
      refine T_sub (E' := [(6, _), (7, _), (8, _), (10, _), (16, _), (17, _)]) (Sub.cons rfl (Sub.cons rfl (Sub.cons rfl (Sub.cons rfl (Sub.cons rfl (Sub.cons rfl Sub.nil)))))) ?_
      refine T_region ?_
      refine R_op rfl rfl rfl (op_move (Has.t rfl)) ?_
      refine R_op rfl rfl rfl (op_neq (Has.t rfl) Has.c) ?_
      refine R_nil ?_
      refine T_cond (Has.t rfl) (fun hk => ?_) (fun hk => ?_)
      · rw [hpd] at hk
        have hk2 : facD z s g t0 = Qi.zero := by
          by_cases h : facD z s g t0 = Qi.zero
          · exact h
          · rw [if_neg h] at hk; exact absurd hk (by decide)
        have he : facR z s c g t0 = (Qi.zero, 3) := by rw [facR, if_neg hb2, if_neg hd3, if_pos hk2]
        refine T_seq ?_
        refine T_region ?_
        refine R_op rfl rfl rfl (op_ldBA Tryz.isAgg49 Tryz.sizeOf49 (Has.t rfl) (i := 4) rfl rfl rfl) ?_
        refine R_stA Tryz.sizeOf49 (Has.t rfl) (Has.t rfl) rfl (i := 3) rfl (Nat.le_of_ble_eq_true rfl) rfl rfl ?_
        refine R_op rfl rfl rfl (op_assign (Has.cN 3)) ?_
        refine R_nil ?_
        refine T_ret2 rfl (rv_to (rv_cell Tryz.isAgg49 Tryz.sizeOf49 rfl (i := 3) rfl rfl) ?_) (rv_to (rv_tmp rfl) ?_)
        · exact (fun v V k => by rw [he]; exact num_zero v V k)
        · exact (fun v V k => by rw [he]; exact k)
      · have hk2 : ¬ facD z s g t0 = Qi.zero := fun h => by rw [hpd, if_pos h] at hk; exact absurd hk (by decide)
        have he : facR z s c g t0 = (oneQ + facX s c g / facD z s g t0, 0) := by rw [facR, if_neg hb2, if_neg hd3, if_neg hk2]
        have hv : oneQ + facX s c g / (gm s 1 0 * (gm s 1 0).conj * (t0 * pkv z ((1 : Nat) : Int)) * (oneQ - g * g.conj)) = (facR z s c g t0).1 := by rw [he, hpd]
        refine T_skip ?_
        refine T_seq ?_
        refine T_region ?_
        refine R_op rfl rfl rfl (op_ldBA Tryz.isAgg49 Tryz.sizeOf49 (Has.t rfl) (i := 5) rfl rfl rfl) ?_
        refine R_op rfl rfl rfl (op_iface mkif_49 (Has.t rfl)) ?_
        refine R_op rfl rfl rfl (op_ldBA Tryz.isAgg49 Tryz.sizeOf49 (Has.t rfl) (i := 9) rfl rfl rfl) ?_
        refine R_op rfl rfl rfl (op_invoke meth_49_Add Tryz.call59 (c_Add (by omega)) (Has.t rfl) ⟨(Has.t rfl), trivial⟩) ?_
        refine R_stA Tryz.sizeOf49 (Has.t rfl) (Has.t rfl) rfl (i := 3) rfl (Nat.le_of_ble_eq_true rfl) rfl rfl ?_
        refine R_op rfl rfl rfl (op_assign (Has.cN 0)) ?_
        refine R_nil ?_
        refine T_ret2 rfl (rv_to (rv_cell Tryz.isAgg49 Tryz.sizeOf49 rfl (i := 3) rfl rfl) ?_) (rv_to (rv_tmp rfl) ?_)
        · exact (num_of hv)
        · exact (fun v V k => by rw [he]; exact k)
end Go.Proofs.YtppibhcfaahgpaaGreat
namespace Go.Proofs.YtppibhcfaahgpaaGreat
open Go Go.RowKit
theorem flat_app (a b : List Value) : flat (a ++ b) = flat a ++ flat b := by simp [flat]
theorem flat_tk {s : Nat} {xs : List Value} (h : ∀ x, x ∈ xs → x.cells.size = s) (k : Nat) (hk : k ≤ xs.length) : flat (xs.take k) = (flat xs).take (k * s) := by
  have h1 : (flat (xs.take k)).length = k * s := by rw [flat_len _ (fun x hx => h x (List.mem_of_mem_take hx))]; simp [Nat.min_eq_left hk]
  have h2 : flat xs = flat (xs.take k) ++ flat (xs.drop k) := by rw [← flat_app, List.take_append_drop]
  rw [h2, List.take_left' h1]
theorem flat_dr {s : Nat} {xs : List Value} (h : ∀ x, x ∈ xs → x.cells.size = s) (k : Nat) (hk : k ≤ xs.length) : flat (xs.drop k) = (flat xs).drop (k * s) := by
  have h1 : (flat (xs.take k)).length = k * s := by rw [flat_len _ (fun x hx => h x (List.mem_of_mem_take hx))]; simp [Nat.min_eq_left hk]
  have h2 : flat xs = flat (xs.take k) ++ flat (xs.drop k) := by rw [← flat_app, List.take_append_drop]
  rw [h2, List.drop_left' h1]
theorem all_rep {T : Ty} {V : View} : ∀ {xs : List Value} {m : Nat}, (∀ x, x ∈ xs → T.p x V) → xs.length = m → AllT (List.replicate m T) xs V
  | [], 0, _, _ => trivial
  | x :: xs, m + 1, h, hl => ⟨h x (by simp), all_rep (fun y hy => h y (by simp [hy])) (by simpa using hl)⟩
theorem rep_all {T : Ty} {V : View} {xs : List Value} {m : Nat} (h : AllT (List.replicate m T) xs V) : ∀ x, x ∈ xs → T.p x V := fun x hx => by
  obtain ⟨U, h1, h2⟩ := h.mem x hx
  rw [(List.mem_replicate.1 h1).2] at h2; exact h2
def SecT (s : Nat) (v : Value) (lo len : Nat) : Ty := ⟨fun u _ => ∃ g l0 cap, v = .slice (some ⟨g, 0, none⟩) l0 cap ∧ lo + len ≤ l0 ∧ l0 ≤ cap ∧ u = .slice (some ⟨g, lo * s, none⟩) len (cap - lo), fun h _ => h⟩
instance shSec (s : Nat) (v : Value) (lo len : Nat) : Shape (SecT s v lo len) 1 false := shape_one fun u V h => by obtain ⟨_, _, _, _, _, _, rfl⟩ := h; trivial
section
variable {P : Program} {R : Post} {cx : Cx} {n : Nat} {k : List It} {E : Env} {H : Hp} {ops : Array Oper} {o : Oper} {rest : List Oper}
variable {d : Option Tmp} {t : TypeId} {pos : String} {af : Array Edge} {g : Option (Nat × Bool)}
theorem op_secLo {x lo : Operand} {i e e' s q : Nat} {v : Value} {Ts : List Ty} {kd : IntKind} {j : Int} (hU : ∀ w, (underlying t).run P w = .ok (.slice e) w) (hS : ∀ w, (sizeOf e).run P w = .ok s w)
    (hx : Has E x (Is v)) (hlo : Has E lo (IntT kd j)) (hj : j = (q : Int)) (hH : H[i]? = some (rowO e' s v Ts)) (hq : q < Ts.length) {t' : TypeId} : OpTy P n E H ⟨d, .slice t x (some lo) none none, t', pos, af, g⟩ (SecT s v q (Ts.length - q)) :=
  op_readO hH fun a V w S hA _ hs => by
    have e1 : a.eval x = v := hx n V a hs
    have e2 : a.eval lo = .int kd j := hlo n V a hs
    subst hj
    obtain ⟨xs, _, h2⟩ := hA
    rcases h2 with ⟨_, h0, _⟩ | ⟨g1, cap, cur, rfl, _, _, hle, _⟩
    · subst h0; simp at hq
    · refine ⟨.slice (some ⟨g1, q * s, none⟩) (Ts.length - q) (cap - q), ?_, g1, Ts.length, cap, rfl, by omega, hle, rfl⟩
      have hne : ¬ cap = q := by omega
      have hb : q ≤ Ts.length := by omega
      simp [execOp, e1, e2, Instr.sliceAt, Instr.slice, Instr.sliceBounds, Instr.sliceBound, asIntOf, Sem.run_bind, hU, hS, Result.andThen, hb, hne, Addr.add, hle]
      try exact fun h => h.symm
theorem op_secHi {x hi : Operand} {i e e' s q : Nat} {v : Value} {Ts : List Ty} {kd : IntKind} {j : Int} (hU : ∀ w, (underlying t).run P w = .ok (.slice e) w) (hS : ∀ w, (sizeOf e).run P w = .ok s w)
    (hx : Has E x (Is v)) (hhi : Has E hi (IntT kd j)) (hj : j = (q : Int)) (hH : H[i]? = some (rowO e' s v Ts)) (hq : q ≤ Ts.length) (h0 : 0 < Ts.length) {t' : TypeId} : OpTy P n E H ⟨d, .slice t x none (some hi) none, t', pos, af, g⟩ (SecT s v 0 q) :=
  op_readO hH fun a V w S hA _ hs => by
    have e1 : a.eval x = v := hx n V a hs
    have e2 : a.eval hi = .int kd j := hhi n V a hs
    subst hj
    obtain ⟨xs, _, h2⟩ := hA
    rcases h2 with ⟨_, h1, _⟩ | ⟨g1, cap, cur, rfl, _, _, hle, _⟩
    · subst h1; simp at h0
    · refine ⟨.slice (some ⟨g1, 0, none⟩) q cap, ?_, g1, Ts.length, cap, rfl, by omega, hle, by simp⟩
      have hb : q ≤ cap := by omega
      simp [execOp, e1, e2, Instr.sliceAt, Instr.slice, Instr.sliceBounds, Instr.sliceBound, asIntOf, Sem.run_bind, hU, hS, Result.andThen, hb, Addr.add]
theorem copy_core {x y : Operand} {i e e' s m lo p q : Nat} {ta tb : TypeId} {v : Value} {T : Ty} {a : Act} {w : World} {V : View} {b0 o0 cp dd : Nat} {ys : List Value} {t' : TypeId} (hU : ∀ w, (underlying ta).run P w = .ok (.slice e) w) (hS : ∀ w, (sizeOf e).run P w = .ok s w)
    (hinv : Inv cx V H w) (hH : H[i]? = some (rowO e' s v (List.replicate m T))) (hxv : (SecT s v lo p).p (a.eval x) V) (ey : a.eval y = .slice (some ⟨b0, o0, none⟩) q cp)
    (hrow : Row s (List.replicate q T) ys V) (hcells : ∀ (j : Nat) u, (flat ys)[j]? = some u → w.cell? ((⟨b0, o0, none⟩ : Addr).add j) = some u) :
    ∃ w', (execOp a.eval ⟨some dd, .call ⟨.builtin .copy, #[x, y], #[ta, tb]⟩, t', pos, af, g⟩).run P w = .ok (.value (goInt (Nat.min q p))) w' ∧ Inv cx V H w' := by
  obtain ⟨S, hR⟩ := (show HH cx.w0.heap.size w V (H ++ []) by simpa using hinv.hp).get hH
  obtain ⟨xs, hrx, h2⟩ := hR
  obtain ⟨g1, l0, cap0, hv, hlo, hlc, ex⟩ := hxv
  rcases h2 with ⟨h0, _⟩ | ⟨g2, cap, cur, h3, hS', hg, hle, hcm, hcs, htake⟩
  · rw [hv] at h0; cases h0
  rw [hv] at h3
  simp only [Value.slice.injEq, Option.some.injEq, Addr.mk.injEq, List.length_replicate] at h3
  obtain ⟨⟨rfl, _⟩, rfl, rfl⟩ := h3
  simp only [List.length_replicate] at hle htake
  have hk1 : Nat.min q p ≤ q := Nat.min_le_left _ _
  have hk2 : Nat.min q p ≤ p := Nat.min_le_right _ _
  generalize hkk : Nat.min q p = k at hk1 hk2
  have hyl : ys.length = q := by rw [hrow.all.length]; simp
  have hxl : xs.length = l0 := by rw [hrx.all.length]; simp
  have hyk : ∀ z, z ∈ ys.take k → z.cells.size = s := fun z hz => hrow.size z (List.mem_of_mem_take hz)
  have hfl : (flat (ys.take k)).length = k * s := by rw [flat_len _ hyk]; simp [Nat.min_eq_left (show k ≤ ys.length by omega)]
  have hg' : w.heap[g1]? = some (.cells cur e' (0, 0)) := hg
  have h1s : (lo + k) * s ≤ l0 * s := Nat.mul_le_mul_right _ (by omega)
  have h2s : l0 * s ≤ cap0 * s := Nat.mul_le_mul_right _ hle
  have h3s : (lo + k) * s = lo * s + k * s := Nat.add_mul _ _ _
  have hpl : ∀ u, u ∈ flat (ys.take k) → Plain u := fun u hu => by
    obtain ⟨z, hz, hu'⟩ := flat_mem.1 hu
    exact hrow.plain u (flat_mem.2 ⟨z, List.mem_of_mem_take hz, hu'⟩)
  obtain ⟨w', q1, ⟨c', q2, q2'⟩, q3, q4, q5, q6, q7⟩ := run_stores (P := P) (flat (ys.take k)) (lo * s) 0 w cur hg' (by rw [hfl]; omega) hpl
  have hf := run_firstCells_some (P := P) w s k ⟨b0, o0, none⟩ q cp (flat (ys.take k)) hfl (fun j u hu => hcells j u (by
    rw [flat_tk hrow.size k (by omega), List.getElem?_take] at hu
    split at hu
    · exact hu
    · cases hu))
  refine ⟨w', ?_, ?_⟩
  · simp [execOp, resolve, invoke, builtin, ex, ey, Builtin.copy_, Builtin.lenOf, Sem.run_bind, hU, hS, Result.andThen, hkk, hf, q1]
  · have hset : H.set i (rowO e' s v (List.replicate l0 T)) = H := by
      apply List.ext_getElem?
      intro j
      by_cases c : i = j
      · subst c; rw [List.getElem?_set_self (List.getElem?_eq_some_iff.1 hH).1, hH]
      · rw [List.getElem?_set_ne c]
    rw [← hset]
    refine hinv.upd hH q4 q5 q6 q7 (fun S2 hS2 => ?_)
    obtain ⟨xs2, hrx2, h4⟩ := hS2
    rcases h4 with ⟨h0, _⟩ | ⟨g3, cap3, cur3, h5, hS3, hg3, hle3, hcm3, hcs3, htake3⟩
    · rw [hv] at h0; cases h0
    rw [hv] at h5
    simp only [Value.slice.injEq, Option.some.injEq, Addr.mk.injEq] at h5
    obtain ⟨⟨rfl, _⟩, _, rfl⟩ := h5
    have hg4 : w.heap[g1]? = some (.cells cur3 e' (0, 0)) := hg3
    rw [hg'] at hg4; simp at hg4; subst hg4
    subst hS3
    have hx2l : xs2.length = l0 := by rw [hrx2.all.length]; simp
    simp only [List.length_replicate] at htake3
    refine ⟨fun b hb => q3 b (by simpa using hb), xs2.take lo ++ ys.take k ++ xs2.drop (lo + k), ⟨all_rep (fun z hz => ?_) ?_, fun z hz => ?_, fun u hu => ?_⟩, .inr ⟨g1, cap0, c', by rw [hv]; simp, rfl, q2, by simpa using hle, hcm, ?_, ?_⟩⟩
    · simp only [List.mem_append] at hz
      rcases hz with (hz | hz) | hz
      · exact rep_all hrx2.all z (List.mem_of_mem_take hz)
      · exact rep_all hrow.all z (List.mem_of_mem_take hz)
      · exact rep_all hrx2.all z (List.mem_of_mem_drop hz)
    · simp only [List.length_append, List.length_take, List.length_drop]; omega
    · simp only [List.mem_append] at hz
      rcases hz with (hz | hz) | hz
      · exact hrx2.size z (List.mem_of_mem_take hz)
      · exact hrow.size z (List.mem_of_mem_take hz)
      · exact hrx2.size z (List.mem_of_mem_drop hz)
    · obtain ⟨z, hz, hu'⟩ := flat_mem.1 hu
      simp only [List.mem_append] at hz
      rcases hz with (hz | hz) | hz
      · exact hrx2.plain u (flat_mem.2 ⟨z, List.mem_of_mem_take hz, hu'⟩)
      · exact hrow.plain u (flat_mem.2 ⟨z, List.mem_of_mem_take hz, hu'⟩)
      · exact hrx2.plain u (flat_mem.2 ⟨z, List.mem_of_mem_drop hz, hu'⟩)
    · have : c'.toList.length = cur.toList.length := by
        rw [q2']; simp only [List.length_append, List.length_take, List.length_drop, Array.length_toList, hfl]; omega
      simpa [hcs] using this
    · rw [q2', flat_app, flat_app, flat_tk hrx2.size lo (by omega), flat_dr hrx2.size (lo + k) (by omega), ← htake3, List.length_replicate, h3s]
      simp only [Nat.add_zero, hfl]
      exact take_put _ _ _ _ _ hfl (by omega) (by simp only [Array.length_toList]; omega)
theorem op_copySec {x y : Operand} {i e e' s m lo p q : Nat} {ta tb : TypeId} {v : Value} {T : Ty} {dd : Nat} (hU : ∀ w, (underlying ta).run P w = .ok (.slice e) w) (hS : ∀ w, (sizeOf e).run P w = .ok s w)
    (hH : H[i]? = some (rowO e' s v (List.replicate m T))) (hx : Has E x (SecT s v lo p)) (hy : Has E y (SecT s v 0 q)) {t' : TypeId} :
    OpTy P n E H ⟨some dd, .call ⟨.builtin .copy, #[x, y], #[ta, tb]⟩, t', pos, af, g⟩ (NT .i64 (Nat.min q p)) := fun cx X a w V hi hs K Q hK => by
  have hil := (List.getElem?_eq_some_iff.1 hH).1
  have hH' : (H ++ X)[i]? = some (rowO e' s v (List.replicate m T)) := by rw [List.getElem?_append_left hil]; exact hH
  obtain ⟨S, hR⟩ := (show HH cx.w0.heap.size w V ((H ++ X) ++ []) by simpa using hi.hp).get hH'
  obtain ⟨xs, hrx, h2⟩ := hR
  obtain ⟨g1, l0, cap0, hv, hlo, hlc, ey⟩ := hy n V a hs
  rcases h2 with ⟨h0, _⟩ | ⟨g2, cap, cur, h3, _, hg, hle, hcm, hcs, htake⟩
  · rw [hv] at h0; cases h0
  rw [hv] at h3
  simp only [Value.slice.injEq, Option.some.injEq, Addr.mk.injEq, List.length_replicate] at h3
  obtain ⟨⟨rfl, _⟩, rfl, rfl⟩ := h3
  have hxl : xs.length = l0 := by rw [hrx.all.length]; simp
  rw [Nat.zero_mul] at ey
  have hrow : Row s (List.replicate q T) (xs.take q) V := ⟨all_rep (fun z hz => rep_all hrx.all z (List.mem_of_mem_take hz)) (by simp; omega), fun z hz => hrx.size z (List.mem_of_mem_take hz), fun u hu => by
    obtain ⟨z, hz, hu'⟩ := flat_mem.1 hu; exact hrx.plain u (flat_mem.2 ⟨z, List.mem_of_mem_take hz, hu'⟩)⟩
  obtain ⟨w', h1, h4⟩ := copy_core (dd := dd) (pos := pos) (af := af) (g := g) (t' := t') (tb := tb) hU hS hi hH' (hx n V a hs) ey hrow (fun j u hu => by
    rw [flat_tk hrx.size q (by omega), ← htake, List.getElem?_take, List.getElem?_take] at hu
    split at hu
    · split at hu
      · rw [add_plain, cell_of_heap (show w.heap[g1]? = some (.cells cur e' (0, 0)) from hg), Nat.zero_add]; simpa using hu
      · cases hu
    · cases hu)
  simp only [Oper.wp, h1, Oper.upon_value]
  exact hK _ w' V h4 (VLe.refl V) rfl
theorem op_copyV {x y : Operand} {i e e' s m q : Nat} {ta tb : TypeId} {v : Value} {T : Ty} {dd : Nat} (hU : ∀ w, (underlying ta).run P w = .ok (.slice e) w) (hS : ∀ w, (sizeOf e).run P w = .ok s w)
    (hH : H[i]? = some (rowO e' s v (List.replicate m T))) (hx : Has E x (Is v)) (hy : Has E y (SlT s (List.replicate q T))) (hq : 0 < q) (hEl : El s T) (hm : 0 < m) {t' : TypeId} :
    OpTy P n E H ⟨some dd, .call ⟨.builtin .copy, #[x, y], #[ta, tb]⟩, t', pos, af, g⟩ (NT .i64 (Nat.min q m)) := fun cx X a w V hi hs K Q hK => by
  obtain ⟨b0, o0, cp, ys, ey, _, hrow, hcells⟩ := SlT.row (hy n V a hs) (by intro h; have := congrArg List.length h; simp at this; omega) (fun U hU => by rw [(List.mem_replicate.1 hU).2]; exact hEl)
  simp only [List.length_replicate] at ey
  have hil := (List.getElem?_eq_some_iff.1 hH).1
  have hH' : (H ++ X)[i]? = some (rowO e' s v (List.replicate m T)) := by rw [List.getElem?_append_left hil]; exact hH
  obtain ⟨S, hR⟩ := (show HH cx.w0.heap.size w V ((H ++ X) ++ []) by simpa using hi.hp).get hH'
  have hxv : (SecT s v 0 m).p (a.eval x) V := by
    obtain ⟨xs, _, h2⟩ := hR
    rcases h2 with ⟨_, h0, _⟩ | ⟨g1, cap, cur, hv, _, _, hle, _⟩
    · have := congrArg List.length h0; simp at this; omega
    · simp only [List.length_replicate] at hv hle
      have ex : a.eval x = v := hx n V a hs
      exact ⟨g1, m, cap, hv, by omega, hle, by rw [ex, hv]; simp⟩
  obtain ⟨w', h1, h2⟩ := copy_core (dd := dd) (pos := pos) (af := af) (g := g) (t' := t') (tb := tb) hU hS hi hH' hxv ey hrow (hcells w hi.on)
  simp only [Oper.wp, h1, Oper.upon_value]
  exact hK _ w' V h2 (VLe.refl V) rfl
end
end Go.Proofs.YtppibhcfaahgpaaGreat
