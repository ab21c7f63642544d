/- Join of the program returns the network or the error of the reference, for every two networks of one to four ports side by side and every list of up to five joints. Conditions: none beyond those of the given statement. -/
import Derived.Test.YtbnpmobaglfcbaaGreatP06
set_option linter.unusedVariables false
set_option linter.unusedSimpArgs false
namespace Go.Proofs.YtbnpmobaglfcbaaGreat
section
open Go Go.ChangeShapes Go.WideShapes Go.ChangeAt Go.RowKit
set_option maxRecDepth 100000 in
theorem lifted_networkJoin (os : Os) (started : os.Started) (H : Type) (enc : TypeId × Value → H) :
    ReturnsInHanded {} Tryz.checked os 14 .any (Rows.networkJoinSpec.pre6 enc Tryz.prog Tryz.f14 Rows.networkJoinRow.domain false) (Rows.networkJoinSpec.post enc Tryz.prog Tryz.f14 false true false false) := by
  refine returnsInHanded_of_change (C := Tryz.checked) own started (by kernel_rfl) Tryz.func14
    (ChangeSpec.witness6 (enc := enc) (C := Tryz.checked) false ⟨#[], #[.agg #[.int .u8 0, .slice none 0 0, .slice none 0 0], .agg #[.int .u8 0, .slice none 0 0, .slice none 0 0], .slice none 0 0], []⟩ 8 (by kernel_rfl) (by kernel_rfl) (by kernel_rfl) (by kernel_rfl)) ?_
  intro W base args ds gs before hval0 hW hcnd _
  have hval : ∀ (j : Nat) t v, Tryz.f14.params[j]? = some t → args[j]? = some v → Value.okWide Tryz.prog W .any base t v := hval0
  have hW' := hW
  obtain ⟨p, q, hA0, hV, rfl, hfz, hnd⟩ := hW
  have hA : DataW.TrodAll enc Tryz.prog W 0 (fun _ => true) true Tryz.f14.params.toList args.toList ds p := hA0
  rw [Tryz.params14] at hA hval
  obtain ⟨v0, vs0, d0, ds0, p0, q0, hargs, rfl, rfl, h0, r0⟩ := trodAll_cons hA
  obtain ⟨v1, vs1, d1, ds1, p1, q1, rfl, rfl, rfl, h1, r1⟩ := trodAll_cons r0
  obtain ⟨v2, vs2, d2, ds2, p2, q2, rfl, rfl, rfl, h2, r2⟩ := trodAll_cons r1
  obtain ⟨rfl, rfl, rfl⟩ := trodAll_nil r2
  obtain rfl : args = #[v0, v1, v2] := by cases args; simp_all
  obtain ⟨rfl, rfl⟩ := trodVars_none hV
  have lt0 : ∀ x ∈ p0, x.block < W.heap.size := by obtain ⟨m, hm⟩ := h0; exact DataW.trod_lt m _ _ _ hm
  have lt1 : ∀ x ∈ p1, x.block < W.heap.size := by obtain ⟨m, hm⟩ := h1; exact DataW.trod_lt m _ _ _ hm
  have lt2 : ∀ x ∈ p2, x.block < W.heap.size := by obtain ⟨m, hm⟩ := h2; exact DataW.trod_lt m _ _ _ hm
  obtain ⟨a, zl, sl, k0, w0⟩ := trod_partT (hval 0 24 v0 rfl rfl) h0
  obtain ⟨b, zm, sm, k1, w1⟩ := trod_partT (hval 1 24 v1 rfl rfl) h1
  obtain ⟨js, k2⟩ := trod_prsT (hval 2 102 v2 rfl rfl) h2
  clear hA0 hval0
  refine (c_NetworkJoin (a := a) (zl := zl) (sl := sl) (b := b) (zm := zm) (sm := sm) (js := js) w0 w1 [v0, v1, v2] (hv W) W (fun b o h => h) ⟨k0, k1, k2, trivial⟩).mono fun e W' ⟨v, V', he, _, _, _, bel, hb⟩ => ?_
  obtain rfl := bool_true hb he
  exact ⟨_, rfl, _, _, _, [], _, [], hW', trodAll_mk1 (shut_bool Tryz.underlying4 _), (trodAll_cons_mk (Below.trod laidOut (by kernel_rfl) (of_decide_eq_true (by kernel_rfl)) h0 bel lt0) (trodAll_cons_mk (Below.trod laidOut (by kernel_rfl) (of_decide_eq_true (by kernel_rfl)) h1 bel lt1) (trodAll_cons_mk (Below.trod laidOut (by kernel_rfl) (of_decide_eq_true (by kernel_rfl)) h2 bel lt2) trodAll_mk0))), rfl, bel.frame _, fun h => by cases h⟩
theorem networkJoin_f1 : Tryz.pinned.checked.prog.funcNamed Rows.networkJoinRow.func = some 14 := by kernel_rfl
theorem networkJoin_f2 : joinedFacts Tryz.pinned.checked.prog 14 Tryz.f14 Rows.networkJoinSpec Rows.networkJoinRow = true := by kernel_rfl
theorem networkJoin_f3 : Func.isInstance Tryz.pinned.checked.prog Tryz.f14 Rows.networkJoinRow.origin Rows.networkJoinRow.targs := of_decide_eq_true (by kernel_rfl)
theorem networkJoin_f4 : Func.isWrapper Tryz.pinned.checked.prog Tryz.f14 Rows.networkJoinRow.wrapper Rows.networkJoinRow.mainSum := by unfold Func.isWrapper; first | (rw [if_pos (by decide +kernel)]; kernel_rfl) | (rw [if_neg (by decide +kernel)]; exact ⟨rfl, rfl⟩)
theorem networkJoin_proved : Rows.NetworkJoinSaid :=
  OpenClaim.holds_of_wide 14 Tryz.f14 rfl rfl rfl rfl rfl rfl rfl ⟨rfl, rfl, rfl, rfl, rfl⟩ rfl rfl rfl rfl rfl networkJoin_f1 Tryz.func14 networkJoin_f2 networkJoin_f3 networkJoin_f4
    (fun os started H enc _ => lifted_networkJoin os started H enc)
end
end Go.Proofs.YtbnpmobaglfcbaaGreat
