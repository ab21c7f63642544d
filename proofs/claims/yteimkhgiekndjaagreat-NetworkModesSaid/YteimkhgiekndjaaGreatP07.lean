/- Mixed and Single of the program return the networks or errors of the reference, for every network of one to four ports and every list of up to three pairs of ports. Conditions: none beyond those of the given statement. -/
import Derived.Test.YteimkhgiekndjaaGreatP06
set_option linter.unusedVariables false
set_option linter.unusedSimpArgs false
namespace Go.Proofs.YteimkhgiekndjaaGreat
section
open Go Go.ChangeShapes Go.WideShapes Go.ChangeAt Go.RowKit
set_option maxRecDepth 100000 in
theorem lifted_networkModes (os : Os) (started : os.Started) (H : Type) (enc : TypeId × Value → H) :
    ReturnsInHanded {} Tryz.checked os 4 .any (Rows.networkModesSpec.pre6 enc Tryz.prog Tryz.f4 Rows.networkModesRow.domain false) (Rows.networkModesSpec.post enc Tryz.prog Tryz.f4 false true false false) := by
  refine returnsInHanded_of_change (C := Tryz.checked) own started (by kernel_rfl) Tryz.func4
    (ChangeSpec.witness6 (enc := enc) (C := Tryz.checked) false ⟨#[], #[.agg #[.int .u8 0, .slice none 0 0, .slice none 0 0], .slice none 0 0], []⟩ 8 (by kernel_rfl) (by kernel_rfl) (by kernel_rfl) (by kernel_rfl)) ?_
  intro W base args ds gs before hval0 hW hcnd _
  have hval : ∀ (j : Nat) t v, Tryz.f4.params[j]? = some t → args[j]? = some v → Value.okWide Tryz.prog W .any base t v := hval0
  have hW' := hW
  obtain ⟨p, q, hA0, hV, rfl, hfz, hnd⟩ := hW
  have hA : DataW.TrodAll enc Tryz.prog W 0 (fun _ => true) true Tryz.f4.params.toList args.toList ds p := hA0
  rw [Tryz.params4] at hA hval
  obtain ⟨v0, vs0, d0, ds0, p0, q0, hargs, rfl, rfl, h0, r0⟩ := trodAll_cons hA
  obtain ⟨v1, vs1, d1, ds1, p1, q1, rfl, rfl, rfl, h1, r1⟩ := trodAll_cons r0
  obtain ⟨rfl, rfl, rfl⟩ := trodAll_nil r1
  obtain rfl : args = #[v0, v1] := by cases args; simp_all
  obtain ⟨rfl, rfl⟩ := trodVars_none hV
  have lt0 : ∀ x ∈ p0, x.block < W.heap.size := by obtain ⟨m, hm⟩ := h0; exact DataW.trod_lt m _ _ _ hm
  have lt1 : ∀ x ∈ p1, x.block < W.heap.size := by obtain ⟨m, hm⟩ := h1; exact DataW.trod_lt m _ _ _ hm
  obtain ⟨a, zl, sl, k0, w0⟩ := trod_partT (hval 0 24 v0 rfl rfl) h0
  obtain ⟨js, k1⟩ := trod_prsT (hval 1 59 v1 rfl rfl) h1
  clear hA0 hval0
  refine (c_NetworkModes (a := a) (zl := zl) (sl := sl) (js := js) w0 [v0, v1] (hv W) W (fun b o h => h) ⟨k0, k1, trivial⟩).mono fun e W' ⟨v, V', he, _, _, _, bel, hb⟩ => ?_
  obtain rfl := bool_true hb he
  exact ⟨_, rfl, _, _, _, [], _, [], hW', trodAll_mk1 (shut_bool Tryz.underlying4 _), (trodAll_cons_mk (Below.trod laidOut (by kernel_rfl) (of_decide_eq_true (by kernel_rfl)) h0 bel lt0) (trodAll_cons_mk (Below.trod laidOut (by kernel_rfl) (of_decide_eq_true (by kernel_rfl)) h1 bel lt1) trodAll_mk0)), rfl, bel.frame _, fun h => by cases h⟩
theorem networkModes_f1 : Tryz.pinned.checked.prog.funcNamed Rows.networkModesRow.func = some 4 := by kernel_rfl
theorem networkModes_g0 : laidOutB Tryz.pinned.checked.prog = true := by kernel_rfl
theorem networkModes_g1 : mapsRowed Tryz.pinned.checked.prog = true := by kernel_rfl
theorem networkModes_g2 : (Rows.networkModesRow.inPlace == Tryz.pinned.checked.prog.inPlace 4) = true := by kernel_rfl
theorem networkModes_g3 : (Rows.networkModesRow.unfollowed == Tryz.pinned.checked.prog.unfollowed 4) = true := by kernel_rfl
theorem networkModes_g4 : (Rows.networkModesRow.recurses == Tryz.pinned.checked.prog.recurses 4) = true := by kernel_rfl
theorem networkModes_g5 : (Rows.networkModesRow.named == Tryz.pinned.checked.prog.varsNamed 4) = true := by kernel_rfl
theorem networkModes_g6 : (Rows.networkModesRow.plainKeys == Tryz.pinned.checked.prog.plainKeys) = true := by kernel_rfl
theorem networkModes_g7 : Tryz.pinned.checked.prog.stopsHeard = true := by kernel_rfl
theorem networkModes_g8 : Tryz.pinned.checked.prog.mayEnter = true := by kernel_rfl
theorem networkModes_g9 : (Rows.networkModesRow.lifted == Tryz.pinned.checked.prog.liftsFinal) = true := by kernel_rfl
theorem networkModes_g10 : (Tryz.pinned.checked.prog.make == some Rows.networkModesRow.make) = true := by kernel_rfl
theorem networkModes_f2 : joinedFacts Tryz.pinned.checked.prog 4 Tryz.f4 Rows.networkModesSpec Rows.networkModesRow = true := by unfold joinedFacts; rw [networkModes_g0, networkModes_g1, networkModes_g2, networkModes_g3, networkModes_g4, networkModes_g5, networkModes_g6, networkModes_g7, networkModes_g8, networkModes_g9, networkModes_g10]; kernel_rfl
theorem networkModes_f3 : Func.isInstance Tryz.pinned.checked.prog Tryz.f4 Rows.networkModesRow.origin Rows.networkModesRow.targs := of_decide_eq_true (by kernel_rfl)
theorem networkModes_f4 : Func.isWrapper Tryz.pinned.checked.prog Tryz.f4 Rows.networkModesRow.wrapper Rows.networkModesRow.mainSum := by unfold Func.isWrapper; first | (rw [if_pos (by decide +kernel)]; kernel_rfl) | (rw [if_neg (by decide +kernel)]; exact ⟨rfl, rfl⟩)
theorem networkModes_proved : Rows.NetworkModesSaid :=
  OpenClaim.holds_of_wide 4 Tryz.f4 rfl rfl rfl rfl rfl rfl rfl ⟨rfl, rfl, rfl, rfl, rfl⟩ rfl rfl rfl rfl rfl networkModes_f1 Tryz.func4 networkModes_f2 networkModes_f3 networkModes_f4
    (fun os started H enc _ => lifted_networkModes os started H enc)
end
end Go.Proofs.YteimkhgiekndjaaGreat
