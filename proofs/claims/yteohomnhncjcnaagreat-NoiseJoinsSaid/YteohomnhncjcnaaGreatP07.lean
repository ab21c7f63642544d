/- Join of the program returns the network with noise or the error of the reference, for any network with noise of up to nine ports and any list of up to ten joints. Conditions: none beyond those of the given statement. -/
import Derived.Test.YteohomnhncjcnaaGreatP06
set_option linter.unusedVariables false
set_option linter.unusedSimpArgs false
set_option maxRecDepth 100000
set_option maxHeartbeats 4000000
namespace Go.Proofs.YteohomnhncjcnaaGreat
section
open Go Go.ChangeShapes Go.WideShapes Go.ChangeAt Go.RowKit
theorem lifted_noiseJoins (os : Os) (started : os.Started) (H : Type) (enc : TypeId × Value → H) :
  ReturnsInHanded {} Tryz.checked os 3 .any (Rows.noiseJoinsSpec.pre6 enc Tryz.prog Tryz.f3 Rows.noiseJoinsRow.domain false) (Rows.noiseJoinsSpec.post enc Tryz.prog Tryz.f3 false true false false) := by
 refine returnsInHanded_of_change (C := Tryz.checked) own started (by kernel_rfl) Tryz.func3
  (ChangeSpec.witness6 (enc := enc) (C := Tryz.checked) false ⟨#[], #[.agg #[.slice none 0 0, .slice none 0 0, .slice none 0 0], .slice none 0 0], []⟩ 8 (by kernel_rfl) (by kernel_rfl) (by kernel_rfl) (by kernel_rfl)) ?_
 intro W base args ds gs before hval0 hW hcnd _
 have hval : ∀ (j : Nat) t v, Tryz.f3.params[j]? = some t → args[j]? = some v → Value.okWide Tryz.prog W .any base t v := hval0
 have hW' := hW
 obtain ⟨p, q, hA0, hV, rfl, hfz, hnd⟩ := hW
 have hA : DataW.TrodAll enc Tryz.prog W 0 (fun _ => true) true Tryz.f3.params.toList args.toList ds p := hA0
 rw [Tryz.params3] at hA hval
 obtain ⟨v0, vs0, d0, ds0, p0, q0, hargs, rfl, rfl, h0, r0⟩ := trodAll_cons hA
 obtain ⟨v1, vs1, d1, ds1, p1, q1, rfl, rfl, rfl, h1, r1⟩ := trodAll_cons r0
 obtain ⟨rfl, rfl, rfl⟩ := trodAll_nil r1
 obtain rfl : args = #[v0, v1] := by cases args; simp_all
 obtain ⟨rfl, rfl⟩ := trodVars_none hV
 have lt0 : ∀ x ∈ p0, x.block < W.heap.size := by obtain ⟨m, hm⟩ := h0; exact DataW.trod_lt m _ _ _ hm
 have lt1 : ∀ x ∈ p1, x.block < W.heap.size := by obtain ⟨m, hm⟩ := h1; exact DataW.trod_lt m _ _ _ hm
 obtain ⟨z, s, c, k0⟩ := Ui (hval 0 25 v0 rfl rfl) h0
 obtain ⟨js, k1⟩ := Uj (hval 1 26 v1 rfl rfl) h1
 clear hA0 hval0
 refine (Gj (z := z) (s := s) (c := c) (js := js) [v0, v1] (hv W) W (fun b o h => h) ⟨k0, k1, trivial⟩).mono fun e W' ⟨v, V', he, _, _, _, bel, hb⟩ => ?_
 obtain rfl := Se hb he
 exact ⟨_, rfl, _, _, _, [], _, [], hW', trodAll_mk1 (shut_bool Tryz.underlying4 _), (trodAll_cons_mk (Below.trod Qp (by kernel_rfl) (of_decide_eq_true (by kernel_rfl)) h0 bel lt0) (trodAll_cons_mk (Below.trod Qp (by kernel_rfl) (of_decide_eq_true (by kernel_rfl)) h1 bel lt1) trodAll_mk0)), rfl, bel.frame _, fun h => by cases h⟩
theorem Dt : Tryz.pinned.checked.prog.funcNamed Rows.noiseJoinsRow.func = some 3 := by kernel_rfl
theorem Dx : laidOutB Tryz.pinned.checked.prog = true := by kernel_rfl
theorem Dy : mapsRowed Tryz.pinned.checked.prog = true := by kernel_rfl
theorem Dz : (Rows.noiseJoinsRow.inPlace == Tryz.pinned.checked.prog.inPlace 3) = true := by kernel_rfl
theorem Ea : (Rows.noiseJoinsRow.unfollowed == Tryz.pinned.checked.prog.unfollowed 3) = true := by kernel_rfl
theorem Eb : (Rows.noiseJoinsRow.recurses == Tryz.pinned.checked.prog.recurses 3) = true := by kernel_rfl
theorem Ec : (Rows.noiseJoinsRow.named == Tryz.pinned.checked.prog.varsNamed 3) = true := by kernel_rfl
theorem Ed : (Rows.noiseJoinsRow.plainKeys == Tryz.pinned.checked.prog.plainKeys) = true := by kernel_rfl
theorem Ee : Tryz.pinned.checked.prog.stopsHeard = true := by kernel_rfl
theorem Ef : Tryz.pinned.checked.prog.mayEnter = true := by kernel_rfl
theorem Eg : (Rows.noiseJoinsRow.lifted == Tryz.pinned.checked.prog.liftsFinal) = true := by kernel_rfl
theorem Cp : (Tryz.pinned.checked.prog.make == some Rows.noiseJoinsRow.make) = true := by kernel_rfl
theorem Du : joinedFacts Tryz.pinned.checked.prog 3 Tryz.f3 Rows.noiseJoinsSpec Rows.noiseJoinsRow = true := by unfold joinedFacts; rw [Dx, Dy, Dz, Ea, Eb, Ec, Ed, Ee, Ef, Eg, Cp]; kernel_rfl
theorem Dv : Func.isInstance Tryz.pinned.checked.prog Tryz.f3 Rows.noiseJoinsRow.origin Rows.noiseJoinsRow.targs := of_decide_eq_true (by kernel_rfl)
theorem Dw : Func.isWrapper Tryz.pinned.checked.prog Tryz.f3 Rows.noiseJoinsRow.wrapper Rows.noiseJoinsRow.mainSum := by unfold Func.isWrapper; first | (rw [if_pos (by decide +kernel)]; kernel_rfl) | (rw [if_neg (by decide +kernel)]; exact ⟨rfl, rfl⟩)
theorem noiseJoins_proved : Rows.NoiseJoinsSaid :=
 OpenClaim.holds_of_wide 3 Tryz.f3 rfl rfl rfl rfl rfl rfl rfl ⟨rfl, rfl, rfl, rfl, rfl⟩ rfl rfl rfl rfl rfl Dt Tryz.func3 Du Dv Dw
  (fun os started H enc _ => lifted_noiseJoins os started H enc)
end
end Go.Proofs.YteohomnhncjcnaaGreat
