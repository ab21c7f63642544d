/- Possible and Thermal of any network with noise decide as the reference does; the vector that Possible returns has a negative form. Conditions: none beyond those of the given statement. -/
import Derived.Test.YteohomnhncjcnaaGreatP05
set_option linter.unusedVariables false
set_option linter.unusedSimpArgs false
set_option maxRecDepth 100000
set_option maxHeartbeats 4000000
namespace Go.Proofs.YteohomnhncjcnaaGreat
section
open Go Go.ChangeShapes Go.WideShapes Go.ChangeAt Go.RowKit
theorem lifted_noisePossible (os : Os) (started : os.Started) (H : Type) (enc : TypeId × Value → H) :
  ReturnsInHanded {} Tryz.checked os 13 .any (Rows.noisePossibleSpec.pre6 enc Tryz.prog Tryz.f13 Rows.noisePossibleRow.domain false) (Rows.noisePossibleSpec.post enc Tryz.prog Tryz.f13 false true false false) := by
 refine returnsInHanded_of_change (C := Tryz.checked) own started (by kernel_rfl) Tryz.func13
  (ChangeSpec.witness6 (enc := enc) (C := Tryz.checked) false ⟨#[], #[.agg #[.slice none 0 0, .slice none 0 0, .slice none 0 0]], []⟩ 8 (by kernel_rfl) (by kernel_rfl) (by kernel_rfl) (by kernel_rfl)) ?_
 intro W base args ds gs before hval0 hW hcnd _
 have hval : ∀ (j : Nat) t v, Tryz.f13.params[j]? = some t → args[j]? = some v → Value.okWide Tryz.prog W .any base t v := hval0
 have hW' := hW
 obtain ⟨p, q, hA0, hV, rfl, hfz, hnd⟩ := hW
 have hA : DataW.TrodAll enc Tryz.prog W 0 (fun _ => true) true Tryz.f13.params.toList args.toList ds p := hA0
 rw [Tryz.params13] at hA hval
 obtain ⟨v0, vs0, d0, ds0, p0, q0, hargs, rfl, rfl, h0, r0⟩ := trodAll_cons hA
 obtain ⟨rfl, rfl, rfl⟩ := trodAll_nil r0
 obtain rfl : args = #[v0] := by cases args; simp_all
 obtain ⟨rfl, rfl⟩ := trodVars_none hV
 have lt0 : ∀ x ∈ p0, x.block < W.heap.size := by obtain ⟨m, hm⟩ := h0; exact DataW.trod_lt m _ _ _ hm
 obtain ⟨z, s, c, k0⟩ := Oh (hval 0 25 v0 rfl rfl) h0
 clear hA0 hval0
 refine (vU (z := z) (s := s) (c := c) [v0] (hv W) W (fun b o h => h) ⟨k0, trivial⟩).mono fun e W' ⟨v, V', he, _, _, _, bel, hb⟩ => ?_
 obtain rfl := Mo hb he
 exact ⟨_, rfl, _, _, _, [], _, [], hW', trodAll_mk1 (shut_bool Tryz.underlying4 _), (trodAll_cons_mk (Below.trod Wu (by kernel_rfl) (of_decide_eq_true (by kernel_rfl)) h0 bel lt0) trodAll_mk0), rfl, bel.frame _, fun h => by cases h⟩
theorem uK : Tryz.pinned.checked.prog.funcNamed Rows.noisePossibleRow.func = some 13 := by kernel_rfl
theorem uO : laidOutB Tryz.pinned.checked.prog = true := by kernel_rfl
theorem uP : mapsRowed Tryz.pinned.checked.prog = true := by kernel_rfl
theorem uQ : (Rows.noisePossibleRow.inPlace == Tryz.pinned.checked.prog.inPlace 13) = true := by kernel_rfl
theorem uR : (Rows.noisePossibleRow.unfollowed == Tryz.pinned.checked.prog.unfollowed 13) = true := by kernel_rfl
theorem uS : (Rows.noisePossibleRow.recurses == Tryz.pinned.checked.prog.recurses 13) = true := by kernel_rfl
theorem uT : (Rows.noisePossibleRow.named == Tryz.pinned.checked.prog.varsNamed 13) = true := by kernel_rfl
theorem uU : (Rows.noisePossibleRow.plainKeys == Tryz.pinned.checked.prog.plainKeys) = true := by kernel_rfl
theorem uV : Tryz.pinned.checked.prog.stopsHeard = true := by kernel_rfl
theorem uW : Tryz.pinned.checked.prog.mayEnter = true := by kernel_rfl
theorem uX : (Rows.noisePossibleRow.lifted == Tryz.pinned.checked.prog.liftsFinal) = true := by kernel_rfl
theorem tF : (Tryz.pinned.checked.prog.make == some Rows.noisePossibleRow.make) = true := by kernel_rfl
theorem uL : joinedFacts Tryz.pinned.checked.prog 13 Tryz.f13 Rows.noisePossibleSpec Rows.noisePossibleRow = true := by unfold joinedFacts; rw [uO, uP, uQ, uR, uS, uT, uU, uV, uW, uX, tF]; kernel_rfl
theorem uM : Func.isInstance Tryz.pinned.checked.prog Tryz.f13 Rows.noisePossibleRow.origin Rows.noisePossibleRow.targs := of_decide_eq_true (by kernel_rfl)
theorem uN : Func.isWrapper Tryz.pinned.checked.prog Tryz.f13 Rows.noisePossibleRow.wrapper Rows.noisePossibleRow.mainSum := by unfold Func.isWrapper; first | (rw [if_pos (by decide +kernel)]; kernel_rfl) | (rw [if_neg (by decide +kernel)]; exact ⟨rfl, rfl⟩)
theorem noisePossible_proved : Rows.NoisePossibleSaid :=
 OpenClaim.holds_of_wide 13 Tryz.f13 rfl rfl rfl rfl rfl rfl rfl ⟨rfl, rfl, rfl, rfl, rfl⟩ rfl rfl rfl rfl rfl uK Tryz.func13 uL uM uN
  (fun os started H enc _ => lifted_noisePossible os started H enc)
end
end Go.Proofs.YteohomnhncjcnaaGreat
