/- Gain and Compression of any power sweep and any fraction return the results of the reference Conditions: none beyond those of the given statement. -/
import Derived.Test.YthcmlodgnfekeaaGreatP05
set_option linter.unusedVariables false
set_option linter.unusedSimpArgs false
set_option maxRecDepth 100000
set_option maxHeartbeats 4000000
namespace Go.Proofs.YthcmlodgnfekeaaGreat
section
open Go Go.ChangeShapes Go.WideShapes Go.ChangeAt Go.RowKit
theorem lifted_noiseLevels (os : Os) (started : os.Started) (H : Type) (enc : TypeId × Value → H) :
  ReturnsInHanded {} Tryz.checked os 4 .any (Rows.noiseLevelsSpec.pre6 enc Tryz.prog Tryz.f4 Rows.noiseLevelsRow.domain false) (Rows.noiseLevelsSpec.post enc Tryz.prog Tryz.f4 false true false false) := by
 refine returnsInHanded_of_change (C := Tryz.checked) own started (by kernel_rfl) Tryz.func4
  (ChangeSpec.witness6 (enc := enc) (C := Tryz.checked) false ⟨#[], #[.slice none 0 0, .agg #[.int .i64 0, .int .i64 0, .int .i64 0]], []⟩ 8 (by kernel_rfl) (by kernel_rfl) (by kernel_rfl) (by kernel_rfl)) ?_
 intro W base args ds gs before hval0 hW hcnd _
 have hval : ∀ (j : Nat) t v, Tryz.f4.params[j]? = some t → args[j]? = some v → Value.okWide Tryz.prog W .any base t v := hval0
 have hW' := hW
 obtain ⟨p, q, hA0, hV, rfl, hfz, hnd⟩ := hW
 have hA : DataW.TrodAll enc Tryz.prog W 0 (fun _ => true) true Tryz.f4.params.toList args.toList ds p := hA0
 rw [Tryz.params4] at hA hval
 obtain ⟨v0, vs0, d0, ds0, p0, q0, hargs, rfl, rfl, h0, r0⟩ := trodAll_cons hA
 obtain ⟨v1, vs1, d1, ds1, p1, q1, rfl, rfl, rfl, h1, r1⟩ := trodAll_cons r0
 obtain ⟨rfl, rfl, rfl⟩ := trodAll_nil r1
 obtain rfl : args = #[v0, v1] := by cases args; simp_all
 obtain ⟨rfl, rfl⟩ := trodVars_none hV
 have lt0 : ∀ x ∈ p0, x.block < W.heap.size := by obtain ⟨m, hm⟩ := h0; exact DataW.trod_lt m _ _ _ hm
 have lt1 : ∀ x ∈ p1, x.block < W.heap.size := by obtain ⟨m, hm⟩ := h1; exact DataW.trod_lt m _ _ _ hm
 obtain ⟨l, k0⟩ := zH (hval 0 51 v0 rfl rfl) h0
 obtain ⟨f, k1⟩ := Bg (hval 1 23 v1 rfl rfl) h1
 clear hA0 hval0
 refine (zV (l := l) (f := f) [v0, v1] (hv W) W (fun b o h => h) ⟨k0, k1, trivial⟩).mono fun e W' ⟨v, V', he, _, _, _, bel, hb⟩ => ?_
 obtain rfl := Ab hb he
 exact ⟨_, rfl, _, _, _, [], _, [], hW', trodAll_mk1 (shut_bool Tryz.underlying4 _), (trodAll_cons_mk (Below.trod tJ (by kernel_rfl) (of_decide_eq_true (by kernel_rfl)) h0 bel lt0) (trodAll_cons_mk (Below.trod tJ (by kernel_rfl) (of_decide_eq_true (by kernel_rfl)) h1 bel lt1) trodAll_mk0)), rfl, bel.frame _, fun h => by cases h⟩
theorem yL : Tryz.pinned.checked.prog.funcNamed Rows.noiseLevelsRow.func = some 4 := by kernel_rfl
theorem yP : laidOutB Tryz.pinned.checked.prog = true := by kernel_rfl
theorem yQ : mapsRowed Tryz.pinned.checked.prog = true := by kernel_rfl
theorem yR : (Rows.noiseLevelsRow.inPlace == Tryz.pinned.checked.prog.inPlace 4) = true := by kernel_rfl
theorem yS : (Rows.noiseLevelsRow.unfollowed == Tryz.pinned.checked.prog.unfollowed 4) = true := by kernel_rfl
theorem yT : (Rows.noiseLevelsRow.recurses == Tryz.pinned.checked.prog.recurses 4) = true := by kernel_rfl
theorem yU : (Rows.noiseLevelsRow.named == Tryz.pinned.checked.prog.varsNamed 4) = true := by kernel_rfl
theorem yV : (Rows.noiseLevelsRow.plainKeys == Tryz.pinned.checked.prog.plainKeys) = true := by kernel_rfl
theorem yW : Tryz.pinned.checked.prog.stopsHeard = true := by kernel_rfl
theorem yX : Tryz.pinned.checked.prog.mayEnter = true := by kernel_rfl
theorem yY : (Rows.noiseLevelsRow.lifted == Tryz.pinned.checked.prog.liftsFinal) = true := by kernel_rfl
theorem vU : (Tryz.pinned.checked.prog.make == some Rows.noiseLevelsRow.make) = true := by kernel_rfl
theorem yM : joinedFacts Tryz.pinned.checked.prog 4 Tryz.f4 Rows.noiseLevelsSpec Rows.noiseLevelsRow = true := by unfold joinedFacts; rw [yP, yQ, yR, yS, yT, yU, yV, yW, yX, yY, vU]; kernel_rfl
theorem yN : Func.isInstance Tryz.pinned.checked.prog Tryz.f4 Rows.noiseLevelsRow.origin Rows.noiseLevelsRow.targs := of_decide_eq_true (by kernel_rfl)
theorem yO : Func.isWrapper Tryz.pinned.checked.prog Tryz.f4 Rows.noiseLevelsRow.wrapper Rows.noiseLevelsRow.mainSum := by unfold Func.isWrapper; first | (rw [if_pos (by decide +kernel)]; kernel_rfl) | (rw [if_neg (by decide +kernel)]; exact ⟨rfl, rfl⟩)
theorem noiseLevels_proved : Rows.NoiseLevelsSaid :=
 OpenClaim.holds_of_wide 4 Tryz.f4 rfl rfl rfl rfl rfl rfl rfl ⟨rfl, rfl, rfl, rfl, rfl⟩ rfl rfl rfl rfl rfl yL Tryz.func4 yM yN yO
  (fun os started H enc _ => lifted_noiseLevels os started H enc)
end
end Go.Proofs.YthcmlodgnfekeaaGreat
