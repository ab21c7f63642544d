/- the raw matrix of a device with two ports between two fixtures is that of the calibration with their terms, and correcting it is removing both fixtures Conditions: none beyond those of the given statement. -/
import Derived.Test.YthcmlodgnfekeaaGreatP05
set_option linter.unusedVariables false
set_option linter.unusedSimpArgs false
set_option maxRecDepth 100000
set_option maxHeartbeats 4000000
namespace Go.Proofs.YthcmlodgnfekeaaGreat
section
open Go Go.ChangeShapes Go.WideShapes Go.ChangeAt Go.RowKit
theorem lifted_topAnalyzer (os : Os) (started : os.Started) (H : Type) (enc : TypeId × Value → H) :
  ReturnsInHanded {} Tryz.checked os 9 .any (Rows.topAnalyzerSpec.pre6 enc Tryz.prog Tryz.f9 Rows.topAnalyzerRow.domain false) (Rows.topAnalyzerSpec.post enc Tryz.prog Tryz.f9 false true false false) := by
 refine returnsInHanded_of_change (C := Tryz.checked) own started (by kernel_rfl) Tryz.func9
  (ChangeSpec.witness6 (enc := enc) (C := Tryz.checked) false ⟨#[], #[.agg #[.int .i64 0, .int .i64 0, .int .i64 0, .int .i64 0, .int .i64 0, .int .i64 0, .int .i64 0, .int .i64 0, .int .i64 0, .int .i64 0, .int .i64 0, .int .i64 0], .agg #[.int .i64 0, .int .i64 0, .int .i64 0, .int .i64 0, .int .i64 0, .int .i64 0, .int .i64 0, .int .i64 0, .int .i64 0, .int .i64 0, .int .i64 0, .int .i64 0], .agg #[.int .i64 0, .int .i64 0, .int .i64 0, .int .i64 0, .int .i64 0, .int .i64 0, .int .i64 0, .int .i64 0, .int .i64 0, .int .i64 0, .int .i64 0, .int .i64 0]], []⟩ 8 (by kernel_rfl) (by kernel_rfl) (by kernel_rfl) (by kernel_rfl)) ?_
 intro W base args ds gs before hval0 hW hcnd _
 have hval : ∀ (j : Nat) t v, Tryz.f9.params[j]? = some t → args[j]? = some v → Value.okWide Tryz.prog W .any base t v := hval0
 have hW' := hW
 obtain ⟨p, q, hA0, hV, rfl, hfz, hnd⟩ := hW
 have hA : DataW.TrodAll enc Tryz.prog W 0 (fun _ => true) true Tryz.f9.params.toList args.toList ds p := hA0
 rw [Tryz.params9] at hA hval
 obtain ⟨v0, vs0, d0, ds0, p0, q0, hargs, rfl, rfl, h0, r0⟩ := trodAll_cons hA
 obtain ⟨v1, vs1, d1, ds1, p1, q1, rfl, rfl, rfl, h1, r1⟩ := trodAll_cons r0
 obtain ⟨v2, vs2, d2, ds2, p2, q2, rfl, rfl, rfl, h2, r2⟩ := trodAll_cons r1
 obtain ⟨rfl, rfl, rfl⟩ := trodAll_nil r2
 obtain rfl : args = #[v0, v1, v2] := by cases args; simp_all
 obtain ⟨rfl, rfl⟩ := trodVars_none hV
 have lt0 : ∀ x ∈ p0, x.block < W.heap.size := by obtain ⟨m, hm⟩ := h0; exact DataW.trod_lt m _ _ _ hm
 have lt1 : ∀ x ∈ p1, x.block < W.heap.size := by obtain ⟨m, hm⟩ := h1; exact DataW.trod_lt m _ _ _ hm
 have lt2 : ∀ x ∈ p2, x.block < W.heap.size := by obtain ⟨m, hm⟩ := h2; exact DataW.trod_lt m _ _ _ hm
 obtain ⟨a0, a1, a2, a3, k0⟩ := uZ (hval 0 137 v0 rfl rfl) h0
 obtain ⟨b0, b1, b2, b3, k1⟩ := uZ (hval 1 137 v1 rfl rfl) h1
 obtain ⟨e0, e1, e2, e3, k2⟩ := uZ (hval 2 137 v2 rfl rfl) h2
 clear hA0 hval0
 refine (zQ (a0 := a0) (a1 := a1) (a2 := a2) (a3 := a3) (b0 := b0) (b1 := b1) (b2 := b2) (b3 := b3) (e0 := e0) (e1 := e1) (e2 := e2) (e3 := e3) [v0, v1, v2] (hv W) W (fun b o h => h) ⟨k0, k1, k2, trivial⟩).mono fun e W' ⟨v, V', he, _, _, _, bel, hb⟩ => ?_
 obtain rfl := Lo hb he
 exact ⟨_, rfl, _, _, _, [], _, [], hW', trodAll_mk1 (shut_bool Tryz.underlying4 _), (trodAll_cons_mk (Below.trod Cn (by kernel_rfl) (of_decide_eq_true (by kernel_rfl)) h0 bel.1 lt0) (trodAll_cons_mk (Below.trod Cn (by kernel_rfl) (of_decide_eq_true (by kernel_rfl)) h1 bel.1 lt1) (trodAll_cons_mk (Below.trod Cn (by kernel_rfl) (of_decide_eq_true (by kernel_rfl)) h2 bel.1 lt2) trodAll_mk0))), rfl, bel.1.frame _, fun h => by cases h⟩
theorem yQ : Tryz.pinned.checked.prog.funcNamed Rows.topAnalyzerRow.func = some 9 := by kernel_rfl
theorem yU : laidOutB Tryz.pinned.checked.prog = true := by kernel_rfl
theorem yV : mapsRowed Tryz.pinned.checked.prog = true := by kernel_rfl
theorem yW : (Rows.topAnalyzerRow.inPlace == Tryz.pinned.checked.prog.inPlace 9) = true := by kernel_rfl
theorem yX : (Rows.topAnalyzerRow.unfollowed == Tryz.pinned.checked.prog.unfollowed 9) = true := by kernel_rfl
theorem yY : (Rows.topAnalyzerRow.recurses == Tryz.pinned.checked.prog.recurses 9) = true := by kernel_rfl
theorem yZ : (Rows.topAnalyzerRow.named == Tryz.pinned.checked.prog.varsNamed 9) = true := by kernel_rfl
theorem zA : (Rows.topAnalyzerRow.plainKeys == Tryz.pinned.checked.prog.plainKeys) = true := by kernel_rfl
theorem zB : Tryz.pinned.checked.prog.stopsHeard = true := by kernel_rfl
theorem zC : Tryz.pinned.checked.prog.mayEnter = true := by kernel_rfl
theorem zD : (Rows.topAnalyzerRow.lifted == Tryz.pinned.checked.prog.liftsFinal) = true := by kernel_rfl
theorem vO : (Tryz.pinned.checked.prog.make == some Rows.topAnalyzerRow.make) = true := by kernel_rfl
theorem yR : joinedFacts Tryz.pinned.checked.prog 9 Tryz.f9 Rows.topAnalyzerSpec Rows.topAnalyzerRow = true := by unfold joinedFacts; rw [yU, yV, yW, yX, yY, yZ, zA, zB, zC, zD, vO]; kernel_rfl
theorem yS : Func.isInstance Tryz.pinned.checked.prog Tryz.f9 Rows.topAnalyzerRow.origin Rows.topAnalyzerRow.targs := of_decide_eq_true (by kernel_rfl)
theorem yT : Func.isWrapper Tryz.pinned.checked.prog Tryz.f9 Rows.topAnalyzerRow.wrapper Rows.topAnalyzerRow.mainSum := by unfold Func.isWrapper; first | (rw [if_pos (by decide +kernel)]; kernel_rfl) | (rw [if_neg (by decide +kernel)]; exact ⟨rfl, rfl⟩)
theorem topAnalyzer_proved : Rows.TopAnalyzerSaid :=
 OpenClaim.holds_of_wide 9 Tryz.f9 rfl rfl rfl rfl rfl rfl rfl ⟨rfl, rfl, rfl, rfl, rfl⟩ rfl rfl rfl rfl rfl yQ Tryz.func9 yR yS yT
  (fun os started H enc _ => lifted_topAnalyzer os started H enc)
end
end Go.Proofs.YthcmlodgnfekeaaGreat
