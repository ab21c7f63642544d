/- Products of any frequencies in any band and Intercept return the results of the reference Conditions: none beyond those of the given statement. -/
import Derived.Test.YthcmlodgnfekeaaGreatP04
set_option linter.unusedVariables false
set_option linter.unusedSimpArgs false
set_option maxRecDepth 100000
set_option maxHeartbeats 4000000
namespace Go.Proofs.YthcmlodgnfekeaaGreat
section
open Go Go.ChangeShapes Go.WideShapes Go.ChangeAt Go.RowKit
theorem lifted_noiseProducts (os : Os) (started : os.Started) (H : Type) (enc : TypeId × Value → H) :
  ReturnsInHanded {} Tryz.checked os 10 .any (Rows.noiseProductsSpec.pre6 enc Tryz.prog Tryz.f10 Rows.noiseProductsRow.domain false) (Rows.noiseProductsSpec.post enc Tryz.prog Tryz.f10 false true false false) := by
 refine returnsInHanded_of_change (C := Tryz.checked) Zm started (by kernel_rfl) Tryz.func10
  (ChangeSpec.witness6 (enc := enc) (C := Tryz.checked) false ⟨#[], #[.agg #[.int .i64 0, .int .i64 0, .int .i64 0], .agg #[.int .i64 0, .int .i64 0, .int .i64 0], .agg #[.int .i64 0, .int .i64 0, .int .i64 0], .agg #[.int .i64 0, .int .i64 0, .int .i64 0], .int .i64 0], []⟩ 8 (by kernel_rfl) (by kernel_rfl) (by kernel_rfl) (by kernel_rfl)) ?_
 intro W base args ds gs before hval0 hW hcnd _
 have hval : ∀ (j : Nat) t v, Tryz.f10.params[j]? = some t → args[j]? = some v → Value.okWide Tryz.prog W .any base t v := hval0
 have hW' := hW
 obtain ⟨p, q, hA0, hV, rfl, hfz, hnd⟩ := hW
 have hA : DataW.TrodAll enc Tryz.prog W 0 (fun _ => true) true Tryz.f10.params.toList args.toList ds p := hA0
 rw [Tryz.params10] at hA hval
 obtain ⟨v0, vs0, d0, ds0, p0, q0, hargs, rfl, rfl, h0, r0⟩ := trodAll_cons hA
 obtain ⟨v1, vs1, d1, ds1, p1, q1, rfl, rfl, rfl, h1, r1⟩ := trodAll_cons r0
 obtain ⟨v2, vs2, d2, ds2, p2, q2, rfl, rfl, rfl, h2, r2⟩ := trodAll_cons r1
 obtain ⟨v3, vs3, d3, ds3, p3, q3, rfl, rfl, rfl, h3, r3⟩ := trodAll_cons r2
 obtain ⟨v4, vs4, d4, ds4, p4, q4, rfl, rfl, rfl, h4, r4⟩ := trodAll_cons r3
 obtain ⟨rfl, rfl, rfl⟩ := trodAll_nil r4
 obtain rfl : args = #[v0, v1, v2, v3, v4] := by cases args; simp_all
 obtain ⟨rfl, rfl⟩ := trodVars_none hV
 have lt0 : ∀ x ∈ p0, x.block < W.heap.size := by obtain ⟨m, hm⟩ := h0; exact DataW.trod_lt m _ _ _ hm
 have lt1 : ∀ x ∈ p1, x.block < W.heap.size := by obtain ⟨m, hm⟩ := h1; exact DataW.trod_lt m _ _ _ hm
 have lt2 : ∀ x ∈ p2, x.block < W.heap.size := by obtain ⟨m, hm⟩ := h2; exact DataW.trod_lt m _ _ _ hm
 have lt3 : ∀ x ∈ p3, x.block < W.heap.size := by obtain ⟨m, hm⟩ := h3; exact DataW.trod_lt m _ _ _ hm
 have lt4 : ∀ x ∈ p4, x.block < W.heap.size := by obtain ⟨m, hm⟩ := h4; exact DataW.trod_lt m _ _ _ hm
 obtain ⟨f, k0⟩ := pZ (hval 0 23 v0 rfl rfl) h0
 obtain ⟨g, k1⟩ := pZ (hval 1 23 v1 rfl rfl) h1
 obtain ⟨lo, k2⟩ := pZ (hval 2 23 v2 rfl rfl) h2
 obtain ⟨hi, k3⟩ := pZ (hval 3 23 v3 rfl rfl) h3
 obtain ⟨o, k4, w4⟩ := Iw Tryz.underlying3 (hval 4 3 v4 rfl rfl) h4
 clear hA0 hval0
 refine (tU (f := f) (g := g) (lo := lo) (hi := hi) (o := o) [v0, v1, v2, v3, v4] (hv W) W (fun b o h => h) ⟨k0, k1, k2, k3, k4, trivial⟩).mono fun e W' ⟨v, V', he, _, _, _, bel, hb⟩ => ?_
 obtain rfl := Hv hb he
 exact ⟨_, rfl, _, _, _, [], _, [], hW', trodAll_mk1 (shut_bool Tryz.underlying4 _), (trodAll_cons_mk (Below.trod rK (by kernel_rfl) (of_decide_eq_true (by kernel_rfl)) h0 bel.1 lt0) (trodAll_cons_mk (Below.trod rK (by kernel_rfl) (of_decide_eq_true (by kernel_rfl)) h1 bel.1 lt1) (trodAll_cons_mk (Below.trod rK (by kernel_rfl) (of_decide_eq_true (by kernel_rfl)) h2 bel.1 lt2) (trodAll_cons_mk (Below.trod rK (by kernel_rfl) (of_decide_eq_true (by kernel_rfl)) h3 bel.1 lt3) (trodAll_cons_mk (Below.trod rK (by kernel_rfl) (of_decide_eq_true (by kernel_rfl)) h4 bel.1 lt4) trodAll_mk0))))), rfl, bel.1.frame _, fun h => by cases h⟩
theorem sM : Tryz.pinned.checked.prog.funcNamed Rows.noiseProductsRow.func = some 10 := by kernel_rfl
theorem sQ : laidOutB Tryz.pinned.checked.prog = true := by kernel_rfl
theorem sR : mapsRowed Tryz.pinned.checked.prog = true := by kernel_rfl
theorem sS : (Rows.noiseProductsRow.inPlace == Tryz.pinned.checked.prog.inPlace 10) = true := by kernel_rfl
theorem sT : (Rows.noiseProductsRow.unfollowed == Tryz.pinned.checked.prog.unfollowed 10) = true := by kernel_rfl
theorem sU : (Rows.noiseProductsRow.recurses == Tryz.pinned.checked.prog.recurses 10) = true := by kernel_rfl
theorem sV : (Rows.noiseProductsRow.named == Tryz.pinned.checked.prog.varsNamed 10) = true := by kernel_rfl
theorem sW : (Rows.noiseProductsRow.plainKeys == Tryz.pinned.checked.prog.plainKeys) = true := by kernel_rfl
theorem sX : Tryz.pinned.checked.prog.stopsHeard = true := by kernel_rfl
theorem sY : Tryz.pinned.checked.prog.mayEnter = true := by kernel_rfl
theorem sZ : (Rows.noiseProductsRow.lifted == Tryz.pinned.checked.prog.liftsFinal) = true := by kernel_rfl
theorem rR : (Tryz.pinned.checked.prog.make == some Rows.noiseProductsRow.make) = true := by kernel_rfl
theorem sN : joinedFacts Tryz.pinned.checked.prog 10 Tryz.f10 Rows.noiseProductsSpec Rows.noiseProductsRow = true := by unfold joinedFacts; rw [sQ, sR, sS, sT, sU, sV, sW, sX, sY, sZ, rR]; kernel_rfl
theorem sO : Func.isInstance Tryz.pinned.checked.prog Tryz.f10 Rows.noiseProductsRow.origin Rows.noiseProductsRow.targs := of_decide_eq_true (by kernel_rfl)
theorem sP : Func.isWrapper Tryz.pinned.checked.prog Tryz.f10 Rows.noiseProductsRow.wrapper Rows.noiseProductsRow.mainSum := by unfold Func.isWrapper; first | (rw [if_pos (by decide +kernel)]; kernel_rfl) | (rw [if_neg (by decide +kernel)]; exact ⟨rfl, rfl⟩)
theorem noiseProducts_proved : Rows.NoiseProductsSaid :=
 OpenClaim.holds_of_wide 10 Tryz.f10 rfl rfl rfl rfl rfl rfl rfl ⟨rfl, rfl, rfl, rfl, rfl⟩ rfl rfl rfl rfl rfl sM Tryz.func10 sN sO sP
  (fun os started H enc _ => lifted_noiseProducts os started H enc)
end
end Go.Proofs.YthcmlodgnfekeaaGreat
