/- The compression power lies between two neighbouring levels where the gain falls to the bound, and a sweep with equal gains is never compressed Conditions: none beyond those of the given statement. -/
import Derived.Test.YthcmlodgnfekeaaGreatP05
set_option linter.unusedVariables false
set_option linter.unusedSimpArgs false
set_option maxRecDepth 100000
set_option maxHeartbeats 4000000
namespace Go.Proofs.YthcmlodgnfekeaaGreat
section
open Go Go.ChangeShapes Go.WideShapes Go.ChangeAt Go.RowKit
theorem lifted_noiseCompresses (os : Os) (started : os.Started) (H : Type) (enc : TypeId × Value → H) :
  ReturnsInHanded {} Tryz.checked os 5 .any (Rows.noiseCompressesSpec.pre6 enc Tryz.prog Tryz.f5 Rows.noiseCompressesRow.domain false) (Rows.noiseCompressesSpec.post enc Tryz.prog Tryz.f5 false true false false) := by
 refine returnsInHanded_of_change (C := Tryz.checked) own started (by kernel_rfl) Tryz.func5
  (ChangeSpec.witness6 (enc := enc) (C := Tryz.checked) false ⟨#[], #[.slice none 0 0, .agg #[.int .i64 0, .int .i64 0, .int .i64 0], .int .u8 0], []⟩ 8 (by kernel_rfl) (by kernel_rfl) (by kernel_rfl) (by kernel_rfl)) ?_
 intro W base args ds gs before hval0 hW hcnd _
 have hval : ∀ (j : Nat) t v, Tryz.f5.params[j]? = some t → args[j]? = some v → Value.okWide Tryz.prog W .any base t v := hval0
 have hW' := hW
 obtain ⟨p, q, hA0, hV, rfl, hfz, hnd⟩ := hW
 have hA : DataW.TrodAll enc Tryz.prog W 0 (fun _ => true) true Tryz.f5.params.toList args.toList ds p := hA0
 rw [Tryz.params5] at hA hval
 obtain ⟨v0, vs0, d0, ds0, p0, q0, hargs, rfl, rfl, h0, r0⟩ := trodAll_cons hA
 obtain ⟨v1, vs1, d1, ds1, p1, q1, rfl, rfl, rfl, h1, r1⟩ := trodAll_cons r0
 obtain ⟨v2, vs2, d2, ds2, p2, q2, rfl, rfl, rfl, h2, r2⟩ := trodAll_cons r1
 obtain ⟨rfl, rfl, rfl⟩ := trodAll_nil r2
 obtain rfl : args = #[v0, v1, v2] := by cases args; simp_all
 obtain ⟨rfl, rfl⟩ := trodVars_none hV
 have lt0 : ∀ x ∈ p0, x.block < W.heap.size := by obtain ⟨m, hm⟩ := h0; exact DataW.trod_lt m _ _ _ hm
 have lt1 : ∀ x ∈ p1, x.block < W.heap.size := by obtain ⟨m, hm⟩ := h1; exact DataW.trod_lt m _ _ _ hm
 have lt2 : ∀ x ∈ p2, x.block < W.heap.size := by obtain ⟨m, hm⟩ := h2; exact DataW.trod_lt m _ _ _ hm
 obtain ⟨l, k0⟩ := zH (hval 0 51 v0 rfl rfl) h0
 obtain ⟨f, k1⟩ := Bg (hval 1 23 v1 rfl rfl) h1
 obtain ⟨g, k2, w2⟩ := Sq Tryz.underlying5 (hval 2 5 v2 rfl rfl) h2
 clear hA0 hval0
 refine (tB (l := l) (f := f) (g := g) w2 [v0, v1, v2] (hv W) W (fun b o h => h) ⟨k0, k1, k2, trivial⟩).mono fun e W' ⟨v, V', he, _, _, _, bel, hb⟩ => ?_
 obtain rfl := Ab hb he
 exact ⟨_, rfl, _, _, _, [], _, [], hW', trodAll_mk1 (shut_bool Tryz.underlying4 _), (trodAll_cons_mk (Below.trod tJ (by kernel_rfl) (of_decide_eq_true (by kernel_rfl)) h0 bel lt0) (trodAll_cons_mk (Below.trod tJ (by kernel_rfl) (of_decide_eq_true (by kernel_rfl)) h1 bel lt1) (trodAll_cons_mk (Below.trod tJ (by kernel_rfl) (of_decide_eq_true (by kernel_rfl)) h2 bel lt2) trodAll_mk0))), rfl, bel.frame _, fun h => by cases h⟩
theorem rY : Tryz.pinned.checked.prog.funcNamed Rows.noiseCompressesRow.func = some 5 := by kernel_rfl
theorem sC : laidOutB Tryz.pinned.checked.prog = true := by kernel_rfl
theorem sD : mapsRowed Tryz.pinned.checked.prog = true := by kernel_rfl
theorem sE : (Rows.noiseCompressesRow.inPlace == Tryz.pinned.checked.prog.inPlace 5) = true := by kernel_rfl
theorem sF : (Rows.noiseCompressesRow.unfollowed == Tryz.pinned.checked.prog.unfollowed 5) = true := by kernel_rfl
theorem sG : (Rows.noiseCompressesRow.recurses == Tryz.pinned.checked.prog.recurses 5) = true := by kernel_rfl
theorem sH : (Rows.noiseCompressesRow.named == Tryz.pinned.checked.prog.varsNamed 5) = true := by kernel_rfl
theorem sI : (Rows.noiseCompressesRow.plainKeys == Tryz.pinned.checked.prog.plainKeys) = true := by kernel_rfl
theorem sJ : Tryz.pinned.checked.prog.stopsHeard = true := by kernel_rfl
theorem sK : Tryz.pinned.checked.prog.mayEnter = true := by kernel_rfl
theorem sL : (Rows.noiseCompressesRow.lifted == Tryz.pinned.checked.prog.liftsFinal) = true := by kernel_rfl
theorem rK : (Tryz.pinned.checked.prog.make == some Rows.noiseCompressesRow.make) = true := by kernel_rfl
theorem rZ : joinedFacts Tryz.pinned.checked.prog 5 Tryz.f5 Rows.noiseCompressesSpec Rows.noiseCompressesRow = true := by unfold joinedFacts; rw [sC, sD, sE, sF, sG, sH, sI, sJ, sK, sL, rK]; kernel_rfl
theorem sA : Func.isInstance Tryz.pinned.checked.prog Tryz.f5 Rows.noiseCompressesRow.origin Rows.noiseCompressesRow.targs := of_decide_eq_true (by kernel_rfl)
theorem sB : Func.isWrapper Tryz.pinned.checked.prog Tryz.f5 Rows.noiseCompressesRow.wrapper Rows.noiseCompressesRow.mainSum := by unfold Func.isWrapper; first | (rw [if_pos (by decide +kernel)]; kernel_rfl) | (rw [if_neg (by decide +kernel)]; exact ⟨rfl, rfl⟩)
theorem noiseCompresses_proved : Rows.NoiseCompressesSaid :=
 OpenClaim.holds_of_wide 5 Tryz.f5 rfl rfl rfl rfl rfl rfl rfl ⟨rfl, rfl, rfl, rfl, rfl⟩ rfl rfl rfl rfl rfl rY Tryz.func5 rZ sA sB
  (fun os started H enc _ => lifted_noiseCompresses os started H enc)
end
end Go.Proofs.YthcmlodgnfekeaaGreat
