/- The products of exchanged frequencies have M and N exchanged, none is the negative of another one, and each frequency is M f1 + N f2 Conditions: none beyond those of the given statement. -/
import Derived.Test.YthcmlodgnfekeaaGreatP04
set_option linter.unusedVariables false
set_option linter.unusedSimpArgs false
set_option maxRecDepth 100000
set_option maxHeartbeats 4000000
namespace Go.Proofs.YthcmlodgnfekeaaGreat
section
open Go Go.ChangeShapes Go.WideShapes Go.ChangeAt Go.RowKit
theorem lifted_noiseMirrors (os : Os) (started : os.Started) (H : Type) (enc : TypeId × Value → H) :
  ReturnsInHanded {} Tryz.checked os 11 .any (Rows.noiseMirrorsSpec.pre6 enc Tryz.prog Tryz.f11 Rows.noiseMirrorsRow.domain false) (Rows.noiseMirrorsSpec.post enc Tryz.prog Tryz.f11 false true false false) := by
 refine returnsInHanded_of_change (C := Tryz.checked) Xf started (by kernel_rfl) Tryz.func11
  (ChangeSpec.witness6 (enc := enc) (C := Tryz.checked) false ⟨#[], #[.agg #[.int .i64 0, .int .i64 0, .int .i64 0], .agg #[.int .i64 0, .int .i64 0, .int .i64 0], .agg #[.int .i64 0, .int .i64 0, .int .i64 0], .int .u8 0], []⟩ 8 (by kernel_rfl) (by kernel_rfl) (by kernel_rfl) (by kernel_rfl)) ?_
 intro W base args ds gs before hval0 hW hcnd _
 have hval : ∀ (j : Nat) t v, Tryz.f11.params[j]? = some t → args[j]? = some v → Value.okWide Tryz.prog W .any base t v := hval0
 have hW' := hW
 obtain ⟨p, q, hA0, hV, rfl, hfz, hnd⟩ := hW
 have hA : DataW.TrodAll enc Tryz.prog W 0 (fun _ => true) true Tryz.f11.params.toList args.toList ds p := hA0
 rw [Tryz.params11] at hA hval
 obtain ⟨v0, vs0, d0, ds0, p0, q0, hargs, rfl, rfl, h0, r0⟩ := trodAll_cons hA
 obtain ⟨v1, vs1, d1, ds1, p1, q1, rfl, rfl, rfl, h1, r1⟩ := trodAll_cons r0
 obtain ⟨v2, vs2, d2, ds2, p2, q2, rfl, rfl, rfl, h2, r2⟩ := trodAll_cons r1
 obtain ⟨v3, vs3, d3, ds3, p3, q3, rfl, rfl, rfl, h3, r3⟩ := trodAll_cons r2
 obtain ⟨rfl, rfl, rfl⟩ := trodAll_nil r3
 obtain rfl : args = #[v0, v1, v2, v3] := by cases args; simp_all
 obtain ⟨rfl, rfl⟩ := trodVars_none hV
 have lt0 : ∀ x ∈ p0, x.block < W.heap.size := by obtain ⟨m, hm⟩ := h0; exact DataW.trod_lt m _ _ _ hm
 have lt1 : ∀ x ∈ p1, x.block < W.heap.size := by obtain ⟨m, hm⟩ := h1; exact DataW.trod_lt m _ _ _ hm
 have lt2 : ∀ x ∈ p2, x.block < W.heap.size := by obtain ⟨m, hm⟩ := h2; exact DataW.trod_lt m _ _ _ hm
 have lt3 : ∀ x ∈ p3, x.block < W.heap.size := by obtain ⟨m, hm⟩ := h3; exact DataW.trod_lt m _ _ _ hm
 obtain ⟨a, k0⟩ := qY (hval 0 23 v0 rfl rfl) h0
 obtain ⟨b, k1⟩ := qY (hval 1 23 v1 rfl rfl) h1
 obtain ⟨hi, k2⟩ := qY (hval 2 23 v2 rfl rfl) h2
 obtain ⟨g, k3, w3⟩ := Lf Tryz.underlying5 (hval 3 5 v3 rfl rfl) h3
 clear hA0 hval0
 refine (tD (a := a) (b := b) (hi := hi) (g := g) w3 [v0, v1, v2, v3] (hv W) W (fun b o h => h) ⟨k0, k1, k2, k3, trivial⟩).mono fun e W' ⟨v, V', he, _, _, _, bel, hb⟩ => ?_
 obtain rfl := Eu hb he
 exact ⟨_, rfl, _, _, _, [], _, [], hW', trodAll_mk1 (shut_bool Tryz.underlying4 _), (trodAll_cons_mk (Below.trod sP (by kernel_rfl) (of_decide_eq_true (by kernel_rfl)) h0 bel.1 lt0) (trodAll_cons_mk (Below.trod sP (by kernel_rfl) (of_decide_eq_true (by kernel_rfl)) h1 bel.1 lt1) (trodAll_cons_mk (Below.trod sP (by kernel_rfl) (of_decide_eq_true (by kernel_rfl)) h2 bel.1 lt2) (trodAll_cons_mk (Below.trod sP (by kernel_rfl) (of_decide_eq_true (by kernel_rfl)) h3 bel.1 lt3) trodAll_mk0)))), rfl, bel.1.frame _, fun h => by cases h⟩
theorem rO : Tryz.pinned.checked.prog.funcNamed Rows.noiseMirrorsRow.func = some 11 := by kernel_rfl
theorem rS : laidOutB Tryz.pinned.checked.prog = true := by kernel_rfl
theorem rT : mapsRowed Tryz.pinned.checked.prog = true := by kernel_rfl
theorem rU : (Rows.noiseMirrorsRow.inPlace == Tryz.pinned.checked.prog.inPlace 11) = true := by kernel_rfl
theorem rV : (Rows.noiseMirrorsRow.unfollowed == Tryz.pinned.checked.prog.unfollowed 11) = true := by kernel_rfl
theorem rW : (Rows.noiseMirrorsRow.recurses == Tryz.pinned.checked.prog.recurses 11) = true := by kernel_rfl
theorem rX : (Rows.noiseMirrorsRow.named == Tryz.pinned.checked.prog.varsNamed 11) = true := by kernel_rfl
theorem rY : (Rows.noiseMirrorsRow.plainKeys == Tryz.pinned.checked.prog.plainKeys) = true := by kernel_rfl
theorem rZ : Tryz.pinned.checked.prog.stopsHeard = true := by kernel_rfl
theorem sA : Tryz.pinned.checked.prog.mayEnter = true := by kernel_rfl
theorem sB : (Rows.noiseMirrorsRow.lifted == Tryz.pinned.checked.prog.liftsFinal) = true := by kernel_rfl
theorem qR : (Tryz.pinned.checked.prog.make == some Rows.noiseMirrorsRow.make) = true := by kernel_rfl
theorem rP : joinedFacts Tryz.pinned.checked.prog 11 Tryz.f11 Rows.noiseMirrorsSpec Rows.noiseMirrorsRow = true := by unfold joinedFacts; rw [rS, rT, rU, rV, rW, rX, rY, rZ, sA, sB, qR]; kernel_rfl
theorem rQ : Func.isInstance Tryz.pinned.checked.prog Tryz.f11 Rows.noiseMirrorsRow.origin Rows.noiseMirrorsRow.targs := of_decide_eq_true (by kernel_rfl)
theorem rR : Func.isWrapper Tryz.pinned.checked.prog Tryz.f11 Rows.noiseMirrorsRow.wrapper Rows.noiseMirrorsRow.mainSum := by unfold Func.isWrapper; first | (rw [if_pos (by decide +kernel)]; kernel_rfl) | (rw [if_neg (by decide +kernel)]; exact ⟨rfl, rfl⟩)
theorem noiseMirrors_proved : Rows.NoiseMirrorsSaid :=
 OpenClaim.holds_of_wide 11 Tryz.f11 rfl rfl rfl rfl rfl rfl rfl ⟨rfl, rfl, rfl, rfl, rfl⟩ rfl rfl rfl rfl rfl rO Tryz.func11 rP rQ rR
  (fun os started H enc _ => lifted_noiseMirrors os started H enc)
end
end Go.Proofs.YthcmlodgnfekeaaGreat
