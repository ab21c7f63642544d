/- Temperature of any temperatures and powers (given by their bits), FactorOf and First return the results of the reference Conditions: none beyond those of the given statement. -/
import Derived.Test.YthcmlodgnfekeaaGreatP04
set_option linter.unusedVariables false
set_option linter.unusedSimpArgs false
set_option maxRecDepth 100000
set_option maxHeartbeats 4000000
namespace Go.Proofs.YthcmlodgnfekeaaGreat
section
open Go Go.ChangeShapes Go.WideShapes Go.ChangeAt Go.RowKit
theorem lifted_noiseReceivers (os : Os) (started : os.Started) (H : Type) (enc : TypeId × Value → H) :
  ReturnsInHanded {} Tryz.checked os 3 .any (Rows.noiseReceiversSpec.pre6 enc Tryz.prog Tryz.f3 Rows.noiseReceiversRow.domain false) (Rows.noiseReceiversSpec.post enc Tryz.prog Tryz.f3 false true false false) := by
 refine returnsInHanded_of_change (C := Tryz.checked) Xy started (by kernel_rfl) Tryz.func3
  (ChangeSpec.witness6 (enc := enc) (C := Tryz.checked) false ⟨#[], #[.agg #[.int .i64 0, .int .i64 0, .int .i64 0], .agg #[.int .i64 0, .int .i64 0, .int .i64 0], .int .u32 0, .int .u32 0, .agg #[.int .i64 0, .int .i64 0, .int .i64 0]], []⟩ 8 (by kernel_rfl) (by kernel_rfl) (by kernel_rfl) (by kernel_rfl)) ?_
 intro W base args ds gs before hval0 hW hcnd _
 have hval : ∀ (j : Nat) t v, Tryz.f3.params[j]? = some t → args[j]? = some v → Value.okWide Tryz.prog W .any base t v := hval0
 have hW' := hW
 obtain ⟨p, q, hA0, hV, rfl, hfz, hnd⟩ := hW
 have hA : DataW.TrodAll enc Tryz.prog W 0 (fun _ => true) true Tryz.f3.params.toList args.toList ds p := hA0
 rw [Tryz.params3] at hA hval
 obtain ⟨v0, vs0, d0, ds0, p0, q0, hargs, rfl, rfl, h0, r0⟩ := trodAll_cons hA
 obtain ⟨v1, vs1, d1, ds1, p1, q1, rfl, rfl, rfl, h1, r1⟩ := trodAll_cons r0
 obtain ⟨v2, vs2, d2, ds2, p2, q2, rfl, rfl, rfl, h2, r2⟩ := trodAll_cons r1
 obtain ⟨v3, vs3, d3, ds3, p3, q3, rfl, rfl, rfl, h3, r3⟩ := trodAll_cons r2
 obtain ⟨v4, vs4, d4, ds4, p4, q4, rfl, rfl, rfl, h4, r4⟩ := trodAll_cons r3
 obtain ⟨rfl, rfl, rfl⟩ := trodAll_nil r4
 obtain rfl : args = #[v0, v1, v2, v3, v4] := by cases args; simp_all
 obtain ⟨rfl, rfl⟩ := trodVars_none hV
 have lt0 : ∀ x ∈ p0, x.block < W.heap.size := by obtain ⟨m, hm⟩ := h0; exact DataW.trod_lt m _ _ _ hm
 have lt1 : ∀ x ∈ p1, x.block < W.heap.size := by obtain ⟨m, hm⟩ := h1; exact DataW.trod_lt m _ _ _ hm
 have lt2 : ∀ x ∈ p2, x.block < W.heap.size := by obtain ⟨m, hm⟩ := h2; exact DataW.trod_lt m _ _ _ hm
 have lt3 : ∀ x ∈ p3, x.block < W.heap.size := by obtain ⟨m, hm⟩ := h3; exact DataW.trod_lt m _ _ _ hm
 have lt4 : ∀ x ∈ p4, x.block < W.heap.size := by obtain ⟨m, hm⟩ := h4; exact DataW.trod_lt m _ _ _ hm
 obtain ⟨hot, k0⟩ := tF (hval 0 23 v0 rfl rfl) h0
 obtain ⟨cold, k1⟩ := tF (hval 1 23 v1 rfl rfl) h1
 obtain ⟨ph, k2, w2⟩ := xX Tryz.underlying24 (hval 2 24 v2 rfl rfl) h2
 obtain ⟨pc, k3, w3⟩ := xX Tryz.underlying24 (hval 3 24 v3 rfl rfl) h3
 obtain ⟨g, k4⟩ := tF (hval 4 23 v4 rfl rfl) h4
 clear hA0 hval0
 refine (sT (hot := hot) (cold := cold) (ph := ph) (pc := pc) (g := g) [v0, v1, v2, v3, v4] (hv W) W (fun b o h => h) ⟨k0, k1, k2, k3, k4, trivial⟩).mono fun e W' ⟨v, V', he, _, _, _, bel, hb⟩ => ?_
 obtain rfl := Hg hb he
 exact ⟨_, rfl, _, _, _, [], _, [], hW', trodAll_mk1 (shut_bool Tryz.underlying4 _), (trodAll_cons_mk (Below.trod rO (by kernel_rfl) (of_decide_eq_true (by kernel_rfl)) h0 bel lt0) (trodAll_cons_mk (Below.trod rO (by kernel_rfl) (of_decide_eq_true (by kernel_rfl)) h1 bel lt1) (trodAll_cons_mk (Below.trod rO (by kernel_rfl) (of_decide_eq_true (by kernel_rfl)) h2 bel lt2) (trodAll_cons_mk (Below.trod rO (by kernel_rfl) (of_decide_eq_true (by kernel_rfl)) h3 bel lt3) (trodAll_cons_mk (Below.trod rO (by kernel_rfl) (of_decide_eq_true (by kernel_rfl)) h4 bel lt4) trodAll_mk0))))), rfl, bel.frame _, fun h => by cases h⟩
theorem rW : Tryz.pinned.checked.prog.funcNamed Rows.noiseReceiversRow.func = some 3 := by kernel_rfl
theorem sA : laidOutB Tryz.pinned.checked.prog = true := by kernel_rfl
theorem sB : mapsRowed Tryz.pinned.checked.prog = true := by kernel_rfl
theorem sC : (Rows.noiseReceiversRow.inPlace == Tryz.pinned.checked.prog.inPlace 3) = true := by kernel_rfl
theorem sD : (Rows.noiseReceiversRow.unfollowed == Tryz.pinned.checked.prog.unfollowed 3) = true := by kernel_rfl
theorem sE : (Rows.noiseReceiversRow.recurses == Tryz.pinned.checked.prog.recurses 3) = true := by kernel_rfl
theorem sF : (Rows.noiseReceiversRow.named == Tryz.pinned.checked.prog.varsNamed 3) = true := by kernel_rfl
theorem sG : (Rows.noiseReceiversRow.plainKeys == Tryz.pinned.checked.prog.plainKeys) = true := by kernel_rfl
theorem sH : Tryz.pinned.checked.prog.stopsHeard = true := by kernel_rfl
theorem sI : Tryz.pinned.checked.prog.mayEnter = true := by kernel_rfl
theorem sJ : (Rows.noiseReceiversRow.lifted == Tryz.pinned.checked.prog.liftsFinal) = true := by kernel_rfl
theorem qQ : (Tryz.pinned.checked.prog.make == some Rows.noiseReceiversRow.make) = true := by kernel_rfl
theorem rX : joinedFacts Tryz.pinned.checked.prog 3 Tryz.f3 Rows.noiseReceiversSpec Rows.noiseReceiversRow = true := by unfold joinedFacts; rw [sA, sB, sC, sD, sE, sF, sG, sH, sI, sJ, qQ]; kernel_rfl
theorem rY : Func.isInstance Tryz.pinned.checked.prog Tryz.f3 Rows.noiseReceiversRow.origin Rows.noiseReceiversRow.targs := of_decide_eq_true (by kernel_rfl)
theorem rZ : Func.isWrapper Tryz.pinned.checked.prog Tryz.f3 Rows.noiseReceiversRow.wrapper Rows.noiseReceiversRow.mainSum := by unfold Func.isWrapper; first | (rw [if_pos (by decide +kernel)]; kernel_rfl) | (rw [if_neg (by decide +kernel)]; exact ⟨rfl, rfl⟩)
theorem noiseReceivers_proved : Rows.NoiseReceiversSaid :=
 OpenClaim.holds_of_wide 3 Tryz.f3 rfl rfl rfl rfl rfl rfl rfl ⟨rfl, rfl, rfl, rfl, rfl⟩ rfl rfl rfl rfl rfl rW Tryz.func3 rX rY rZ
  (fun os started H enc _ => lifted_noiseReceivers os started H enc)
end
end Go.Proofs.YthcmlodgnfekeaaGreat
