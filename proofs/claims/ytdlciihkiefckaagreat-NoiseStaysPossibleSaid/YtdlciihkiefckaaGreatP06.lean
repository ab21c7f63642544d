/- Connecting a possible network with noise, describing it with other impedances, stacking it, and terminating it with a passive load, leaves it possible; its noise factor is at least 1. Conditions: none beyond those of the given statement. -/
import Derived.Test.YtdlciihkiefckaaGreatP05
set_option linter.unusedVariables false
set_option linter.unusedSimpArgs false
set_option maxRecDepth 100000
set_option maxHeartbeats 4000000
namespace Go.Proofs.YtdlciihkiefckaaGreat
section
open Go Go.ChangeShapes Go.WideShapes Go.ChangeAt Go.RowKit
theorem lifted_noiseStaysPossible (os : Os) (started : os.Started) (H : Type) (enc : TypeId × Value → H) :
  ReturnsInHanded {} Tryz.checked os 6 .any (Rows.noiseStaysPossibleSpec.pre6 enc Tryz.prog Tryz.f6 Rows.noiseStaysPossibleRow.domain false) (Rows.noiseStaysPossibleSpec.post enc Tryz.prog Tryz.f6 false true false false) := by
 refine returnsInHanded_of_change (C := Tryz.checked) own started (by kernel_rfl) Tryz.func6
  (ChangeSpec.witness6 (enc := enc) (C := Tryz.checked) false ⟨#[], #[.agg #[.slice none 0 0, .slice none 0 0, .slice none 0 0], .slice none 0 0, .int .i64 0, .agg #[.int .i64 0, .int .i64 0, .int .i64 0], .agg #[.int .i64 0, .int .i64 0, .int .i64 0], .slice none 0 0], []⟩ 8 (by kernel_rfl) (by kernel_rfl) (by kernel_rfl) (by kernel_rfl)) ?_
 intro W base args ds gs before hval0 hW hcnd _
 have hval : ∀ (j : Nat) t v, Tryz.f6.params[j]? = some t → args[j]? = some v → Value.okWide Tryz.prog W .any base t v := hval0
 have hW' := hW
 obtain ⟨p, q, hA0, hV, rfl, hfz, hnd⟩ := hW
 have hA : DataW.TrodAll enc Tryz.prog W 0 (fun _ => true) true Tryz.f6.params.toList args.toList ds p := hA0
 rw [Tryz.params6] at hA hval
 obtain ⟨v0, vs0, d0, ds0, p0, q0, hargs, rfl, rfl, h0, r0⟩ := trodAll_cons hA
 obtain ⟨v1, vs1, d1, ds1, p1, q1, rfl, rfl, rfl, h1, r1⟩ := trodAll_cons r0
 obtain ⟨v2, vs2, d2, ds2, p2, q2, rfl, rfl, rfl, h2, r2⟩ := trodAll_cons r1
 obtain ⟨v3, vs3, d3, ds3, p3, q3, rfl, rfl, rfl, h3, r3⟩ := trodAll_cons r2
 obtain ⟨v4, vs4, d4, ds4, p4, q4, rfl, rfl, rfl, h4, r4⟩ := trodAll_cons r3
 obtain ⟨v5, vs5, d5, ds5, p5, q5, rfl, rfl, rfl, h5, r5⟩ := trodAll_cons r4
 obtain ⟨rfl, rfl, rfl⟩ := trodAll_nil r5
 obtain rfl : args = #[v0, v1, v2, v3, v4, v5] := by cases args; simp_all
 obtain ⟨rfl, rfl⟩ := trodVars_none hV
 have lt0 : ∀ x ∈ p0, x.block < W.heap.size := by obtain ⟨m, hm⟩ := h0; exact DataW.trod_lt m _ _ _ hm
 have lt1 : ∀ x ∈ p1, x.block < W.heap.size := by obtain ⟨m, hm⟩ := h1; exact DataW.trod_lt m _ _ _ hm
 have lt2 : ∀ x ∈ p2, x.block < W.heap.size := by obtain ⟨m, hm⟩ := h2; exact DataW.trod_lt m _ _ _ hm
 have lt3 : ∀ x ∈ p3, x.block < W.heap.size := by obtain ⟨m, hm⟩ := h3; exact DataW.trod_lt m _ _ _ hm
 have lt4 : ∀ x ∈ p4, x.block < W.heap.size := by obtain ⟨m, hm⟩ := h4; exact DataW.trod_lt m _ _ _ hm
 have lt5 : ∀ x ∈ p5, x.block < W.heap.size := by obtain ⟨m, hm⟩ := h5; exact DataW.trod_lt m _ _ _ hm
 obtain ⟨z, s, c, k0⟩ := Vp (hval 0 77 v0 rfl rfl) h0
 obtain ⟨js, k1⟩ := Vq (hval 1 65 v1 rfl rfl) h1
 obtain ⟨port, k2, w2⟩ := Vo Tryz.underlying3 (hval 2 3 v2 rfl rfl) h2
 obtain ⟨g, k3⟩ := Fu (hval 3 48 v3 rfl rfl) h3
 obtain ⟨tq, k4⟩ := Fu (hval 4 48 v4 rfl rfl) h4
 obtain ⟨w, k5⟩ := Oy (hval 5 22 v5 rfl rfl) h5
 clear hA0 hval0
 refine (tM (z := z) (s := s) (c := c) (js := js) (port := port) (g := g) (tq := tq) (w := w) [v0, v1, v2, v3, v4, v5] (hv W) W (fun b o h => h) ⟨k0, k1, k2, k3, k4, k5, trivial⟩).mono fun e W' ⟨v, V', he, _, _, _, bel, hb⟩ => ?_
 obtain rfl := Tb hb he
 exact ⟨_, rfl, _, _, _, [], _, [], hW', trodAll_mk1 (shut_bool Tryz.underlying4 _), (trodAll_cons_mk (Below.trod uV (by kernel_rfl) (of_decide_eq_true (by kernel_rfl)) h0 bel lt0) (trodAll_cons_mk (Below.trod uV (by kernel_rfl) (of_decide_eq_true (by kernel_rfl)) h1 bel lt1) (trodAll_cons_mk (Below.trod uV (by kernel_rfl) (of_decide_eq_true (by kernel_rfl)) h2 bel lt2) (trodAll_cons_mk (Below.trod uV (by kernel_rfl) (of_decide_eq_true (by kernel_rfl)) h3 bel lt3) (trodAll_cons_mk (Below.trod uV (by kernel_rfl) (of_decide_eq_true (by kernel_rfl)) h4 bel lt4) (trodAll_cons_mk (Below.trod uV (by kernel_rfl) (of_decide_eq_true (by kernel_rfl)) h5 bel lt5) trodAll_mk0)))))), rfl, bel.frame _, fun h => by cases h⟩
theorem sQ : Tryz.pinned.checked.prog.funcNamed Rows.noiseStaysPossibleRow.func = some 6 := by kernel_rfl
theorem sU : laidOutB Tryz.pinned.checked.prog = true := by kernel_rfl
theorem sW : mapsRowed Tryz.pinned.checked.prog = true := by kernel_rfl
theorem sX : (Rows.noiseStaysPossibleRow.inPlace == Tryz.pinned.checked.prog.inPlace 6) = true := by kernel_rfl
theorem sY : (Rows.noiseStaysPossibleRow.unfollowed == Tryz.pinned.checked.prog.unfollowed 6) = true := by kernel_rfl
theorem sZ : (Rows.noiseStaysPossibleRow.recurses == Tryz.pinned.checked.prog.recurses 6) = true := by kernel_rfl
theorem tA : (Rows.noiseStaysPossibleRow.named == Tryz.pinned.checked.prog.varsNamed 6) = true := by kernel_rfl
theorem tB : (Rows.noiseStaysPossibleRow.plainKeys == Tryz.pinned.checked.prog.plainKeys) = true := by kernel_rfl
theorem tC : Tryz.pinned.checked.prog.stopsHeard = true := by kernel_rfl
theorem tD : Tryz.pinned.checked.prog.mayEnter = true := by kernel_rfl
theorem tE : (Rows.noiseStaysPossibleRow.lifted == Tryz.pinned.checked.prog.liftsFinal) = true := by kernel_rfl
theorem sF : (Tryz.pinned.checked.prog.make == some Rows.noiseStaysPossibleRow.make) = true := by kernel_rfl
theorem sR : joinedFacts Tryz.pinned.checked.prog 6 Tryz.f6 Rows.noiseStaysPossibleSpec Rows.noiseStaysPossibleRow = true := by unfold joinedFacts; rw [sU, sW, sX, sY, sZ, tA, tB, tC, tD, tE, sF]; kernel_rfl
theorem sS : Func.isInstance Tryz.pinned.checked.prog Tryz.f6 Rows.noiseStaysPossibleRow.origin Rows.noiseStaysPossibleRow.targs := of_decide_eq_true (by kernel_rfl)
theorem sT : Func.isWrapper Tryz.pinned.checked.prog Tryz.f6 Rows.noiseStaysPossibleRow.wrapper Rows.noiseStaysPossibleRow.mainSum := by unfold Func.isWrapper; first | (rw [if_pos (by decide +kernel)]; kernel_rfl) | (rw [if_neg (by decide +kernel)]; exact ⟨rfl, rfl⟩)
theorem noiseStaysPossible_proved : Rows.NoiseStaysPossibleSaid :=
 OpenClaim.holds_of_wide 6 Tryz.f6 rfl rfl rfl rfl rfl rfl rfl ⟨rfl, rfl, rfl, rfl, rfl⟩ rfl rfl rfl rfl rfl sQ Tryz.func6 sR sS sT
  (fun os started H enc _ => lifted_noiseStaysPossible os started H enc)
end
end Go.Proofs.YtdlciihkiefckaaGreat
