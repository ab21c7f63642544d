/- Terminate of the program returns the network, the noise or the error of the reference, which joins a device with one port that has its own noise, for every network with noise of up to eight ports, every port, every load and every temperature. Conditions: none beyond those of the given statement. -/
import Derived.Test.YteimkhgiekndjaaGreatP06
set_option linter.unusedVariables false
set_option linter.unusedSimpArgs false
set_option maxRecDepth 100000
set_option maxHeartbeats 4000000
namespace Go.Proofs.YteimkhgiekndjaaGreat
section
open Go Go.ChangeShapes Go.WideShapes Go.ChangeAt Go.RowKit
theorem lifted_noiseTerminates (os : Os) (started : os.Started) (H : Type) (enc : TypeId × Value → H) :
  ReturnsInHanded {} Tryz.checked os 7 .any (Rows.noiseTerminatesSpec.pre6 enc Tryz.prog Tryz.f7 Rows.noiseTerminatesRow.domain false) (Rows.noiseTerminatesSpec.post enc Tryz.prog Tryz.f7 false true false false) := by
 refine returnsInHanded_of_change (C := Tryz.checked) own started (by kernel_rfl) Tryz.func7
  (ChangeSpec.witness6 (enc := enc) (C := Tryz.checked) false ⟨#[], #[.agg #[.slice none 0 0, .slice none 0 0, .slice none 0 0], .int .i64 0, .agg #[.int .i64 0, .int .i64 0, .int .i64 0], .agg #[.int .i64 0, .int .i64 0, .int .i64 0]], []⟩ 8 (by kernel_rfl) (by kernel_rfl) (by kernel_rfl) (by kernel_rfl)) ?_
 intro W base args ds gs before hval0 hW hcnd _
 have hval : ∀ (j : Nat) t v, Tryz.f7.params[j]? = some t → args[j]? = some v → Value.okWide Tryz.prog W .any base t v := hval0
 have hW' := hW
 obtain ⟨p, q, hA0, hV, rfl, hfz, hnd⟩ := hW
 have hA : DataW.TrodAll enc Tryz.prog W 0 (fun _ => true) true Tryz.f7.params.toList args.toList ds p := hA0
 rw [Tryz.params7] at hA hval
 obtain ⟨v0, vs0, d0, ds0, p0, q0, hargs, rfl, rfl, h0, r0⟩ := trodAll_cons hA
 obtain ⟨v1, vs1, d1, ds1, p1, q1, rfl, rfl, rfl, h1, r1⟩ := trodAll_cons r0
 obtain ⟨v2, vs2, d2, ds2, p2, q2, rfl, rfl, rfl, h2, r2⟩ := trodAll_cons r1
 obtain ⟨v3, vs3, d3, ds3, p3, q3, rfl, rfl, rfl, h3, r3⟩ := trodAll_cons r2
 obtain ⟨rfl, rfl, rfl⟩ := trodAll_nil r3
 obtain rfl : args = #[v0, v1, v2, v3] := by cases args; simp_all
 obtain ⟨rfl, rfl⟩ := trodVars_none hV
 have lt0 : ∀ x ∈ p0, x.block < W.heap.size := by obtain ⟨m, hm⟩ := h0; exact DataW.trod_lt m _ _ _ hm
 have lt1 : ∀ x ∈ p1, x.block < W.heap.size := by obtain ⟨m, hm⟩ := h1; exact DataW.trod_lt m _ _ _ hm
 have lt2 : ∀ x ∈ p2, x.block < W.heap.size := by obtain ⟨m, hm⟩ := h2; exact DataW.trod_lt m _ _ _ hm
 have lt3 : ∀ x ∈ p3, x.block < W.heap.size := by obtain ⟨m, hm⟩ := h3; exact DataW.trod_lt m _ _ _ hm
 obtain ⟨z, s, c, k0⟩ := trod_lawT (hval 0 74 v0 rfl rfl) h0
 obtain ⟨port, k1, w1⟩ := trod_intT Tryz.underlying3 (hval 1 3 v1 rfl rfl) h1
 obtain ⟨g, k2⟩ := trod_ratT (hval 2 91 v2 rfl rfl) h2
 obtain ⟨t, k3⟩ := trod_ratT (hval 3 91 v3 rfl rfl) h3
 clear hA0 hval0
 refine (c_NoiseTerminates (z := z) (s := s) (c := c) (port := port) (g := g) (t := t) [v0, v1, v2, v3] (hv W) W (fun b o h => h) ⟨k0, k1, k2, k3, trivial⟩).mono fun e W' ⟨v, V', he, _, _, _, bel, hb⟩ => ?_
 obtain rfl := bool_true hb he
 exact ⟨_, rfl, _, _, _, [], _, [], hW', trodAll_mk1 (shut_bool Tryz.underlying4 _), (trodAll_cons_mk (Below.trod laidOut (by kernel_rfl) (of_decide_eq_true (by kernel_rfl)) h0 bel lt0) (trodAll_cons_mk (Below.trod laidOut (by kernel_rfl) (of_decide_eq_true (by kernel_rfl)) h1 bel lt1) (trodAll_cons_mk (Below.trod laidOut (by kernel_rfl) (of_decide_eq_true (by kernel_rfl)) h2 bel lt2) (trodAll_cons_mk (Below.trod laidOut (by kernel_rfl) (of_decide_eq_true (by kernel_rfl)) h3 bel lt3) trodAll_mk0)))), rfl, bel.frame _, fun h => by cases h⟩
theorem noiseTerminates_f1 : Tryz.pinned.checked.prog.funcNamed Rows.noiseTerminatesRow.func = some 7 := by kernel_rfl
theorem noiseTerminates_g0 : laidOutB Tryz.pinned.checked.prog = true := by kernel_rfl
theorem noiseTerminates_g1 : mapsRowed Tryz.pinned.checked.prog = true := by kernel_rfl
theorem noiseTerminates_g2 : (Rows.noiseTerminatesRow.inPlace == Tryz.pinned.checked.prog.inPlace 7) = true := by kernel_rfl
theorem noiseTerminates_g3 : (Rows.noiseTerminatesRow.unfollowed == Tryz.pinned.checked.prog.unfollowed 7) = true := by kernel_rfl
theorem noiseTerminates_g4 : (Rows.noiseTerminatesRow.recurses == Tryz.pinned.checked.prog.recurses 7) = true := by kernel_rfl
theorem noiseTerminates_g5 : (Rows.noiseTerminatesRow.named == Tryz.pinned.checked.prog.varsNamed 7) = true := by kernel_rfl
theorem noiseTerminates_g6 : (Rows.noiseTerminatesRow.plainKeys == Tryz.pinned.checked.prog.plainKeys) = true := by kernel_rfl
theorem noiseTerminates_g7 : Tryz.pinned.checked.prog.stopsHeard = true := by kernel_rfl
theorem noiseTerminates_g8 : Tryz.pinned.checked.prog.mayEnter = true := by kernel_rfl
theorem noiseTerminates_g9 : (Rows.noiseTerminatesRow.lifted == Tryz.pinned.checked.prog.liftsFinal) = true := by kernel_rfl
theorem noiseTerminates_g10 : (Tryz.pinned.checked.prog.make == some Rows.noiseTerminatesRow.make) = true := by kernel_rfl
theorem noiseTerminates_f2 : joinedFacts Tryz.pinned.checked.prog 7 Tryz.f7 Rows.noiseTerminatesSpec Rows.noiseTerminatesRow = true := by unfold joinedFacts; rw [noiseTerminates_g0, noiseTerminates_g1, noiseTerminates_g2, noiseTerminates_g3, noiseTerminates_g4, noiseTerminates_g5, noiseTerminates_g6, noiseTerminates_g7, noiseTerminates_g8, noiseTerminates_g9, noiseTerminates_g10]; kernel_rfl
theorem noiseTerminates_f3 : Func.isInstance Tryz.pinned.checked.prog Tryz.f7 Rows.noiseTerminatesRow.origin Rows.noiseTerminatesRow.targs := of_decide_eq_true (by kernel_rfl)
theorem noiseTerminates_f4 : Func.isWrapper Tryz.pinned.checked.prog Tryz.f7 Rows.noiseTerminatesRow.wrapper Rows.noiseTerminatesRow.mainSum := by unfold Func.isWrapper; first | (rw [if_pos (by decide +kernel)]; kernel_rfl) | (rw [if_neg (by decide +kernel)]; exact ⟨rfl, rfl⟩)
theorem noiseTerminates_proved : Rows.NoiseTerminatesSaid :=
 OpenClaim.holds_of_wide 7 Tryz.f7 rfl rfl rfl rfl rfl rfl rfl ⟨rfl, rfl, rfl, rfl, rfl⟩ rfl rfl rfl rfl rfl noiseTerminates_f1 Tryz.func7 noiseTerminates_f2 noiseTerminates_f3 noiseTerminates_f4
  (fun os started H enc _ => lifted_noiseTerminates os started H enc)
end
end Go.Proofs.YteimkhgiekndjaaGreat
