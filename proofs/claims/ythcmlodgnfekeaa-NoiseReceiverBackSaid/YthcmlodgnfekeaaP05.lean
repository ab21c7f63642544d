/- The powers k (hot + t) and k (cold + t) give the temperature t, and the factor of a device ahead of a receiver is given back Conditions: none beyond those of the given statement. -/
import Derived.Test.YthcmlodgnfekeaaP04
set_option linter.unusedVariables false
set_option linter.unusedSimpArgs false
set_option maxRecDepth 100000
set_option maxHeartbeats 4000000
namespace Go.Proofs.Ythcmlodgnfekeaa
section
open Go Go.ChangeShapes Go.WideShapes Go.ChangeAt Go.RowKit
theorem lifted_noiseReceiverBack (os : Os) (started : os.Started) (H : Type) (enc : TypeId × Value → H) :
  ReturnsInHanded {} Try.checked os 3 .any (Rows.noiseReceiverBackSpec.pre6 enc Try.prog Try.f3 Rows.noiseReceiverBackRow.domain false) (Rows.noiseReceiverBackSpec.post enc Try.prog Try.f3 false true false false) := by
 refine returnsInHanded_of_change (C := Try.checked) Um started (by kernel_rfl) Try.func3
  (ChangeSpec.witness6 (enc := enc) (C := Try.checked) false ⟨#[], #[.int .u16 0, .int .u16 0, .int .u16 0, .int .u16 0, .agg #[.int .i64 0, .int .i64 0, .int .i64 0], .agg #[.int .i64 0, .int .i64 0, .int .i64 0], .agg #[.int .i64 0, .int .i64 0, .int .i64 0]], []⟩ 8 (by kernel_rfl) (by kernel_rfl) (by kernel_rfl) (by kernel_rfl)) ?_
 intro W base args ds gs before hval0 hW hcnd _
 have hval : ∀ (j : Nat) t v, Try.f3.params[j]? = some t → args[j]? = some v → Value.okWide Try.prog W .any base t v := hval0
 have hW' := hW
 obtain ⟨p, q, hA0, hV, rfl, hfz, hnd⟩ := hW
 have hA : DataW.TrodAll enc Try.prog W 0 (fun _ => true) true Try.f3.params.toList args.toList ds p := hA0
 rw [Try.params3] at hA hval
 obtain ⟨v0, vs0, d0, ds0, p0, q0, hargs, rfl, rfl, h0, r0⟩ := trodAll_cons hA
 obtain ⟨v1, vs1, d1, ds1, p1, q1, rfl, rfl, rfl, h1, r1⟩ := trodAll_cons r0
 obtain ⟨v2, vs2, d2, ds2, p2, q2, rfl, rfl, rfl, h2, r2⟩ := trodAll_cons r1
 obtain ⟨v3, vs3, d3, ds3, p3, q3, rfl, rfl, rfl, h3, r3⟩ := trodAll_cons r2
 obtain ⟨v4, vs4, d4, ds4, p4, q4, rfl, rfl, rfl, h4, r4⟩ := trodAll_cons r3
 obtain ⟨v5, vs5, d5, ds5, p5, q5, rfl, rfl, rfl, h5, r5⟩ := trodAll_cons r4
 obtain ⟨v6, vs6, d6, ds6, p6, q6, rfl, rfl, rfl, h6, r6⟩ := trodAll_cons r5
 obtain ⟨rfl, rfl, rfl⟩ := trodAll_nil r6
 obtain rfl : args = #[v0, v1, v2, v3, v4, v5, v6] := by cases args; simp_all
 obtain ⟨rfl, rfl⟩ := trodVars_none hV
 have lt0 : ∀ x ∈ p0, x.block < W.heap.size := by obtain ⟨m, hm⟩ := h0; exact DataW.trod_lt m _ _ _ hm
 have lt1 : ∀ x ∈ p1, x.block < W.heap.size := by obtain ⟨m, hm⟩ := h1; exact DataW.trod_lt m _ _ _ hm
 have lt2 : ∀ x ∈ p2, x.block < W.heap.size := by obtain ⟨m, hm⟩ := h2; exact DataW.trod_lt m _ _ _ hm
 have lt3 : ∀ x ∈ p3, x.block < W.heap.size := by obtain ⟨m, hm⟩ := h3; exact DataW.trod_lt m _ _ _ hm
 have lt4 : ∀ x ∈ p4, x.block < W.heap.size := by obtain ⟨m, hm⟩ := h4; exact DataW.trod_lt m _ _ _ hm
 have lt5 : ∀ x ∈ p5, x.block < W.heap.size := by obtain ⟨m, hm⟩ := h5; exact DataW.trod_lt m _ _ _ hm
 have lt6 : ∀ x ∈ p6, x.block < W.heap.size := by obtain ⟨m, hm⟩ := h6; exact DataW.trod_lt m _ _ _ hm
 obtain ⟨hot, k0, w0⟩ := oF V_22 (hval 0 22 v0 rfl rfl) h0
 obtain ⟨c, k1, w1⟩ := oF V_22 (hval 1 22 v1 rfl rfl) h1
 obtain ⟨tin, k2, w2⟩ := oF V_22 (hval 2 22 v2 rfl rfl) h2
 obtain ⟨mul, k3, w3⟩ := oF V_22 (hval 3 22 v3 rfl rfl) h3
 obtain ⟨f, k4⟩ := qS (hval 4 24 v4 rfl rfl) h4
 obtain ⟨r, k5⟩ := qS (hval 5 24 v5 rfl rfl) h5
 obtain ⟨g, k6⟩ := qS (hval 6 24 v6 rfl rfl) h6
 clear hA0 hval0
 refine (oI (hot := hot) (c := c) (tin := tin) (mul := mul) (f := f) (r := r) (g := g) w0 w1 w2 w3 [v0, v1, v2, v3, v4, v5, v6] (hv W) W (fun b o h => h) ⟨k0, k1, k2, k3, k4, k5, k6, trivial⟩).mono fun e W' ⟨v, V', he, _, _, _, bel, hb⟩ => ?_
 obtain rfl := Cu hb he
 exact ⟨_, rfl, _, _, _, [], _, [], hW', trodAll_mk1 (shut_bool Try.underlying4 _), (trodAll_cons_mk (Below.trod lQ (by kernel_rfl) (of_decide_eq_true (by kernel_rfl)) h0 bel lt0) (trodAll_cons_mk (Below.trod lQ (by kernel_rfl) (of_decide_eq_true (by kernel_rfl)) h1 bel lt1) (trodAll_cons_mk (Below.trod lQ (by kernel_rfl) (of_decide_eq_true (by kernel_rfl)) h2 bel lt2) (trodAll_cons_mk (Below.trod lQ (by kernel_rfl) (of_decide_eq_true (by kernel_rfl)) h3 bel lt3) (trodAll_cons_mk (Below.trod lQ (by kernel_rfl) (of_decide_eq_true (by kernel_rfl)) h4 bel lt4) (trodAll_cons_mk (Below.trod lQ (by kernel_rfl) (of_decide_eq_true (by kernel_rfl)) h5 bel lt5) (trodAll_cons_mk (Below.trod lQ (by kernel_rfl) (of_decide_eq_true (by kernel_rfl)) h6 bel lt6) trodAll_mk0))))))), rfl, bel.frame _, fun h => by cases h⟩
theorem mU : Try.pinned.checked.prog.funcNamed Rows.noiseReceiverBackRow.func = some 3 := by kernel_rfl
theorem mY : laidOutB Try.pinned.checked.prog = true := by kernel_rfl
theorem mZ : mapsRowed Try.pinned.checked.prog = true := by kernel_rfl
theorem nA : (Rows.noiseReceiverBackRow.inPlace == Try.pinned.checked.prog.inPlace 3) = true := by kernel_rfl
theorem nB : (Rows.noiseReceiverBackRow.unfollowed == Try.pinned.checked.prog.unfollowed 3) = true := by kernel_rfl
theorem nC : (Rows.noiseReceiverBackRow.recurses == Try.pinned.checked.prog.recurses 3) = true := by kernel_rfl
theorem nD : (Rows.noiseReceiverBackRow.named == Try.pinned.checked.prog.varsNamed 3) = true := by kernel_rfl
theorem nE : (Rows.noiseReceiverBackRow.plainKeys == Try.pinned.checked.prog.plainKeys) = true := by kernel_rfl
theorem nF : Try.pinned.checked.prog.stopsHeard = true := by kernel_rfl
theorem nG : Try.pinned.checked.prog.mayEnter = true := by kernel_rfl
theorem nH : (Rows.noiseReceiverBackRow.lifted == Try.pinned.checked.prog.liftsFinal) = true := by kernel_rfl
theorem mD : (Try.pinned.checked.prog.make == some Rows.noiseReceiverBackRow.make) = true := by kernel_rfl
theorem mV : joinedFacts Try.pinned.checked.prog 3 Try.f3 Rows.noiseReceiverBackSpec Rows.noiseReceiverBackRow = true := by unfold joinedFacts; rw [mY, mZ, nA, nB, nC, nD, nE, nF, nG, nH, mD]; kernel_rfl
theorem mW : Func.isInstance Try.pinned.checked.prog Try.f3 Rows.noiseReceiverBackRow.origin Rows.noiseReceiverBackRow.targs := of_decide_eq_true (by kernel_rfl)
theorem mX : Func.isWrapper Try.pinned.checked.prog Try.f3 Rows.noiseReceiverBackRow.wrapper Rows.noiseReceiverBackRow.mainSum := by unfold Func.isWrapper; first | (rw [if_pos (by decide +kernel)]; kernel_rfl) | (rw [if_neg (by decide +kernel)]; exact ⟨rfl, rfl⟩)
theorem noiseReceiverBack_proved : Rows.NoiseReceiverBackSaid :=
 OpenClaim.holds_of_wide 3 Try.f3 rfl rfl rfl rfl rfl rfl rfl ⟨rfl, rfl, rfl, rfl, rfl⟩ rfl rfl rfl rfl rfl mU Try.func3 mV mW mX
  (fun os started H enc _ => lifted_noiseReceiverBack os started H enc)
end
end Go.Proofs.Ythcmlodgnfekeaa
