/- The noise temperature that is calculated from the powers behind an amplifier with a hot and a cold matched load in front gives its noise factor Conditions: none beyond those of the given statement. -/
import Derived.Test.YthcmlodgnfekeaaGreatP04
set_option linter.unusedVariables false
set_option linter.unusedSimpArgs false
set_option maxRecDepth 100000
set_option maxHeartbeats 4000000
namespace Go.Proofs.YthcmlodgnfekeaaGreat
section
open Go Go.ChangeShapes Go.WideShapes Go.ChangeAt Go.RowKit
theorem lifted_topHotCold (os : Os) (started : os.Started) (H : Type) (enc : TypeId × Value → H) :
  ReturnsInHanded {} Tryz.checked os 6 .any (Rows.topHotColdSpec.pre6 enc Tryz.prog Tryz.f6 Rows.topHotColdRow.domain false) (Rows.topHotColdSpec.post enc Tryz.prog Tryz.f6 false true false false) := by
 refine returnsInHanded_of_change (C := Tryz.checked) own started (by kernel_rfl) Tryz.func6
  (ChangeSpec.witness6 (enc := enc) (C := Tryz.checked) false ⟨#[], #[.agg #[.int .i64 0, .int .i64 0, .int .i64 0, .int .i64 0, .int .i64 0, .int .i64 0, .int .i64 0, .int .i64 0, .int .i64 0], .agg #[.int .u8 0, .int .u8 0], .agg #[.int .u16 0, .int .u16 0]], []⟩ 8 (by kernel_rfl) (by kernel_rfl) (by kernel_rfl) (by kernel_rfl)) ?_
 intro W base args ds gs before hval0 hW hcnd _
 have hval : ∀ (j : Nat) t v, Tryz.f6.params[j]? = some t → args[j]? = some v → Value.okWide Tryz.prog W .any base t v := hval0
 have hW' := hW
 obtain ⟨p, q, hA0, hV, rfl, hfz, hnd⟩ := hW
 have hA : DataW.TrodAll enc Tryz.prog W 0 (fun _ => true) true Tryz.f6.params.toList args.toList ds p := hA0
 rw [Tryz.params6] at hA hval
 obtain ⟨v0, vs0, d0, ds0, p0, q0, hargs, rfl, rfl, h0, r0⟩ := trodAll_cons hA
 obtain ⟨v1, vs1, d1, ds1, p1, q1, rfl, rfl, rfl, h1, r1⟩ := trodAll_cons r0
 obtain ⟨v2, vs2, d2, ds2, p2, q2, rfl, rfl, rfl, h2, r2⟩ := trodAll_cons r1
 obtain ⟨rfl, rfl, rfl⟩ := trodAll_nil r2
 obtain rfl : args = #[v0, v1, v2] := by cases args; simp_all
 obtain ⟨rfl, rfl⟩ := trodVars_none hV
 have lt0 : ∀ x ∈ p0, x.block < W.heap.size := by obtain ⟨m, hm⟩ := h0; exact DataW.trod_lt m _ _ _ hm
 have lt1 : ∀ x ∈ p1, x.block < W.heap.size := by obtain ⟨m, hm⟩ := h1; exact DataW.trod_lt m _ _ _ hm
 have lt2 : ∀ x ∈ p2, x.block < W.heap.size := by obtain ⟨m, hm⟩ := h2; exact DataW.trod_lt m _ _ _ hm
 obtain ⟨r0, r1, r2, k0⟩ := Mc (hval 0 72 v0 rfl rfl) h0
 obtain ⟨pa, pb, k1, w1⟩ := Ma (hval 1 73 v1 rfl rfl) h1
 obtain ⟨ta, tb, k2, w2⟩ := Mb (hval 2 75 v2 rfl rfl) h2
 clear hA0 hval0
 refine (zV (r0 := r0) (r1 := r1) (r2 := r2) (pa := pa) (pb := pb) (ta := ta) (tb := tb) w1.1 w1.2 w2.1 w2.2 [v0, v1, v2] (hv W) W (fun b o h => h) ⟨k0, k1, k2, trivial⟩).mono fun e W' ⟨v, V', he, _, _, _, bel, hb⟩ => ?_
 obtain rfl := Kf hb he
 exact ⟨_, rfl, _, _, _, [], _, [], hW', trodAll_mk1 (shut_bool Tryz.underlying4 _), (trodAll_cons_mk (Below.trod Am (by kernel_rfl) (of_decide_eq_true (by kernel_rfl)) h0 bel lt0) (trodAll_cons_mk (Below.trod Am (by kernel_rfl) (of_decide_eq_true (by kernel_rfl)) h1 bel lt1) (trodAll_cons_mk (Below.trod Am (by kernel_rfl) (of_decide_eq_true (by kernel_rfl)) h2 bel lt2) trodAll_mk0))), rfl, bel.frame _, fun h => by cases h⟩
theorem xU : Tryz.pinned.checked.prog.funcNamed Rows.topHotColdRow.func = some 6 := by kernel_rfl
theorem xY : laidOutB Tryz.pinned.checked.prog = true := by kernel_rfl
theorem xZ : mapsRowed Tryz.pinned.checked.prog = true := by kernel_rfl
theorem yA : (Rows.topHotColdRow.inPlace == Tryz.pinned.checked.prog.inPlace 6) = true := by kernel_rfl
theorem yB : (Rows.topHotColdRow.unfollowed == Tryz.pinned.checked.prog.unfollowed 6) = true := by kernel_rfl
theorem yC : (Rows.topHotColdRow.recurses == Tryz.pinned.checked.prog.recurses 6) = true := by kernel_rfl
theorem yD : (Rows.topHotColdRow.named == Tryz.pinned.checked.prog.varsNamed 6) = true := by kernel_rfl
theorem yE : (Rows.topHotColdRow.plainKeys == Tryz.pinned.checked.prog.plainKeys) = true := by kernel_rfl
theorem yF : Tryz.pinned.checked.prog.stopsHeard = true := by kernel_rfl
theorem yG : Tryz.pinned.checked.prog.mayEnter = true := by kernel_rfl
theorem yH : (Rows.topHotColdRow.lifted == Tryz.pinned.checked.prog.liftsFinal) = true := by kernel_rfl
theorem xD : (Tryz.pinned.checked.prog.make == some Rows.topHotColdRow.make) = true := by kernel_rfl
theorem xV : joinedFacts Tryz.pinned.checked.prog 6 Tryz.f6 Rows.topHotColdSpec Rows.topHotColdRow = true := by unfold joinedFacts; rw [xY, xZ, yA, yB, yC, yD, yE, yF, yG, yH, xD]; kernel_rfl
theorem xW : Func.isInstance Tryz.pinned.checked.prog Tryz.f6 Rows.topHotColdRow.origin Rows.topHotColdRow.targs := of_decide_eq_true (by kernel_rfl)
theorem xX : Func.isWrapper Tryz.pinned.checked.prog Tryz.f6 Rows.topHotColdRow.wrapper Rows.topHotColdRow.mainSum := by unfold Func.isWrapper; first | (rw [if_pos (by decide +kernel)]; kernel_rfl) | (rw [if_neg (by decide +kernel)]; exact ⟨rfl, rfl⟩)
theorem topHotCold_proved : Rows.TopHotColdSaid :=
 OpenClaim.holds_of_wide 6 Tryz.f6 rfl rfl rfl rfl rfl rfl rfl ⟨rfl, rfl, rfl, rfl, rfl⟩ rfl rfl rfl rfl rfl xU Tryz.func6 xV xW xX
  (fun os started H enc _ => lifted_topHotCold os started H enc)
end
end Go.Proofs.YthcmlodgnfekeaaGreat
