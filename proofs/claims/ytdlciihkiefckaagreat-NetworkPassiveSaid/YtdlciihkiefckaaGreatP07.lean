/- Networks that Shrink has made passive stay passive when they are put side by side, joined, terminated with a passive load, embedded, or described with other impedances. Conditions: none beyond those of the given statement. -/
import Derived.Test.YtdlciihkiefckaaGreatP06
set_option linter.unusedVariables false
set_option linter.unusedSimpArgs false
set_option maxRecDepth 100000
set_option maxHeartbeats 4000000
namespace Go.Proofs.YtdlciihkiefckaaGreat
section
open Go Go.ChangeShapes Go.WideShapes Go.ChangeAt Go.RowKit
theorem lifted_networkPassive (os : Os) (started : os.Started) (H : Type) (enc : TypeId × Value → H) :
  ReturnsInHanded {} Tryz.checked os 5 .any (Rows.networkPassiveSpec.pre6 enc Tryz.prog Tryz.f5 Rows.networkPassiveRow.domain false) (Rows.networkPassiveSpec.post enc Tryz.prog Tryz.f5 false true false false) := by
 refine returnsInHanded_of_change (C := Tryz.checked) own started (by kernel_rfl) Tryz.func5
  (ChangeSpec.witness6 (enc := enc) (C := Tryz.checked) false ⟨#[], #[.agg #[.int .u8 0, .slice none 0 0, .slice none 0 0], .agg #[.int .u8 0, .slice none 0 0, .slice none 0 0], .agg #[.int .u8 0, .slice none 0 0, .slice none 0 0], .agg #[.int .i64 0, .int .i64 0, .int .i64 0], .agg #[.int .u8 0, .int .u8 0, .int .u8 0, .int .u8 0]], []⟩ 8 (by kernel_rfl) (by kernel_rfl) (by kernel_rfl) (by kernel_rfl)) ?_
 intro W base args ds gs before hval0 hW hcnd _
 have hval : ∀ (j : Nat) t v, Tryz.f5.params[j]? = some t → args[j]? = some v → Value.okWide Tryz.prog W .any base t v := hval0
 have hW' := hW
 obtain ⟨p, q, hA0, hV, rfl, hfz, hnd⟩ := hW
 have hA : DataW.TrodAll enc Tryz.prog W 0 (fun _ => true) true Tryz.f5.params.toList args.toList ds p := hA0
 rw [Tryz.params5] at hA hval
 obtain ⟨v0, vs0, d0, ds0, p0, q0, hargs, rfl, rfl, h0, r0⟩ := trodAll_cons hA
 obtain ⟨v1, vs1, d1, ds1, p1, q1, rfl, rfl, rfl, h1, r1⟩ := trodAll_cons r0
 obtain ⟨v2, vs2, d2, ds2, p2, q2, rfl, rfl, rfl, h2, r2⟩ := trodAll_cons r1
 obtain ⟨v3, vs3, d3, ds3, p3, q3, rfl, rfl, rfl, h3, r3⟩ := trodAll_cons r2
 obtain ⟨v4, vs4, d4, ds4, p4, q4, rfl, rfl, rfl, h4, r4⟩ := trodAll_cons r3
 obtain ⟨rfl, rfl, rfl⟩ := trodAll_nil r4
 obtain rfl : args = #[v0, v1, v2, v3, v4] := by cases args; simp_all
 obtain ⟨rfl, rfl⟩ := trodVars_none hV
 have lt0 : ∀ x ∈ p0, x.block < W.heap.size := by obtain ⟨m, hm⟩ := h0; exact DataW.trod_lt m _ _ _ hm
 have lt1 : ∀ x ∈ p1, x.block < W.heap.size := by obtain ⟨m, hm⟩ := h1; exact DataW.trod_lt m _ _ _ hm
 have lt2 : ∀ x ∈ p2, x.block < W.heap.size := by obtain ⟨m, hm⟩ := h2; exact DataW.trod_lt m _ _ _ hm
 have lt3 : ∀ x ∈ p3, x.block < W.heap.size := by obtain ⟨m, hm⟩ := h3; exact DataW.trod_lt m _ _ _ hm
 have lt4 : ∀ x ∈ p4, x.block < W.heap.size := by obtain ⟨m, hm⟩ := h4; exact DataW.trod_lt m _ _ _ hm
 obtain ⟨a, zl, sl, k0, w0⟩ := xE (hval 0 24 v0 rfl rfl) h0
 obtain ⟨m, zm, sm, k1, w1⟩ := xE (hval 1 24 v1 rfl rfl) h1
 obtain ⟨o, zt, st, k2, w2⟩ := xE (hval 2 24 v2 rfl rfl) h2
 obtain ⟨r, k3⟩ := Yw (hval 3 48 v3 rfl rfl) h3
 obtain ⟨l0, l1, l2, l3, k4, w4⟩ := a2o (hval 4 49 v4 rfl rfl) h4
 clear hA0 hval0
 refine (zU (a := a) (zl := zl) (sl := sl) (m := m) (zm := zm) (sm := sm) (o := o) (zt := zt) (st := st) (r := r) (l0 := l0) (l1 := l1) (l2 := l2) (l3 := l3) w0 w1 w2 w4.1 w4.2.1 w4.2.2.1 w4.2.2.2 [v0, v1, v2, v3, v4] (hv W) W (fun b o h => h) ⟨k0, k1, k2, k3, k4, trivial⟩).mono fun e W' ⟨v, V', he, _, _, _, bel, hb⟩ => ?_
 obtain rfl := Wr hb he
 exact ⟨_, rfl, _, _, _, [], _, [], hW', trodAll_mk1 (shut_bool Tryz.underlying4 _), (trodAll_cons_mk (Below.trod yH (by kernel_rfl) (of_decide_eq_true (by kernel_rfl)) h0 bel lt0) (trodAll_cons_mk (Below.trod yH (by kernel_rfl) (of_decide_eq_true (by kernel_rfl)) h1 bel lt1) (trodAll_cons_mk (Below.trod yH (by kernel_rfl) (of_decide_eq_true (by kernel_rfl)) h2 bel lt2) (trodAll_cons_mk (Below.trod yH (by kernel_rfl) (of_decide_eq_true (by kernel_rfl)) h3 bel lt3) (trodAll_cons_mk (Below.trod yH (by kernel_rfl) (of_decide_eq_true (by kernel_rfl)) h4 bel lt4) trodAll_mk0))))), rfl, bel.frame _, fun h => by cases h⟩
theorem yM : Tryz.pinned.checked.prog.funcNamed Rows.networkPassiveRow.func = some 5 := by kernel_rfl
theorem yQ : laidOutB Tryz.pinned.checked.prog = true := by kernel_rfl
theorem yR : mapsRowed Tryz.pinned.checked.prog = true := by kernel_rfl
theorem yS : (Rows.networkPassiveRow.inPlace == Tryz.pinned.checked.prog.inPlace 5) = true := by kernel_rfl
theorem yT : (Rows.networkPassiveRow.unfollowed == Tryz.pinned.checked.prog.unfollowed 5) = true := by kernel_rfl
theorem yU : (Rows.networkPassiveRow.recurses == Tryz.pinned.checked.prog.recurses 5) = true := by kernel_rfl
theorem yV : (Rows.networkPassiveRow.named == Tryz.pinned.checked.prog.varsNamed 5) = true := by kernel_rfl
theorem yW : (Rows.networkPassiveRow.plainKeys == Tryz.pinned.checked.prog.plainKeys) = true := by kernel_rfl
theorem yX : Tryz.pinned.checked.prog.stopsHeard = true := by kernel_rfl
theorem yY : Tryz.pinned.checked.prog.mayEnter = true := by kernel_rfl
theorem yZ : (Rows.networkPassiveRow.lifted == Tryz.pinned.checked.prog.liftsFinal) = true := by kernel_rfl
theorem wZ : (Tryz.pinned.checked.prog.make == some Rows.networkPassiveRow.make) = true := by kernel_rfl
theorem yN : joinedFacts Tryz.pinned.checked.prog 5 Tryz.f5 Rows.networkPassiveSpec Rows.networkPassiveRow = true := by unfold joinedFacts; rw [yQ, yR, yS, yT, yU, yV, yW, yX, yY, yZ, wZ]; kernel_rfl
theorem yO : Func.isInstance Tryz.pinned.checked.prog Tryz.f5 Rows.networkPassiveRow.origin Rows.networkPassiveRow.targs := of_decide_eq_true (by kernel_rfl)
theorem yP : Func.isWrapper Tryz.pinned.checked.prog Tryz.f5 Rows.networkPassiveRow.wrapper Rows.networkPassiveRow.mainSum := by unfold Func.isWrapper; first | (rw [if_pos (by decide +kernel)]; kernel_rfl) | (rw [if_neg (by decide +kernel)]; exact ⟨rfl, rfl⟩)
theorem networkPassive_proved : Rows.NetworkPassiveSaid :=
 OpenClaim.holds_of_wide 5 Tryz.f5 rfl rfl rfl rfl rfl rfl rfl ⟨rfl, rfl, rfl, rfl, rfl⟩ rfl rfl rfl rfl rfl yM Tryz.func5 yN yO yP
  (fun os started H enc _ => lifted_networkPassive os started H enc)
end
end Go.Proofs.YtdlciihkiefckaaGreat
