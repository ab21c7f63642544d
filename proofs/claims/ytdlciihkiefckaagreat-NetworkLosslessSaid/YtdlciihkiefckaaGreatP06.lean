/- Networks of symmetric reactances exist, and are lossless, passive and reciprocal; so are those behind Stack, Join, Renormalize and Embed, where these exist. Conditions: none beyond those of the given statement. -/
import Derived.Test.YtdlciihkiefckaaGreatP05
set_option linter.unusedVariables false
set_option linter.unusedSimpArgs false
set_option maxRecDepth 100000
set_option maxHeartbeats 4000000
namespace Go.Proofs.YtdlciihkiefckaaGreat
section
open Go Go.ChangeShapes Go.WideShapes Go.ChangeAt Go.RowKit
theorem lifted_networkLossless (os : Os) (started : os.Started) (H : Type) (enc : TypeId × Value → H) :
  ReturnsInHanded {} Tryz.checked os 4 .any (Rows.networkLosslessSpec.pre6 enc Tryz.prog Tryz.f4 Rows.networkLosslessRow.domain false) (Rows.networkLosslessSpec.post enc Tryz.prog Tryz.f4 false true false false) := by
 refine returnsInHanded_of_change (C := Tryz.checked) own started (by kernel_rfl) Tryz.func4
  (ChangeSpec.witness6 (enc := enc) (C := Tryz.checked) false ⟨#[], #[.agg #[.int .u8 0, .slice none 0 0, .slice none 0 0], .agg #[.int .u8 0, .slice none 0 0, .slice none 0 0], .agg #[.int .i64 0, .int .i64 0, .int .i64 0], .agg #[.int .u8 0, .int .u8 0, .int .u8 0, .int .u8 0]], []⟩ 8 (by kernel_rfl) (by kernel_rfl) (by kernel_rfl) (by kernel_rfl)) ?_
 intro W base args ds gs before hval0 hW hcnd _
 have hval : ∀ (j : Nat) t v, Tryz.f4.params[j]? = some t → args[j]? = some v → Value.okWide Tryz.prog W .any base t v := hval0
 have hW' := hW
 obtain ⟨p, q, hA0, hV, rfl, hfz, hnd⟩ := hW
 have hA : DataW.TrodAll enc Tryz.prog W 0 (fun _ => true) true Tryz.f4.params.toList args.toList ds p := hA0
 rw [Tryz.params4] at hA hval
 obtain ⟨v0, vs0, d0, ds0, p0, q0, hargs, rfl, rfl, h0, r0⟩ := trodAll_cons hA
 obtain ⟨v1, vs1, d1, ds1, p1, q1, rfl, rfl, rfl, h1, r1⟩ := trodAll_cons r0
 obtain ⟨v2, vs2, d2, ds2, p2, q2, rfl, rfl, rfl, h2, r2⟩ := trodAll_cons r1
 obtain ⟨v3, vs3, d3, ds3, p3, q3, rfl, rfl, rfl, h3, r3⟩ := trodAll_cons r2
 obtain ⟨rfl, rfl, rfl⟩ := trodAll_nil r3
 obtain rfl : args = #[v0, v1, v2, v3] := by cases args; simp_all
 obtain ⟨rfl, rfl⟩ := trodVars_none hV
 have lt0 : ∀ x ∈ p0, x.block < W.heap.size := by obtain ⟨m, hm⟩ := h0; exact DataW.trod_lt m _ _ _ hm
 have lt1 : ∀ x ∈ p1, x.block < W.heap.size := by obtain ⟨m, hm⟩ := h1; exact DataW.trod_lt m _ _ _ hm
 have lt2 : ∀ x ∈ p2, x.block < W.heap.size := by obtain ⟨m, hm⟩ := h2; exact DataW.trod_lt m _ _ _ hm
 have lt3 : ∀ x ∈ p3, x.block < W.heap.size := by obtain ⟨m, hm⟩ := h3; exact DataW.trod_lt m _ _ _ hm
 obtain ⟨a, zl, sl, k0, w0⟩ := Dj (hval 0 24 v0 rfl rfl) h0
 obtain ⟨m, zm, sm, k1, w1⟩ := Dj (hval 1 24 v1 rfl rfl) h1
 obtain ⟨r, k2⟩ := Uu (hval 2 48 v2 rfl rfl) h2
 obtain ⟨l0, l1, l2, l3, k3, w3⟩ := a0S (hval 3 49 v3 rfl rfl) h3
 clear hA0 hval0
 refine (wK (a := a) (zl := zl) (sl := sl) (m := m) (zm := zm) (sm := sm) (r := r) (l0 := l0) (l1 := l1) (l2 := l2) (l3 := l3) w0 w1 w3.1 w3.2.1 w3.2.2.1 w3.2.2.2 [v0, v1, v2, v3] (hv W) W (fun b o h => h) ⟨k0, k1, k2, k3, trivial⟩).mono fun e W' ⟨v, V', he, _, _, _, bel, hb⟩ => ?_
 obtain rfl := Sd hb he
 exact ⟨_, rfl, _, _, _, [], _, [], hW', trodAll_mk1 (shut_bool Tryz.underlying4 _), (trodAll_cons_mk (Below.trod Ae (by kernel_rfl) (of_decide_eq_true (by kernel_rfl)) h0 bel lt0) (trodAll_cons_mk (Below.trod Ae (by kernel_rfl) (of_decide_eq_true (by kernel_rfl)) h1 bel lt1) (trodAll_cons_mk (Below.trod Ae (by kernel_rfl) (of_decide_eq_true (by kernel_rfl)) h2 bel lt2) (trodAll_cons_mk (Below.trod Ae (by kernel_rfl) (of_decide_eq_true (by kernel_rfl)) h3 bel lt3) trodAll_mk0)))), rfl, bel.frame _, fun h => by cases h⟩
theorem vH : Tryz.pinned.checked.prog.funcNamed Rows.networkLosslessRow.func = some 4 := by kernel_rfl
theorem vM : laidOutB Tryz.pinned.checked.prog = true := by kernel_rfl
theorem vN : mapsRowed Tryz.pinned.checked.prog = true := by kernel_rfl
theorem vO : (Rows.networkLosslessRow.inPlace == Tryz.pinned.checked.prog.inPlace 4) = true := by kernel_rfl
theorem vP : (Rows.networkLosslessRow.unfollowed == Tryz.pinned.checked.prog.unfollowed 4) = true := by kernel_rfl
theorem vQ : (Rows.networkLosslessRow.recurses == Tryz.pinned.checked.prog.recurses 4) = true := by kernel_rfl
theorem vR : (Rows.networkLosslessRow.named == Tryz.pinned.checked.prog.varsNamed 4) = true := by kernel_rfl
theorem vS : (Rows.networkLosslessRow.plainKeys == Tryz.pinned.checked.prog.plainKeys) = true := by kernel_rfl
theorem vT : Tryz.pinned.checked.prog.stopsHeard = true := by kernel_rfl
theorem vW : Tryz.pinned.checked.prog.mayEnter = true := by kernel_rfl
theorem vX : (Rows.networkLosslessRow.lifted == Tryz.pinned.checked.prog.liftsFinal) = true := by kernel_rfl
theorem uK : (Tryz.pinned.checked.prog.make == some Rows.networkLosslessRow.make) = true := by kernel_rfl
theorem vJ : joinedFacts Tryz.pinned.checked.prog 4 Tryz.f4 Rows.networkLosslessSpec Rows.networkLosslessRow = true := by unfold joinedFacts; rw [vM, vN, vO, vP, vQ, vR, vS, vT, vW, vX, uK]; kernel_rfl
theorem vK : Func.isInstance Tryz.pinned.checked.prog Tryz.f4 Rows.networkLosslessRow.origin Rows.networkLosslessRow.targs := of_decide_eq_true (by kernel_rfl)
theorem vL : Func.isWrapper Tryz.pinned.checked.prog Tryz.f4 Rows.networkLosslessRow.wrapper Rows.networkLosslessRow.mainSum := by unfold Func.isWrapper; first | (rw [if_pos (by decide +kernel)]; kernel_rfl) | (rw [if_neg (by decide +kernel)]; exact ⟨rfl, rfl⟩)
theorem networkLossless_proved : Rows.NetworkLosslessSaid :=
 OpenClaim.holds_of_wide 4 Tryz.f4 rfl rfl rfl rfl rfl rfl rfl ⟨rfl, rfl, rfl, rfl, rfl⟩ rfl rfl rfl rfl rfl vH Tryz.func4 vJ vK vL
  (fun os started H enc _ => lifted_networkLossless os started H enc)
end
end Go.Proofs.YtdlciihkiefckaaGreat
