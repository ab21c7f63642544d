/- All yields the points in order and a sweep at its own frequencies is itself Conditions: none beyond those of the given statement. -/
import Derived.Test.YthcmlodgnfekeaaGreatP05
set_option linter.unusedVariables false
set_option linter.unusedSimpArgs false
set_option maxRecDepth 100000
set_option maxHeartbeats 4000000
namespace Go.Proofs.YthcmlodgnfekeaaGreat
section
open Go Go.ChangeShapes Go.WideShapes Go.ChangeAt Go.RowKit
theorem lifted_networkSweepBack (os : Os) (started : os.Started) (H : Type) (enc : TypeId × Value → H) :
  ReturnsInHanded {} Tryz.checked os 8 .any (Rows.networkSweepBackSpec.pre6 enc Tryz.prog Tryz.f8 Rows.networkSweepBackRow.domain false) (Rows.networkSweepBackSpec.post enc Tryz.prog Tryz.f8 false true false false) := by
 refine returnsInHanded_of_change (C := Tryz.checked) own started (by kernel_rfl) Tryz.func8
  (ChangeSpec.witness6 (enc := enc) (C := Tryz.checked) false ⟨#[], #[.slice none 0 0, .agg #[.int .i64 0, .int .i64 0, .int .i64 0], .int .u8 0], []⟩ 8 (by kernel_rfl) (by kernel_rfl) (by kernel_rfl) (by kernel_rfl)) ?_
 intro W base args ds gs before hval0 hW hcnd _
 have hval : ∀ (j : Nat) t v, Tryz.f8.params[j]? = some t → args[j]? = some v → Value.okWide Tryz.prog W .any base t v := hval0
 have hW' := hW
 obtain ⟨p, q, hA0, hV, rfl, hfz, hnd⟩ := hW
 have hA : DataW.TrodAll enc Tryz.prog W 0 (fun _ => true) true Tryz.f8.params.toList args.toList ds p := hA0
 rw [Tryz.params8] at hA hval
 obtain ⟨v0, vs0, d0, ds0, p0, q0, hargs, rfl, rfl, h0, r0⟩ := trodAll_cons hA
 obtain ⟨v1, vs1, d1, ds1, p1, q1, rfl, rfl, rfl, h1, r1⟩ := trodAll_cons r0
 obtain ⟨v2, vs2, d2, ds2, p2, q2, rfl, rfl, rfl, h2, r2⟩ := trodAll_cons r1
 obtain ⟨rfl, rfl, rfl⟩ := trodAll_nil r2
 obtain rfl : args = #[v0, v1, v2] := by cases args; simp_all
 obtain ⟨rfl, rfl⟩ := trodVars_none hV
 have lt0 : ∀ x ∈ p0, x.block < W.heap.size := by obtain ⟨m, hm⟩ := h0; exact DataW.trod_lt m _ _ _ hm
 have lt1 : ∀ x ∈ p1, x.block < W.heap.size := by obtain ⟨m, hm⟩ := h1; exact DataW.trod_lt m _ _ _ hm
 have lt2 : ∀ x ∈ p2, x.block < W.heap.size := by obtain ⟨m, hm⟩ := h2; exact DataW.trod_lt m _ _ _ hm
 obtain ⟨ps, k0, w0⟩ := Fc (hval 0 97 v0 rfl rfl) h0
 obtain ⟨r, k1⟩ := Mm (hval 1 23 v1 rfl rfl) h1
 obtain ⟨st, k2, w2⟩ := Sa Tryz.underlying5 (hval 2 5 v2 rfl rfl) h2
 clear hA0 hval0
 refine (sE (ps := ps) (r := r) (st := st) w0 w2 [v0, v1, v2] (hv W) W (fun b o h => h) ⟨k0, k1, k2, trivial⟩).mono fun e W' ⟨v, V', he, _, _, _, bel, hb⟩ => ?_
 obtain rfl := Kr hb he
 exact ⟨_, rfl, _, _, _, [], _, [], hW', trodAll_mk1 (shut_bool Tryz.underlying4 _), (trodAll_cons_mk (Below.trod Bb (by kernel_rfl) (of_decide_eq_true (by kernel_rfl)) h0 bel lt0) (trodAll_cons_mk (Below.trod Bb (by kernel_rfl) (of_decide_eq_true (by kernel_rfl)) h1 bel lt1) (trodAll_cons_mk (Below.trod Bb (by kernel_rfl) (of_decide_eq_true (by kernel_rfl)) h2 bel lt2) trodAll_mk0))), rfl, bel.frame _, fun h => by cases h⟩
theorem rA : Tryz.pinned.checked.prog.funcNamed Rows.networkSweepBackRow.func = some 8 := by kernel_rfl
theorem rF : laidOutB Tryz.pinned.checked.prog = true := by kernel_rfl
theorem rG : mapsRowed Tryz.pinned.checked.prog = true := by kernel_rfl
theorem rH : (Rows.networkSweepBackRow.inPlace == Tryz.pinned.checked.prog.inPlace 8) = true := by kernel_rfl
theorem rI : (Rows.networkSweepBackRow.unfollowed == Tryz.pinned.checked.prog.unfollowed 8) = true := by kernel_rfl
theorem rJ : (Rows.networkSweepBackRow.recurses == Tryz.pinned.checked.prog.recurses 8) = true := by kernel_rfl
theorem rK : (Rows.networkSweepBackRow.named == Tryz.pinned.checked.prog.varsNamed 8) = true := by kernel_rfl
theorem rM : (Rows.networkSweepBackRow.plainKeys == Tryz.pinned.checked.prog.plainKeys) = true := by kernel_rfl
theorem rN : Tryz.pinned.checked.prog.stopsHeard = true := by kernel_rfl
theorem rO : Tryz.pinned.checked.prog.mayEnter = true := by kernel_rfl
theorem rP : (Rows.networkSweepBackRow.lifted == Tryz.pinned.checked.prog.liftsFinal) = true := by kernel_rfl
theorem pQ : (Tryz.pinned.checked.prog.make == some Rows.networkSweepBackRow.make) = true := by kernel_rfl
theorem rB : joinedFacts Tryz.pinned.checked.prog 8 Tryz.f8 Rows.networkSweepBackSpec Rows.networkSweepBackRow = true := by unfold joinedFacts; rw [rF, rG, rH, rI, rJ, rK, rM, rN, rO, rP, pQ]; kernel_rfl
theorem rC : Func.isInstance Tryz.pinned.checked.prog Tryz.f8 Rows.networkSweepBackRow.origin Rows.networkSweepBackRow.targs := of_decide_eq_true (by kernel_rfl)
theorem rD : Func.isWrapper Tryz.pinned.checked.prog Tryz.f8 Rows.networkSweepBackRow.wrapper Rows.networkSweepBackRow.mainSum := by unfold Func.isWrapper; first | (rw [if_pos (by decide +kernel)]; kernel_rfl) | (rw [if_neg (by decide +kernel)]; exact ⟨rfl, rfl⟩)
theorem networkSweepBack_proved : Rows.NetworkSweepBackSaid :=
 OpenClaim.holds_of_wide 8 Tryz.f8 rfl rfl rfl rfl rfl rfl rfl ⟨rfl, rfl, rfl, rfl, rfl⟩ rfl rfl rfl rfl rfl rA Tryz.func8 rB rC rD
  (fun os started H enc _ => lifted_networkSweepBack os started H enc)
end
end Go.Proofs.YthcmlodgnfekeaaGreat
