/- Waves that satisfy a network and a load, or a network and a fixture at one of its ports, satisfy the network of Terminate, or of Embed. Conditions: none beyond those of the given statement. -/
import Derived.Test.YtdlciihkiefckaaGreatP05
set_option linter.unusedVariables false
set_option linter.unusedSimpArgs false
set_option maxRecDepth 100000
set_option maxHeartbeats 4000000
namespace Go.Proofs.YtdlciihkiefckaaGreat
section
open Go Go.ChangeShapes Go.WideShapes Go.ChangeAt Go.RowKit
theorem lifted_networkWaves (os : Os) (started : os.Started) (H : Type) (enc : TypeId × Value → H) :
  ReturnsInHanded {} Tryz.checked os 8 .any (Rows.networkWavesSpec.pre6 enc Tryz.prog Tryz.f8 Rows.networkWavesRow.domain false) (Rows.networkWavesSpec.post enc Tryz.prog Tryz.f8 false true false false) := by
 refine returnsInHanded_of_change (C := Tryz.checked) own started (by kernel_rfl) Tryz.func8
  (ChangeSpec.witness6 (enc := enc) (C := Tryz.checked) false ⟨#[], #[.agg #[.int .u8 0, .slice none 0 0, .slice none 0 0], .int .u8 0, .slice none 0 0, .agg #[.int .u8 0, .slice none 0 0, .slice none 0 0]], []⟩ 8 (by kernel_rfl) (by kernel_rfl) (by kernel_rfl) (by kernel_rfl)) ?_
 intro W base args ds gs before hval0 hW hcnd _
 have hval : ∀ (j : Nat) t v, Tryz.f8.params[j]? = some t → args[j]? = some v → Value.okWide Tryz.prog W .any base t v := hval0
 have hW' := hW
 obtain ⟨p, q, hA0, hV, rfl, hfz, hnd⟩ := hW
 have hA : DataW.TrodAll enc Tryz.prog W 0 (fun _ => true) true Tryz.f8.params.toList args.toList ds p := hA0
 rw [Tryz.params8] at hA hval
 obtain ⟨v0, vs0, d0, ds0, p0, q0, hargs, rfl, rfl, h0, r0⟩ := trodAll_cons hA
 obtain ⟨v1, vs1, d1, ds1, p1, q1, rfl, rfl, rfl, h1, r1⟩ := trodAll_cons r0
 obtain ⟨v2, vs2, d2, ds2, p2, q2, rfl, rfl, rfl, h2, r2⟩ := trodAll_cons r1
 obtain ⟨v3, vs3, d3, ds3, p3, q3, rfl, rfl, rfl, h3, r3⟩ := trodAll_cons r2
 obtain ⟨rfl, rfl, rfl⟩ := trodAll_nil r3
 obtain rfl : args = #[v0, v1, v2, v3] := by cases args; simp_all
 obtain ⟨rfl, rfl⟩ := trodVars_none hV
 have lt0 : ∀ x ∈ p0, x.block < W.heap.size := by obtain ⟨m, hm⟩ := h0; exact DataW.trod_lt m _ _ _ hm
 have lt1 : ∀ x ∈ p1, x.block < W.heap.size := by obtain ⟨m, hm⟩ := h1; exact DataW.trod_lt m _ _ _ hm
 have lt2 : ∀ x ∈ p2, x.block < W.heap.size := by obtain ⟨m, hm⟩ := h2; exact DataW.trod_lt m _ _ _ hm
 have lt3 : ∀ x ∈ p3, x.block < W.heap.size := by obtain ⟨m, hm⟩ := h3; exact DataW.trod_lt m _ _ _ hm
 obtain ⟨a, zl, sl, k0, w0⟩ := yN (hval 0 24 v0 rfl rfl) h0
 obtain ⟨q, k1, w1⟩ := Qz Tryz.underlying5 (hval 1 5 v1 rfl rfl) h1
 obtain ⟨l, k2⟩ := Hg (hval 2 22 v2 rfl rfl) h2
 obtain ⟨m, zm, sm, k3, w3⟩ := yN (hval 3 24 v3 rfl rfl) h3
 clear hA0 hval0
 refine (wX (a := a) (zl := zl) (sl := sl) (q := q) (l := l) (m := m) (zm := zm) (sm := sm) w0 w1 w3 [v0, v1, v2, v3] (hv W) W (fun b o h => h) ⟨k0, k1, k2, k3, trivial⟩).mono fun e W' ⟨v, V', he, _, _, _, bel, hb⟩ => ?_
 obtain rfl := Kb hb he
 exact ⟨_, rfl, _, _, _, [], _, [], hW', trodAll_mk1 (shut_bool Tryz.underlying4 _), (trodAll_cons_mk (Below.trod vR (by kernel_rfl) (of_decide_eq_true (by kernel_rfl)) h0 bel lt0) (trodAll_cons_mk (Below.trod vR (by kernel_rfl) (of_decide_eq_true (by kernel_rfl)) h1 bel lt1) (trodAll_cons_mk (Below.trod vR (by kernel_rfl) (of_decide_eq_true (by kernel_rfl)) h2 bel lt2) (trodAll_cons_mk (Below.trod vR (by kernel_rfl) (of_decide_eq_true (by kernel_rfl)) h3 bel lt3) trodAll_mk0)))), rfl, bel.frame _, fun h => by cases h⟩
theorem uU : Tryz.pinned.checked.prog.funcNamed Rows.networkWavesRow.func = some 8 := by kernel_rfl
theorem uY : laidOutB Tryz.pinned.checked.prog = true := by kernel_rfl
theorem uZ : mapsRowed Tryz.pinned.checked.prog = true := by kernel_rfl
theorem vB : (Rows.networkWavesRow.inPlace == Tryz.pinned.checked.prog.inPlace 8) = true := by kernel_rfl
theorem vC : (Rows.networkWavesRow.unfollowed == Tryz.pinned.checked.prog.unfollowed 8) = true := by kernel_rfl
theorem vD : (Rows.networkWavesRow.recurses == Tryz.pinned.checked.prog.recurses 8) = true := by kernel_rfl
theorem vE : (Rows.networkWavesRow.named == Tryz.pinned.checked.prog.varsNamed 8) = true := by kernel_rfl
theorem vF : (Rows.networkWavesRow.plainKeys == Tryz.pinned.checked.prog.plainKeys) = true := by kernel_rfl
theorem vG : Tryz.pinned.checked.prog.stopsHeard = true := by kernel_rfl
theorem vH : Tryz.pinned.checked.prog.mayEnter = true := by kernel_rfl
theorem vI : (Rows.networkWavesRow.lifted == Tryz.pinned.checked.prog.liftsFinal) = true := by kernel_rfl
theorem tU : (Tryz.pinned.checked.prog.make == some Rows.networkWavesRow.make) = true := by kernel_rfl
theorem uV : joinedFacts Tryz.pinned.checked.prog 8 Tryz.f8 Rows.networkWavesSpec Rows.networkWavesRow = true := by unfold joinedFacts; rw [uY, uZ, vB, vC, vD, vE, vF, vG, vH, vI, tU]; kernel_rfl
theorem uW : Func.isInstance Tryz.pinned.checked.prog Tryz.f8 Rows.networkWavesRow.origin Rows.networkWavesRow.targs := of_decide_eq_true (by kernel_rfl)
theorem uX : Func.isWrapper Tryz.pinned.checked.prog Tryz.f8 Rows.networkWavesRow.wrapper Rows.networkWavesRow.mainSum := by unfold Func.isWrapper; first | (rw [if_pos (by decide +kernel)]; kernel_rfl) | (rw [if_neg (by decide +kernel)]; exact ⟨rfl, rfl⟩)
theorem networkWaves_proved : Rows.NetworkWavesSaid :=
 OpenClaim.holds_of_wide 8 Tryz.f8 rfl rfl rfl rfl rfl rfl rfl ⟨rfl, rfl, rfl, rfl, rfl⟩ rfl rfl rfl rfl rfl uU Tryz.func8 uV uW uX
  (fun os started H enc _ => lifted_networkWaves os started H enc)
end
end Go.Proofs.YtdlciihkiefckaaGreat
