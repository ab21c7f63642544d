/- Reciprocal, Lossless, Passive and Shrink decide as the reference does for any network with 1 to 3 ports; the waves of a witness bring out more power than they bring in; one step above Shrink's factor the network is not passive. Conditions: none beyond those of the given statement. -/
import Derived.Test.YtdlciihkiefckaaGreatP05
set_option linter.unusedVariables false
set_option linter.unusedSimpArgs false
set_option maxRecDepth 100000
set_option maxHeartbeats 4000000
namespace Go.Proofs.YtdlciihkiefckaaGreat
section
open Go Go.ChangeShapes Go.WideShapes Go.ChangeAt Go.RowKit
theorem lifted_networkPower (os : Os) (started : os.Started) (H : Type) (enc : TypeId × Value → H) :
  ReturnsInHanded {} Tryz.checked os 3 .any (Rows.networkPowerSpec.pre6 enc Tryz.prog Tryz.f3 Rows.networkPowerRow.domain false) (Rows.networkPowerSpec.post enc Tryz.prog Tryz.f3 false true false false) := by
 refine returnsInHanded_of_change (C := Tryz.checked) own started (by kernel_rfl) Tryz.func3
  (ChangeSpec.witness6 (enc := enc) (C := Tryz.checked) false ⟨#[], #[.agg #[.int .u8 0, .slice none 0 0, .slice none 0 0]], []⟩ 8 (by kernel_rfl) (by kernel_rfl) (by kernel_rfl) (by kernel_rfl)) ?_
 intro W base args ds gs before hval0 hW hcnd _
 have hval : ∀ (j : Nat) t v, Tryz.f3.params[j]? = some t → args[j]? = some v → Value.okWide Tryz.prog W .any base t v := hval0
 have hW' := hW
 obtain ⟨p, q, hA0, hV, rfl, hfz, hnd⟩ := hW
 have hA : DataW.TrodAll enc Tryz.prog W 0 (fun _ => true) true Tryz.f3.params.toList args.toList ds p := hA0
 rw [Tryz.params3] at hA hval
 obtain ⟨v0, vs0, d0, ds0, p0, q0, hargs, rfl, rfl, h0, r0⟩ := trodAll_cons hA
 obtain ⟨rfl, rfl, rfl⟩ := trodAll_nil r0
 obtain rfl : args = #[v0] := by cases args; simp_all
 obtain ⟨rfl, rfl⟩ := trodVars_none hV
 have lt0 : ∀ x ∈ p0, x.block < W.heap.size := by obtain ⟨m, hm⟩ := h0; exact DataW.trod_lt m _ _ _ hm
 obtain ⟨a, zl, sl, k0, w0⟩ := Jx (hval 0 24 v0 rfl rfl) h0
 clear hA0 hval0
 refine (yL (a := a) (zl := zl) (sl := sl) w0 [v0] (hv W) W (fun b o h => h) ⟨k0, trivial⟩).mono fun e W' ⟨v, V', he, _, _, _, bel, hb⟩ => ?_
 obtain rfl := Mu hb he
 exact ⟨_, rfl, _, _, _, [], _, [], hW', trodAll_mk1 (shut_bool Tryz.underlying4 _), (trodAll_cons_mk (Below.trod Xe (by kernel_rfl) (of_decide_eq_true (by kernel_rfl)) h0 bel lt0) trodAll_mk0), rfl, bel.frame _, fun h => by cases h⟩
theorem wJ : Tryz.pinned.checked.prog.funcNamed Rows.networkPowerRow.func = some 3 := by kernel_rfl
theorem wN : laidOutB Tryz.pinned.checked.prog = true := by kernel_rfl
theorem wO : mapsRowed Tryz.pinned.checked.prog = true := by kernel_rfl
theorem wP : (Rows.networkPowerRow.inPlace == Tryz.pinned.checked.prog.inPlace 3) = true := by kernel_rfl
theorem wQ : (Rows.networkPowerRow.unfollowed == Tryz.pinned.checked.prog.unfollowed 3) = true := by kernel_rfl
theorem wR : (Rows.networkPowerRow.recurses == Tryz.pinned.checked.prog.recurses 3) = true := by kernel_rfl
theorem wS : (Rows.networkPowerRow.named == Tryz.pinned.checked.prog.varsNamed 3) = true := by kernel_rfl
theorem wT : (Rows.networkPowerRow.plainKeys == Tryz.pinned.checked.prog.plainKeys) = true := by kernel_rfl
theorem wU : Tryz.pinned.checked.prog.stopsHeard = true := by kernel_rfl
theorem wV : Tryz.pinned.checked.prog.mayEnter = true := by kernel_rfl
theorem wW : (Rows.networkPowerRow.lifted == Tryz.pinned.checked.prog.liftsFinal) = true := by kernel_rfl
theorem vC : (Tryz.pinned.checked.prog.make == some Rows.networkPowerRow.make) = true := by kernel_rfl
theorem wK : joinedFacts Tryz.pinned.checked.prog 3 Tryz.f3 Rows.networkPowerSpec Rows.networkPowerRow = true := by unfold joinedFacts; rw [wN, wO, wP, wQ, wR, wS, wT, wU, wV, wW, vC]; kernel_rfl
theorem wL : Func.isInstance Tryz.pinned.checked.prog Tryz.f3 Rows.networkPowerRow.origin Rows.networkPowerRow.targs := of_decide_eq_true (by kernel_rfl)
theorem wM : Func.isWrapper Tryz.pinned.checked.prog Tryz.f3 Rows.networkPowerRow.wrapper Rows.networkPowerRow.mainSum := by unfold Func.isWrapper; first | (rw [if_pos (by decide +kernel)]; kernel_rfl) | (rw [if_neg (by decide +kernel)]; exact ⟨rfl, rfl⟩)
theorem networkPower_proved : Rows.NetworkPowerSaid :=
 OpenClaim.holds_of_wide 3 Tryz.f3 rfl rfl rfl rfl rfl rfl rfl ⟨rfl, rfl, rfl, rfl, rfl⟩ rfl rfl rfl rfl rfl wJ Tryz.func3 wK wL wM
  (fun os started H enc _ => lifted_networkPower os started H enc)
end
end Go.Proofs.YtdlciihkiefckaaGreat
