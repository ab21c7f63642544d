/- Joining two pairs of ports at once is joining them one pair after the other, in either order, where each step exists, for networks with noise and equal impedances. Conditions: none beyond those of the given statement. -/
import Derived.Test.YteohomnhncjcnaaGreatP06
set_option linter.unusedVariables false
set_option linter.unusedSimpArgs false
set_option maxRecDepth 100000
set_option maxHeartbeats 4000000
namespace Go.Proofs.YteohomnhncjcnaaGreat
section
open Go Go.ChangeShapes Go.WideShapes Go.ChangeAt Go.RowKit
theorem lifted_noiseOneByOne (os : Os) (started : os.Started) (H : Type) (enc : TypeId × Value → H) :
  ReturnsInHanded {} Tryz.checked os 9 .any (Rows.noiseOneByOneSpec.pre6 enc Tryz.prog Tryz.f9 Rows.noiseOneByOneRow.domain false) (Rows.noiseOneByOneSpec.post enc Tryz.prog Tryz.f9 false true false false) := by
 refine returnsInHanded_of_change (C := Tryz.checked) own started (by kernel_rfl) Tryz.func9
  (ChangeSpec.witness6 (enc := enc) (C := Tryz.checked) false ⟨#[], #[.agg #[.slice none 0 0, .slice none 0 0, .slice none 0 0]], []⟩ 8 (by kernel_rfl) (by kernel_rfl) (by kernel_rfl) (by kernel_rfl)) ?_
 intro W base args ds gs before hval0 hW hcnd _
 have hval : ∀ (j : Nat) t v, Tryz.f9.params[j]? = some t → args[j]? = some v → Value.okWide Tryz.prog W .any base t v := hval0
 have hW' := hW
 obtain ⟨p, q, hA0, hV, rfl, hfz, hnd⟩ := hW
 have hA : DataW.TrodAll enc Tryz.prog W 0 (fun _ => true) true Tryz.f9.params.toList args.toList ds p := hA0
 rw [Tryz.params9] at hA hval
 obtain ⟨v0, vs0, d0, ds0, p0, q0, hargs, rfl, rfl, h0, r0⟩ := trodAll_cons hA
 obtain ⟨rfl, rfl, rfl⟩ := trodAll_nil r0
 obtain rfl : args = #[v0] := by cases args; simp_all
 obtain ⟨rfl, rfl⟩ := trodVars_none hV
 have lt0 : ∀ x ∈ p0, x.block < W.heap.size := by obtain ⟨m, hm⟩ := h0; exact DataW.trod_lt m _ _ _ hm
 obtain ⟨z, s, c, k0⟩ := pY (hval 0 25 v0 rfl rfl) h0
 clear hA0 hval0
 refine (Bz (z := z) (s := s) (c := c) [v0] (hv W) W (fun b o h => h) ⟨k0, trivial⟩).mono fun e W' ⟨v, V', he, _, _, _, bel, hb⟩ => ?_
 obtain rfl := vY hb he
 exact ⟨_, rfl, _, _, _, [], _, [], hW', trodAll_mk1 (shut_bool V_4 _), (trodAll_cons_mk (Below.trod nG (by kernel_rfl) (of_decide_eq_true (by kernel_rfl)) h0 bel lt0) trodAll_mk0), rfl, bel.frame _, fun h => by cases h⟩
theorem Ak : Tryz.pinned.checked.prog.funcNamed Rows.noiseOneByOneRow.func = some 9 := by kernel_rfl
theorem Ao : laidOutB Tryz.pinned.checked.prog = true := by kernel_rfl
theorem Ap : mapsRowed Tryz.pinned.checked.prog = true := by kernel_rfl
theorem Ar : (Rows.noiseOneByOneRow.inPlace == Tryz.pinned.checked.prog.inPlace 9) = true := by kernel_rfl
theorem At : (Rows.noiseOneByOneRow.unfollowed == Tryz.pinned.checked.prog.unfollowed 9) = true := by kernel_rfl
theorem Au : (Rows.noiseOneByOneRow.recurses == Tryz.pinned.checked.prog.recurses 9) = true := by kernel_rfl
theorem Av : (Rows.noiseOneByOneRow.named == Tryz.pinned.checked.prog.varsNamed 9) = true := by kernel_rfl
theorem Aw : (Rows.noiseOneByOneRow.plainKeys == Tryz.pinned.checked.prog.plainKeys) = true := by kernel_rfl
theorem Ax : Tryz.pinned.checked.prog.stopsHeard = true := by kernel_rfl
theorem Ay : Tryz.pinned.checked.prog.mayEnter = true := by kernel_rfl
theorem Az : (Rows.noiseOneByOneRow.lifted == Tryz.pinned.checked.prog.liftsFinal) = true := by kernel_rfl
theorem yW : (Tryz.pinned.checked.prog.make == some Rows.noiseOneByOneRow.make) = true := by kernel_rfl
theorem Al : joinedFacts Tryz.pinned.checked.prog 9 Tryz.f9 Rows.noiseOneByOneSpec Rows.noiseOneByOneRow = true := by unfold joinedFacts; rw [Ao, Ap, Ar, At, Au, Av, Aw, Ax, Ay, Az, yW]; kernel_rfl
theorem Am : Func.isInstance Tryz.pinned.checked.prog Tryz.f9 Rows.noiseOneByOneRow.origin Rows.noiseOneByOneRow.targs := of_decide_eq_true (by kernel_rfl)
theorem An : Func.isWrapper Tryz.pinned.checked.prog Tryz.f9 Rows.noiseOneByOneRow.wrapper Rows.noiseOneByOneRow.mainSum := by unfold Func.isWrapper; first | (rw [if_pos (by decide +kernel)]; kernel_rfl) | (rw [if_neg (by decide +kernel)]; exact ⟨rfl, rfl⟩)
theorem noiseOneByOne_proved : Rows.NoiseOneByOneSaid :=
 OpenClaim.holds_of_wide 9 Tryz.f9 rfl rfl rfl rfl rfl rfl rfl ⟨rfl, rfl, rfl, rfl, rfl⟩ rfl rfl rfl rfl rfl Ak Tryz.func9 Al Am An
  (fun os started H enc _ => lifted_noiseOneByOne os started H enc)
end
end Go.Proofs.YteohomnhncjcnaaGreat
