/- Stack and Renumber of any networks with noise return the results of the reference. Conditions: none beyond those of the given statement. -/
import Derived.Test.YteohomnhncjcnaaGreatP06
set_option linter.unusedVariables false
set_option linter.unusedSimpArgs false
set_option maxRecDepth 100000
set_option maxHeartbeats 4000000
namespace Go.Proofs.YteohomnhncjcnaaGreat
section
open Go Go.ChangeShapes Go.WideShapes Go.ChangeAt Go.RowKit
theorem lifted_noiseStacks (os : Os) (started : os.Started) (H : Type) (enc : TypeId × Value → H) :
  ReturnsInHanded {} Tryz.checked os 5 .any (Rows.noiseStacksSpec.pre6 enc Tryz.prog Tryz.f5 Rows.noiseStacksRow.domain false) (Rows.noiseStacksSpec.post enc Tryz.prog Tryz.f5 false true false false) := by
 refine returnsInHanded_of_change (C := Tryz.checked) own started (by kernel_rfl) Tryz.func5
  (ChangeSpec.witness6 (enc := enc) (C := Tryz.checked) false ⟨#[], #[.agg #[.slice none 0 0, .slice none 0 0, .slice none 0 0], .agg #[.slice none 0 0, .slice none 0 0, .slice none 0 0], .slice none 0 0], []⟩ 8 (by kernel_rfl) (by kernel_rfl) (by kernel_rfl) (by kernel_rfl)) ?_
 intro W base args ds gs before hval0 hW hcnd _
 have hval : ∀ (j : Nat) t v, Tryz.f5.params[j]? = some t → args[j]? = some v → Value.okWide Tryz.prog W .any base t v := hval0
 have hW' := hW
 obtain ⟨p, q, hA0, hV, rfl, hfz, hnd⟩ := hW
 have hA : DataW.TrodAll enc Tryz.prog W 0 (fun _ => true) true Tryz.f5.params.toList args.toList ds p := hA0
 rw [Tryz.params5] at hA hval
 obtain ⟨v0, vs0, d0, ds0, p0, q0, hargs, rfl, rfl, h0, r0⟩ := trodAll_cons hA
 obtain ⟨v1, vs1, d1, ds1, p1, q1, rfl, rfl, rfl, h1, r1⟩ := trodAll_cons r0
 obtain ⟨v2, vs2, d2, ds2, p2, q2, rfl, rfl, rfl, h2, r2⟩ := trodAll_cons r1
 obtain ⟨rfl, rfl, rfl⟩ := trodAll_nil r2
 obtain rfl : args = #[v0, v1, v2] := by cases args; simp_all
 obtain ⟨rfl, rfl⟩ := trodVars_none hV
 have lt0 : ∀ x ∈ p0, x.block < W.heap.size := by obtain ⟨m, hm⟩ := h0; exact DataW.trod_lt m _ _ _ hm
 have lt1 : ∀ x ∈ p1, x.block < W.heap.size := by obtain ⟨m, hm⟩ := h1; exact DataW.trod_lt m _ _ _ hm
 have lt2 : ∀ x ∈ p2, x.block < W.heap.size := by obtain ⟨m, hm⟩ := h2; exact DataW.trod_lt m _ _ _ hm
 obtain ⟨z, s, c, k0⟩ := pY (hval 0 25 v0 rfl rfl) h0
 obtain ⟨zm, sm, cm, k1⟩ := pY (hval 1 25 v1 rfl rfl) h1
 obtain ⟨l, k2⟩ := Td (hval 2 72 v2 rfl rfl) h2
 clear hA0 hval0
 refine (Hw (z := z) (s := s) (c := c) (zm := zm) (sm := sm) (cm := cm) (l := l) [v0, v1, v2] (hv W) W (fun b o h => h) ⟨k0, k1, k2, trivial⟩).mono fun e W' ⟨v, V', he, _, _, _, bel, hb⟩ => ?_
 obtain rfl := vY hb he
 exact ⟨_, rfl, _, _, _, [], _, [], hW', trodAll_mk1 (shut_bool V_4 _), (trodAll_cons_mk (Below.trod nG (by kernel_rfl) (of_decide_eq_true (by kernel_rfl)) h0 bel lt0) (trodAll_cons_mk (Below.trod nG (by kernel_rfl) (of_decide_eq_true (by kernel_rfl)) h1 bel lt1) (trodAll_cons_mk (Below.trod nG (by kernel_rfl) (of_decide_eq_true (by kernel_rfl)) h2 bel lt2) trodAll_mk0))), rfl, bel.frame _, fun h => by cases h⟩
theorem Fv : Tryz.pinned.checked.prog.funcNamed Rows.noiseStacksRow.func = some 5 := by kernel_rfl
theorem Fz : laidOutB Tryz.pinned.checked.prog = true := by kernel_rfl
theorem Ga : mapsRowed Tryz.pinned.checked.prog = true := by kernel_rfl
theorem Gc : (Rows.noiseStacksRow.inPlace == Tryz.pinned.checked.prog.inPlace 5) = true := by kernel_rfl
theorem Gd : (Rows.noiseStacksRow.unfollowed == Tryz.pinned.checked.prog.unfollowed 5) = true := by kernel_rfl
theorem Ge : (Rows.noiseStacksRow.recurses == Tryz.pinned.checked.prog.recurses 5) = true := by kernel_rfl
theorem Gf : (Rows.noiseStacksRow.named == Tryz.pinned.checked.prog.varsNamed 5) = true := by kernel_rfl
theorem Gg : (Rows.noiseStacksRow.plainKeys == Tryz.pinned.checked.prog.plainKeys) = true := by kernel_rfl
theorem Gh : Tryz.pinned.checked.prog.stopsHeard = true := by kernel_rfl
theorem Gi : Tryz.pinned.checked.prog.mayEnter = true := by kernel_rfl
theorem Gj : (Rows.noiseStacksRow.lifted == Tryz.pinned.checked.prog.liftsFinal) = true := by kernel_rfl
theorem Cb : (Tryz.pinned.checked.prog.make == some Rows.noiseStacksRow.make) = true := by kernel_rfl
theorem Fw : joinedFacts Tryz.pinned.checked.prog 5 Tryz.f5 Rows.noiseStacksSpec Rows.noiseStacksRow = true := by unfold joinedFacts; rw [Fz, Ga, Gc, Gd, Ge, Gf, Gg, Gh, Gi, Gj, Cb]; kernel_rfl
theorem Fx : Func.isInstance Tryz.pinned.checked.prog Tryz.f5 Rows.noiseStacksRow.origin Rows.noiseStacksRow.targs := of_decide_eq_true (by kernel_rfl)
theorem Fy : Func.isWrapper Tryz.pinned.checked.prog Tryz.f5 Rows.noiseStacksRow.wrapper Rows.noiseStacksRow.mainSum := by unfold Func.isWrapper; first | (rw [if_pos (by decide +kernel)]; kernel_rfl) | (rw [if_neg (by decide +kernel)]; exact ⟨rfl, rfl⟩)
theorem noiseStacks_proved : Rows.NoiseStacksSaid :=
 OpenClaim.holds_of_wide 5 Tryz.f5 rfl rfl rfl rfl rfl rfl rfl ⟨rfl, rfl, rfl, rfl, rfl⟩ rfl rfl rfl rfl rfl Fv Tryz.func5 Fw Fx Fy
  (fun os started H enc _ => lifted_noiseStacks os started H enc)
end
end Go.Proofs.YteohomnhncjcnaaGreat
