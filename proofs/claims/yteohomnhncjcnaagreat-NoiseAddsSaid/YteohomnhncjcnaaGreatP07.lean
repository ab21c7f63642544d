/- What a join of the program makes of a sum of correlation matrices is the sum of what it makes of both. Conditions: none beyond those of the given statement. -/
import Derived.Test.YteohomnhncjcnaaGreatP06
set_option linter.unusedVariables false
set_option linter.unusedSimpArgs false
set_option maxRecDepth 100000
set_option maxHeartbeats 4000000
namespace Go.Proofs.YteohomnhncjcnaaGreat
section
open Go Go.ChangeShapes Go.WideShapes Go.ChangeAt Go.RowKit
theorem lifted_noiseAdds (os : Os) (started : os.Started) (H : Type) (enc : TypeId × Value → H) :
  ReturnsInHanded {} Tryz.checked os 8 .any (Rows.noiseAddsSpec.pre6 enc Tryz.prog Tryz.f8 Rows.noiseAddsRow.domain false) (Rows.noiseAddsSpec.post enc Tryz.prog Tryz.f8 false true false false) := by
 refine returnsInHanded_of_change (C := Tryz.checked) own started (by kernel_rfl) Tryz.func8
  (ChangeSpec.witness6 (enc := enc) (C := Tryz.checked) false ⟨#[], #[.agg #[.slice none 0 0, .slice none 0 0, .slice none 0 0], .slice none 0 0, .slice none 0 0], []⟩ 8 (by kernel_rfl) (by kernel_rfl) (by kernel_rfl) (by kernel_rfl)) ?_
 intro W base args ds gs before hval0 hW hcnd _
 have hval : ∀ (j : Nat) t v, Tryz.f8.params[j]? = some t → args[j]? = some v → Value.okWide Tryz.prog W .any base t v := hval0
 have hW' := hW
 obtain ⟨p, q, hA0, hV, rfl, hfz, hnd⟩ := hW
 have hA : DataW.TrodAll enc Tryz.prog W 0 (fun _ => true) true Tryz.f8.params.toList args.toList ds p := hA0
 rw [Tryz.params8] at hA hval
 obtain ⟨v0, vs0, d0, ds0, p0, q0, hargs, rfl, rfl, h0, r0⟩ := trodAll_cons hA
 obtain ⟨v1, vs1, d1, ds1, p1, q1, rfl, rfl, rfl, h1, r1⟩ := trodAll_cons r0
 obtain ⟨v2, vs2, d2, ds2, p2, q2, rfl, rfl, rfl, h2, r2⟩ := trodAll_cons r1
 obtain ⟨rfl, rfl, rfl⟩ := trodAll_nil r2
 obtain rfl : args = #[v0, v1, v2] := by cases args; simp_all
 obtain ⟨rfl, rfl⟩ := trodVars_none hV
 have lt0 : ∀ x ∈ p0, x.block < W.heap.size := by obtain ⟨m, hm⟩ := h0; exact DataW.trod_lt m _ _ _ hm
 have lt1 : ∀ x ∈ p1, x.block < W.heap.size := by obtain ⟨m, hm⟩ := h1; exact DataW.trod_lt m _ _ _ hm
 have lt2 : ∀ x ∈ p2, x.block < W.heap.size := by obtain ⟨m, hm⟩ := h2; exact DataW.trod_lt m _ _ _ hm
 obtain ⟨z, s, c, k0⟩ := pY (hval 0 25 v0 rfl rfl) h0
 obtain ⟨m, k1⟩ := Te (hval 1 23 v1 rfl rfl) h1
 obtain ⟨js, k2⟩ := Jz (hval 2 26 v2 rfl rfl) h2
 clear hA0 hval0
 refine (Nd (z := z) (s := s) (c := c) (m := m) (js := js) [v0, v1, v2] (hv W) W (fun b o h => h) ⟨k0, k1, k2, trivial⟩).mono fun e W' ⟨v, V', he, _, _, _, bel, hb⟩ => ?_
 obtain rfl := vY hb he
 exact ⟨_, rfl, _, _, _, [], _, [], hW', trodAll_mk1 (shut_bool V_4 _), (trodAll_cons_mk (Below.trod nG (by kernel_rfl) (of_decide_eq_true (by kernel_rfl)) h0 bel lt0) (trodAll_cons_mk (Below.trod nG (by kernel_rfl) (of_decide_eq_true (by kernel_rfl)) h1 bel lt1) (trodAll_cons_mk (Below.trod nG (by kernel_rfl) (of_decide_eq_true (by kernel_rfl)) h2 bel lt2) trodAll_mk0))), rfl, bel.frame _, fun h => by cases h⟩
theorem Ls : Tryz.pinned.checked.prog.funcNamed Rows.noiseAddsRow.func = some 8 := by kernel_rfl
theorem Lw : laidOutB Tryz.pinned.checked.prog = true := by kernel_rfl
theorem Lx : mapsRowed Tryz.pinned.checked.prog = true := by kernel_rfl
theorem Ly : (Rows.noiseAddsRow.inPlace == Tryz.pinned.checked.prog.inPlace 8) = true := by kernel_rfl
theorem Lz : (Rows.noiseAddsRow.unfollowed == Tryz.pinned.checked.prog.unfollowed 8) = true := by kernel_rfl
theorem Ma : (Rows.noiseAddsRow.recurses == Tryz.pinned.checked.prog.recurses 8) = true := by kernel_rfl
theorem Mb : (Rows.noiseAddsRow.named == Tryz.pinned.checked.prog.varsNamed 8) = true := by kernel_rfl
theorem Mc : (Rows.noiseAddsRow.plainKeys == Tryz.pinned.checked.prog.plainKeys) = true := by kernel_rfl
theorem Md : Tryz.pinned.checked.prog.stopsHeard = true := by kernel_rfl
theorem Me : Tryz.pinned.checked.prog.mayEnter = true := by kernel_rfl
theorem Mf : (Rows.noiseAddsRow.lifted == Tryz.pinned.checked.prog.liftsFinal) = true := by kernel_rfl
theorem Ic : (Tryz.pinned.checked.prog.make == some Rows.noiseAddsRow.make) = true := by kernel_rfl
theorem Lt : joinedFacts Tryz.pinned.checked.prog 8 Tryz.f8 Rows.noiseAddsSpec Rows.noiseAddsRow = true := by unfold joinedFacts; rw [Lw, Lx, Ly, Lz, Ma, Mb, Mc, Md, Me, Mf, Ic]; kernel_rfl
theorem Lu : Func.isInstance Tryz.pinned.checked.prog Tryz.f8 Rows.noiseAddsRow.origin Rows.noiseAddsRow.targs := of_decide_eq_true (by kernel_rfl)
theorem Lv : Func.isWrapper Tryz.pinned.checked.prog Tryz.f8 Rows.noiseAddsRow.wrapper Rows.noiseAddsRow.mainSum := by unfold Func.isWrapper; first | (rw [if_pos (by decide +kernel)]; kernel_rfl) | (rw [if_neg (by decide +kernel)]; exact ⟨rfl, rfl⟩)
theorem noiseAdds_proved : Rows.NoiseAddsSaid :=
 OpenClaim.holds_of_wide 8 Tryz.f8 rfl rfl rfl rfl rfl rfl rfl ⟨rfl, rfl, rfl, rfl, rfl⟩ rfl rfl rfl rfl rfl Ls Tryz.func8 Lt Lu Lv
  (fun os started H enc _ => lifted_noiseAdds os started H enc)
end
end Go.Proofs.YteohomnhncjcnaaGreat
