/- Renormalize of any network with noise returns the result of the reference; back to the first impedances it returns the first network and its noise. Conditions: none beyond those of the given statement. -/
import Derived.Test.YteohomnhncjcnaaGreatP05
set_option linter.unusedVariables false
set_option linter.unusedSimpArgs false
set_option maxRecDepth 100000
set_option maxHeartbeats 4000000
namespace Go.Proofs.YteohomnhncjcnaaGreat
section
open Go Go.ChangeShapes Go.WideShapes Go.ChangeAt Go.RowKit
theorem lifted_noiseRenormalizes (os : Os) (started : os.Started) (H : Type) (enc : TypeId × Value → H) :
  ReturnsInHanded {} Tryz.checked os 7 .any (Rows.noiseRenormalizesSpec.pre6 enc Tryz.prog Tryz.f7 Rows.noiseRenormalizesRow.domain false) (Rows.noiseRenormalizesSpec.post enc Tryz.prog Tryz.f7 false true false false) := by
 refine returnsInHanded_of_change (C := Tryz.checked) own started (by kernel_rfl) Tryz.func7
  (ChangeSpec.witness6 (enc := enc) (C := Tryz.checked) false ⟨#[], #[.agg #[.slice none 0 0, .slice none 0 0, .slice none 0 0], .slice none 0 0], []⟩ 8 (by kernel_rfl) (by kernel_rfl) (by kernel_rfl) (by kernel_rfl)) ?_
 intro W base args ds gs before hval0 hW hcnd _
 have hval : ∀ (j : Nat) t v, Tryz.f7.params[j]? = some t → args[j]? = some v → Value.okWide Tryz.prog W .any base t v := hval0
 have hW' := hW
 obtain ⟨p, q, hA0, hV, rfl, hfz, hnd⟩ := hW
 have hA : DataW.TrodAll enc Tryz.prog W 0 (fun _ => true) true Tryz.f7.params.toList args.toList ds p := hA0
 rw [Tryz.params7] at hA hval
 obtain ⟨v0, vs0, d0, ds0, p0, q0, hargs, rfl, rfl, h0, r0⟩ := trodAll_cons hA
 obtain ⟨v1, vs1, d1, ds1, p1, q1, rfl, rfl, rfl, h1, r1⟩ := trodAll_cons r0
 obtain ⟨rfl, rfl, rfl⟩ := trodAll_nil r1
 obtain rfl : args = #[v0, v1] := by cases args; simp_all
 obtain ⟨rfl, rfl⟩ := trodVars_none hV
 have lt0 : ∀ x ∈ p0, x.block < W.heap.size := by obtain ⟨m, hm⟩ := h0; exact DataW.trod_lt m _ _ _ hm
 have lt1 : ∀ x ∈ p1, x.block < W.heap.size := by obtain ⟨m, hm⟩ := h1; exact DataW.trod_lt m _ _ _ hm
 obtain ⟨z, s, c, k0⟩ := Rv (hval 0 25 v0 rfl rfl) h0
 obtain ⟨w, k1⟩ := Mj (hval 1 22 v1 rfl rfl) h1
 clear hA0 hval0
 refine (uP (z := z) (s := s) (c := c) (w := w) [v0, v1] (hv W) W (fun b o h => h) ⟨k0, k1, trivial⟩).mono fun e W' ⟨v, V', he, _, _, _, bel, hb⟩ => ?_
 obtain rfl := Pu hb he
 exact ⟨_, rfl, _, _, _, [], _, [], hW', trodAll_mk1 (shut_bool Tryz.underlying4 _), (trodAll_cons_mk (Below.trod Oa (by kernel_rfl) (of_decide_eq_true (by kernel_rfl)) h0 bel lt0) (trodAll_cons_mk (Below.trod Oa (by kernel_rfl) (of_decide_eq_true (by kernel_rfl)) h1 bel lt1) trodAll_mk0)), rfl, bel.frame _, fun h => by cases h⟩
theorem sP : Tryz.pinned.checked.prog.funcNamed Rows.noiseRenormalizesRow.func = some 7 := by kernel_rfl
theorem sT : laidOutB Tryz.pinned.checked.prog = true := by kernel_rfl
theorem sU : mapsRowed Tryz.pinned.checked.prog = true := by kernel_rfl
theorem sV : (Rows.noiseRenormalizesRow.inPlace == Tryz.pinned.checked.prog.inPlace 7) = true := by kernel_rfl
theorem sW : (Rows.noiseRenormalizesRow.unfollowed == Tryz.pinned.checked.prog.unfollowed 7) = true := by kernel_rfl
theorem sX : (Rows.noiseRenormalizesRow.recurses == Tryz.pinned.checked.prog.recurses 7) = true := by kernel_rfl
theorem sY : (Rows.noiseRenormalizesRow.named == Tryz.pinned.checked.prog.varsNamed 7) = true := by kernel_rfl
theorem sZ : (Rows.noiseRenormalizesRow.plainKeys == Tryz.pinned.checked.prog.plainKeys) = true := by kernel_rfl
theorem tA : Tryz.pinned.checked.prog.stopsHeard = true := by kernel_rfl
theorem tB : Tryz.pinned.checked.prog.mayEnter = true := by kernel_rfl
theorem tC : (Rows.noiseRenormalizesRow.lifted == Tryz.pinned.checked.prog.liftsFinal) = true := by kernel_rfl
theorem rT : (Tryz.pinned.checked.prog.make == some Rows.noiseRenormalizesRow.make) = true := by kernel_rfl
theorem sQ : joinedFacts Tryz.pinned.checked.prog 7 Tryz.f7 Rows.noiseRenormalizesSpec Rows.noiseRenormalizesRow = true := by unfold joinedFacts; rw [sT, sU, sV, sW, sX, sY, sZ, tA, tB, tC, rT]; kernel_rfl
theorem sR : Func.isInstance Tryz.pinned.checked.prog Tryz.f7 Rows.noiseRenormalizesRow.origin Rows.noiseRenormalizesRow.targs := of_decide_eq_true (by kernel_rfl)
theorem sS : Func.isWrapper Tryz.pinned.checked.prog Tryz.f7 Rows.noiseRenormalizesRow.wrapper Rows.noiseRenormalizesRow.mainSum := by unfold Func.isWrapper; first | (rw [if_pos (by decide +kernel)]; kernel_rfl) | (rw [if_neg (by decide +kernel)]; exact ⟨rfl, rfl⟩)
theorem noiseRenormalizes_proved : Rows.NoiseRenormalizesSaid :=
 OpenClaim.holds_of_wide 7 Tryz.f7 rfl rfl rfl rfl rfl rfl rfl ⟨rfl, rfl, rfl, rfl, rfl⟩ rfl rfl rfl rfl rfl sP Tryz.func7 sQ sR sS
  (fun os started H enc _ => lifted_noiseRenormalizes os started H enc)
end
end Go.Proofs.YteohomnhncjcnaaGreat
