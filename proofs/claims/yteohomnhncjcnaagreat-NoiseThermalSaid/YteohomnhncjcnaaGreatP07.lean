/- Two devices with their own noise at one temperature, stacked and joined, have their own noise at this temperature; so has the join of one of them. Conditions: none beyond those of the given statement. -/
import Derived.Test.YteohomnhncjcnaaGreatP06
set_option linter.unusedVariables false
set_option linter.unusedSimpArgs false
set_option maxRecDepth 100000
set_option maxHeartbeats 4000000
namespace Go.Proofs.YteohomnhncjcnaaGreat
section
open Go Go.ChangeShapes Go.WideShapes Go.ChangeAt Go.RowKit
theorem lifted_noiseThermal (os : Os) (started : os.Started) (H : Type) (enc : TypeId × Value → H) :
  ReturnsInHanded {} Tryz.checked os 10 .any (Rows.noiseThermalSpec.pre6 enc Tryz.prog Tryz.f10 Rows.noiseThermalRow.domain false) (Rows.noiseThermalSpec.post enc Tryz.prog Tryz.f10 false true false false) := by
 refine returnsInHanded_of_change (C := Tryz.checked) own started (by kernel_rfl) Tryz.func10
  (ChangeSpec.witness6 (enc := enc) (C := Tryz.checked) false ⟨#[], #[.agg #[.slice none 0 0, .slice none 0 0, .slice none 0 0], .agg #[.slice none 0 0, .slice none 0 0, .slice none 0 0], .agg #[.int .i64 0, .int .i64 0, .int .i64 0], .slice none 0 0], []⟩ 8 (by kernel_rfl) (by kernel_rfl) (by kernel_rfl) (by kernel_rfl)) ?_
 intro W base args ds gs before hval0 hW hcnd _
 have hval : ∀ (j : Nat) t v, Tryz.f10.params[j]? = some t → args[j]? = some v → Value.okWide Tryz.prog W .any base t v := hval0
 have hW' := hW
 obtain ⟨p, q, hA0, hV, rfl, hfz, hnd⟩ := hW
 have hA : DataW.TrodAll enc Tryz.prog W 0 (fun _ => true) true Tryz.f10.params.toList args.toList ds p := hA0
 rw [Tryz.params10] at hA hval
 obtain ⟨v0, vs0, d0, ds0, p0, q0, hargs, rfl, rfl, h0, r0⟩ := trodAll_cons hA
 obtain ⟨v1, vs1, d1, ds1, p1, q1, rfl, rfl, rfl, h1, r1⟩ := trodAll_cons r0
 obtain ⟨v2, vs2, d2, ds2, p2, q2, rfl, rfl, rfl, h2, r2⟩ := trodAll_cons r1
 obtain ⟨v3, vs3, d3, ds3, p3, q3, rfl, rfl, rfl, h3, r3⟩ := trodAll_cons r2
 obtain ⟨rfl, rfl, rfl⟩ := trodAll_nil r3
 obtain rfl : args = #[v0, v1, v2, v3] := by cases args; simp_all
 obtain ⟨rfl, rfl⟩ := trodVars_none hV
 have lt0 : ∀ x ∈ p0, x.block < W.heap.size := by obtain ⟨m, hm⟩ := h0; exact DataW.trod_lt m _ _ _ hm
 have lt1 : ∀ x ∈ p1, x.block < W.heap.size := by obtain ⟨m, hm⟩ := h1; exact DataW.trod_lt m _ _ _ hm
 have lt2 : ∀ x ∈ p2, x.block < W.heap.size := by obtain ⟨m, hm⟩ := h2; exact DataW.trod_lt m _ _ _ hm
 have lt3 : ∀ x ∈ p3, x.block < W.heap.size := by obtain ⟨m, hm⟩ := h3; exact DataW.trod_lt m _ _ _ hm
 obtain ⟨z, s, c, k0⟩ := pY (hval 0 25 v0 rfl rfl) h0
 obtain ⟨zm, sm, cm, k1⟩ := pY (hval 1 25 v1 rfl rfl) h1
 obtain ⟨g, k2⟩ := Zl (hval 2 102 v2 rfl rfl) h2
 obtain ⟨js, k3⟩ := Jz (hval 3 26 v3 rfl rfl) h3
 clear hA0 hval0
 refine (Eg (z := z) (s := s) (c := c) (zm := zm) (sm := sm) (cm := cm) (g := g) (js := js) [v0, v1, v2, v3] (hv W) W (fun b o h => h) ⟨k0, k1, k2, k3, trivial⟩).mono fun e W' ⟨v, V', he, _, _, _, bel, hb⟩ => ?_
 obtain rfl := vY hb he
 exact ⟨_, rfl, _, _, _, [], _, [], hW', trodAll_mk1 (shut_bool V_4 _), (trodAll_cons_mk (Below.trod nG (by kernel_rfl) (of_decide_eq_true (by kernel_rfl)) h0 bel lt0) (trodAll_cons_mk (Below.trod nG (by kernel_rfl) (of_decide_eq_true (by kernel_rfl)) h1 bel lt1) (trodAll_cons_mk (Below.trod nG (by kernel_rfl) (of_decide_eq_true (by kernel_rfl)) h2 bel lt2) (trodAll_cons_mk (Below.trod nG (by kernel_rfl) (of_decide_eq_true (by kernel_rfl)) h3 bel lt3) trodAll_mk0)))), rfl, bel.frame _, fun h => by cases h⟩
theorem Cd : Tryz.pinned.checked.prog.funcNamed Rows.noiseThermalRow.func = some 10 := by kernel_rfl
theorem Ch : laidOutB Tryz.pinned.checked.prog = true := by kernel_rfl
theorem Ci : mapsRowed Tryz.pinned.checked.prog = true := by kernel_rfl
theorem Cj : (Rows.noiseThermalRow.inPlace == Tryz.pinned.checked.prog.inPlace 10) = true := by kernel_rfl
theorem Ck : (Rows.noiseThermalRow.unfollowed == Tryz.pinned.checked.prog.unfollowed 10) = true := by kernel_rfl
theorem Cl : (Rows.noiseThermalRow.recurses == Tryz.pinned.checked.prog.recurses 10) = true := by kernel_rfl
theorem Cm : (Rows.noiseThermalRow.named == Tryz.pinned.checked.prog.varsNamed 10) = true := by kernel_rfl
theorem Cn : (Rows.noiseThermalRow.plainKeys == Tryz.pinned.checked.prog.plainKeys) = true := by kernel_rfl
theorem Co : Tryz.pinned.checked.prog.stopsHeard = true := by kernel_rfl
theorem Cp : Tryz.pinned.checked.prog.mayEnter = true := by kernel_rfl
theorem Cq : (Rows.noiseThermalRow.lifted == Tryz.pinned.checked.prog.liftsFinal) = true := by kernel_rfl
theorem Ba : (Tryz.pinned.checked.prog.make == some Rows.noiseThermalRow.make) = true := by kernel_rfl
theorem Ce : joinedFacts Tryz.pinned.checked.prog 10 Tryz.f10 Rows.noiseThermalSpec Rows.noiseThermalRow = true := by unfold joinedFacts; rw [Ch, Ci, Cj, Ck, Cl, Cm, Cn, Co, Cp, Cq, Ba]; kernel_rfl
theorem Cf : Func.isInstance Tryz.pinned.checked.prog Tryz.f10 Rows.noiseThermalRow.origin Rows.noiseThermalRow.targs := of_decide_eq_true (by kernel_rfl)
theorem Cg : Func.isWrapper Tryz.pinned.checked.prog Tryz.f10 Rows.noiseThermalRow.wrapper Rows.noiseThermalRow.mainSum := by unfold Func.isWrapper; first | (rw [if_pos (by decide +kernel)]; kernel_rfl) | (rw [if_neg (by decide +kernel)]; exact ⟨rfl, rfl⟩)
theorem noiseThermal_proved : Rows.NoiseThermalSaid :=
 OpenClaim.holds_of_wide 10 Tryz.f10 rfl rfl rfl rfl rfl rfl rfl ⟨rfl, rfl, rfl, rfl, rfl⟩ rfl rfl rfl rfl rfl Cd Tryz.func10 Ce Cf Cg
  (fun os started H enc _ => lifted_noiseThermal os started H enc)
end
end Go.Proofs.YteohomnhncjcnaaGreat
