/- A passive network behind a passive fixture is passive, and its own noise is that of both parts, stacked, joined and renumbered, and is possible. Conditions: none beyond those of the given statement. -/
import Derived.Test.YtdlciihkiefckaaGreatP05
set_option linter.unusedVariables false
set_option linter.unusedSimpArgs false
set_option maxRecDepth 100000
set_option maxHeartbeats 4000000
namespace Go.Proofs.YtdlciihkiefckaaGreat
section
open Go Go.ChangeShapes Go.WideShapes Go.ChangeAt Go.RowKit
theorem lifted_topOwnEmbed (os : Os) (started : os.Started) (H : Type) (enc : TypeId × Value → H) :
  ReturnsInHanded {} Tryz.checked os 7 .any (Rows.topOwnEmbedSpec.pre6 enc Tryz.prog Tryz.f7 Rows.topOwnEmbedRow.domain false) (Rows.topOwnEmbedSpec.post enc Tryz.prog Tryz.f7 false true false false) := by
 refine returnsInHanded_of_change (C := Tryz.checked) own started (by kernel_rfl) Tryz.func7
  (ChangeSpec.witness6 (enc := enc) (C := Tryz.checked) false ⟨#[], #[.agg #[.int .u8 0, .int .u8 0], .agg #[.slice none 0 0, .slice none 0 0], .int .u16 0], []⟩ 8 (by kernel_rfl) (by kernel_rfl) (by kernel_rfl) (by kernel_rfl)) ?_
 intro W base args ds gs before hval0 hW hcnd _
 have hval : ∀ (j : Nat) t v, Tryz.f7.params[j]? = some t → args[j]? = some v → Value.okWide Tryz.prog W .any base t v := hval0
 have hW' := hW
 obtain ⟨p, q, hA0, hV, rfl, hfz, hnd⟩ := hW
 have hA : DataW.TrodAll enc Tryz.prog W 0 (fun _ => true) true Tryz.f7.params.toList args.toList ds p := hA0
 rw [Tryz.params7] at hA hval
 obtain ⟨v0, vs0, d0, ds0, p0, q0, hargs, rfl, rfl, h0, r0⟩ := trodAll_cons hA
 obtain ⟨v1, vs1, d1, ds1, p1, q1, rfl, rfl, rfl, h1, r1⟩ := trodAll_cons r0
 obtain ⟨v2, vs2, d2, ds2, p2, q2, rfl, rfl, rfl, h2, r2⟩ := trodAll_cons r1
 obtain ⟨rfl, rfl, rfl⟩ := trodAll_nil r2
 obtain rfl : args = #[v0, v1, v2] := by cases args; simp_all
 obtain ⟨rfl, rfl⟩ := trodVars_none hV
 have lt0 : ∀ x ∈ p0, x.block < W.heap.size := by obtain ⟨m, hm⟩ := h0; exact DataW.trod_lt m _ _ _ hm
 have lt1 : ∀ x ∈ p1, x.block < W.heap.size := by obtain ⟨m, hm⟩ := h1; exact DataW.trod_lt m _ _ _ hm
 have lt2 : ∀ x ∈ p2, x.block < W.heap.size := by obtain ⟨m, hm⟩ := h2; exact DataW.trod_lt m _ _ _ hm
 obtain ⟨a0, a1, k0, w0⟩ := a0V (hval 0 96 v0 rfl rfl) h0
 obtain ⟨l, m, k1, w1⟩ := Vj (hval 1 97 v1 rfl rfl) h1
 obtain ⟨k, k2, w2⟩ := Vl Tryz.underlying98 (hval 2 98 v2 rfl rfl) h2
 clear hA0 hval0
 refine (Ep (a0 := a0) (a1 := a1) (l := l) (m := m) (k := k) w0.1 w0.2 w1.1 w1.2 w2 [v0, v1, v2] (hv W) W (fun b o h => h) ⟨k0, k1, k2, trivial⟩).mono fun e W' ⟨v, V', he, _, _, _, bel, hb⟩ => ?_
 obtain rfl := Tf hb he
 exact ⟨_, rfl, _, _, _, [], _, [], hW', trodAll_mk1 (shut_bool Tryz.underlying4 _), (trodAll_cons_mk (Below.trod Ic (by kernel_rfl) (of_decide_eq_true (by kernel_rfl)) h0 bel lt0) (trodAll_cons_mk (Below.trod Ic (by kernel_rfl) (of_decide_eq_true (by kernel_rfl)) h1 bel lt1) (trodAll_cons_mk (Below.trod Ic (by kernel_rfl) (of_decide_eq_true (by kernel_rfl)) h2 bel lt2) trodAll_mk0))), rfl, bel.frame _, fun h => by cases h⟩
theorem Dm : Tryz.pinned.checked.prog.funcNamed Rows.topOwnEmbedRow.func = some 7 := by kernel_rfl
theorem Dq : laidOutB Tryz.pinned.checked.prog = true := by kernel_rfl
theorem Ds : mapsRowed Tryz.pinned.checked.prog = true := by kernel_rfl
theorem Dt : (Rows.topOwnEmbedRow.inPlace == Tryz.pinned.checked.prog.inPlace 7) = true := by kernel_rfl
theorem Du : (Rows.topOwnEmbedRow.unfollowed == Tryz.pinned.checked.prog.unfollowed 7) = true := by kernel_rfl
theorem Dv : (Rows.topOwnEmbedRow.recurses == Tryz.pinned.checked.prog.recurses 7) = true := by kernel_rfl
theorem Dw : (Rows.topOwnEmbedRow.named == Tryz.pinned.checked.prog.varsNamed 7) = true := by kernel_rfl
theorem Dx : (Rows.topOwnEmbedRow.plainKeys == Tryz.pinned.checked.prog.plainKeys) = true := by kernel_rfl
theorem Dy : Tryz.pinned.checked.prog.stopsHeard = true := by kernel_rfl
theorem Dz : Tryz.pinned.checked.prog.mayEnter = true := by kernel_rfl
theorem Ea : (Rows.topOwnEmbedRow.lifted == Tryz.pinned.checked.prog.liftsFinal) = true := by kernel_rfl
theorem zV : (Tryz.pinned.checked.prog.make == some Rows.topOwnEmbedRow.make) = true := by kernel_rfl
theorem Dn : joinedFacts Tryz.pinned.checked.prog 7 Tryz.f7 Rows.topOwnEmbedSpec Rows.topOwnEmbedRow = true := by unfold joinedFacts; rw [Dq, Ds, Dt, Du, Dv, Dw, Dx, Dy, Dz, Ea, zV]; kernel_rfl
theorem Do : Func.isInstance Tryz.pinned.checked.prog Tryz.f7 Rows.topOwnEmbedRow.origin Rows.topOwnEmbedRow.targs := of_decide_eq_true (by kernel_rfl)
theorem Dp : Func.isWrapper Tryz.pinned.checked.prog Tryz.f7 Rows.topOwnEmbedRow.wrapper Rows.topOwnEmbedRow.mainSum := by unfold Func.isWrapper; first | (rw [if_pos (by decide +kernel)]; kernel_rfl) | (rw [if_neg (by decide +kernel)]; exact ⟨rfl, rfl⟩)
theorem topOwnEmbed_proved : Rows.TopOwnEmbedSaid :=
 OpenClaim.holds_of_wide 7 Tryz.f7 rfl rfl rfl rfl rfl rfl rfl ⟨rfl, rfl, rfl, rfl, rfl⟩ rfl rfl rfl rfl rfl Dm Tryz.func7 Dn Do Dp
  (fun os started H enc _ => lifted_topOwnEmbed os started H enc)
end
end Go.Proofs.YtdlciihkiefckaaGreat
