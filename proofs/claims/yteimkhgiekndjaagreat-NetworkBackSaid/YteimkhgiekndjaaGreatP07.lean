/- From the impedance matrix, from the admittance matrix, from other impedances and from modes there is a way back, and the impedance matrix does not depend on the reference impedances, for every network of one to four ports. Conditions: none beyond those of the given statement. -/
import Derived.Test.YteimkhgiekndjaaGreatP06
set_option linter.unusedVariables false
set_option linter.unusedSimpArgs false
set_option maxRecDepth 100000
set_option maxHeartbeats 4000000
namespace Go.Proofs.YteimkhgiekndjaaGreat
section
open Go Go.ChangeShapes Go.WideShapes Go.ChangeAt Go.RowKit
theorem lifted_networkBack (os : Os) (started : os.Started) (H : Type) (enc : TypeId × Value → H) :
  ReturnsInHanded {} Tryz.checked os 13 .any (Rows.networkBackSpec.pre6 enc Tryz.prog Tryz.f13 Rows.networkBackRow.domain false) (Rows.networkBackSpec.post enc Tryz.prog Tryz.f13 false true false false) := by
 refine returnsInHanded_of_change (C := Tryz.checked) own started (by kernel_rfl) Tryz.func13
  (ChangeSpec.witness6 (enc := enc) (C := Tryz.checked) false ⟨#[], #[.agg #[.int .u8 0, .slice none 0 0, .slice none 0 0], .slice none 0 0, .agg #[.int .u8 0, .int .u8 0, .int .u8 0, .int .u8 0]], []⟩ 8 (by kernel_rfl) (by kernel_rfl) (by kernel_rfl) (by kernel_rfl)) ?_
 intro W base args ds gs before hval0 hW hcnd _
 have hval : ∀ (j : Nat) t v, Tryz.f13.params[j]? = some t → args[j]? = some v → Value.okWide Tryz.prog W .any base t v := hval0
 have hW' := hW
 obtain ⟨p, q, hA0, hV, rfl, hfz, hnd⟩ := hW
 have hA : DataW.TrodAll enc Tryz.prog W 0 (fun _ => true) true Tryz.f13.params.toList args.toList ds p := hA0
 rw [Tryz.params13] at hA hval
 obtain ⟨v0, vs0, d0, ds0, p0, q0, hargs, rfl, rfl, h0, r0⟩ := trodAll_cons hA
 obtain ⟨v1, vs1, d1, ds1, p1, q1, rfl, rfl, rfl, h1, r1⟩ := trodAll_cons r0
 obtain ⟨v2, vs2, d2, ds2, p2, q2, rfl, rfl, rfl, h2, r2⟩ := trodAll_cons r1
 obtain ⟨rfl, rfl, rfl⟩ := trodAll_nil r2
 obtain rfl : args = #[v0, v1, v2] := by cases args; simp_all
 obtain ⟨rfl, rfl⟩ := trodVars_none hV
 have lt0 : ∀ x ∈ p0, x.block < W.heap.size := by obtain ⟨m, hm⟩ := h0; exact DataW.trod_lt m _ _ _ hm
 have lt1 : ∀ x ∈ p1, x.block < W.heap.size := by obtain ⟨m, hm⟩ := h1; exact DataW.trod_lt m _ _ _ hm
 have lt2 : ∀ x ∈ p2, x.block < W.heap.size := by obtain ⟨m, hm⟩ := h2; exact DataW.trod_lt m _ _ _ hm
 obtain ⟨a, zl, sl, k0, w0⟩ := trod_partT (hval 0 24 v0 rfl rfl) h0
 obtain ⟨zr, k1⟩ := trod_ratsT (hval 1 22 v1 rfl rfl) h1
 obtain ⟨l0, l1, l2, l3, k2, w2⟩ := trod_a4T (hval 2 63 v2 rfl rfl) h2
 clear hA0 hval0
 refine (c_NetworkBack (a := a) (zl := zl) (sl := sl) (zr := zr) (l0 := l0) (l1 := l1) (l2 := l2) (l3 := l3) w0 w2.1 w2.2.1 w2.2.2.1 w2.2.2.2 [v0, v1, v2] (hv W) W (fun b o h => h) ⟨k0, k1, k2, trivial⟩).mono fun e W' ⟨v, V', he, _, _, _, bel, hb⟩ => ?_
 obtain rfl := bool_true hb he
 exact ⟨_, rfl, _, _, _, [], _, [], hW', trodAll_mk1 (shut_bool Tryz.underlying4 _), (trodAll_cons_mk (Below.trod laidOut (by kernel_rfl) (of_decide_eq_true (by kernel_rfl)) h0 bel lt0) (trodAll_cons_mk (Below.trod laidOut (by kernel_rfl) (of_decide_eq_true (by kernel_rfl)) h1 bel lt1) (trodAll_cons_mk (Below.trod laidOut (by kernel_rfl) (of_decide_eq_true (by kernel_rfl)) h2 bel lt2) trodAll_mk0))), rfl, bel.frame _, fun h => by cases h⟩
theorem networkBack_f1 : Tryz.pinned.checked.prog.funcNamed Rows.networkBackRow.func = some 13 := by kernel_rfl
theorem networkBack_g0 : laidOutB Tryz.pinned.checked.prog = true := by kernel_rfl
theorem networkBack_g1 : mapsRowed Tryz.pinned.checked.prog = true := by kernel_rfl
theorem networkBack_g2 : (Rows.networkBackRow.inPlace == Tryz.pinned.checked.prog.inPlace 13) = true := by kernel_rfl
theorem networkBack_g3 : (Rows.networkBackRow.unfollowed == Tryz.pinned.checked.prog.unfollowed 13) = true := by kernel_rfl
theorem networkBack_g4 : (Rows.networkBackRow.recurses == Tryz.pinned.checked.prog.recurses 13) = true := by kernel_rfl
theorem networkBack_g5 : (Rows.networkBackRow.named == Tryz.pinned.checked.prog.varsNamed 13) = true := by kernel_rfl
theorem networkBack_g6 : (Rows.networkBackRow.plainKeys == Tryz.pinned.checked.prog.plainKeys) = true := by kernel_rfl
theorem networkBack_g7 : Tryz.pinned.checked.prog.stopsHeard = true := by kernel_rfl
theorem networkBack_g8 : Tryz.pinned.checked.prog.mayEnter = true := by kernel_rfl
theorem networkBack_g9 : (Rows.networkBackRow.lifted == Tryz.pinned.checked.prog.liftsFinal) = true := by kernel_rfl
theorem networkBack_g10 : (Tryz.pinned.checked.prog.make == some Rows.networkBackRow.make) = true := by kernel_rfl
theorem networkBack_f2 : joinedFacts Tryz.pinned.checked.prog 13 Tryz.f13 Rows.networkBackSpec Rows.networkBackRow = true := by unfold joinedFacts; rw [networkBack_g0, networkBack_g1, networkBack_g2, networkBack_g3, networkBack_g4, networkBack_g5, networkBack_g6, networkBack_g7, networkBack_g8, networkBack_g9, networkBack_g10]; kernel_rfl
theorem networkBack_f3 : Func.isInstance Tryz.pinned.checked.prog Tryz.f13 Rows.networkBackRow.origin Rows.networkBackRow.targs := of_decide_eq_true (by kernel_rfl)
theorem networkBack_f4 : Func.isWrapper Tryz.pinned.checked.prog Tryz.f13 Rows.networkBackRow.wrapper Rows.networkBackRow.mainSum := by unfold Func.isWrapper; first | (rw [if_pos (by decide +kernel)]; kernel_rfl) | (rw [if_neg (by decide +kernel)]; exact ⟨rfl, rfl⟩)
theorem networkBack_proved : Rows.NetworkBackSaid :=
 OpenClaim.holds_of_wide 13 Tryz.f13 rfl rfl rfl rfl rfl rfl rfl ⟨rfl, rfl, rfl, rfl, rfl⟩ rfl rfl rfl rfl rfl networkBack_f1 Tryz.func13 networkBack_f2 networkBack_f3 networkBack_f4
  (fun os started H enc _ => lifted_networkBack os started H enc)
end
end Go.Proofs.YteimkhgiekndjaaGreat
