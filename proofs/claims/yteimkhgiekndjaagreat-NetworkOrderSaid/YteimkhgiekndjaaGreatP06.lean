/- Where two joints exist at once and one after the other, in either order, the networks are equal, for every two networks of one to four ports side by side. Conditions: none beyond those of the given statement. -/
import Derived.Test.YteimkhgiekndjaaGreatP05
set_option linter.unusedVariables false
set_option linter.unusedSimpArgs false
set_option maxRecDepth 100000
set_option maxHeartbeats 4000000
namespace Go.Proofs.YteimkhgiekndjaaGreat
section
open Go Go.ChangeShapes Go.WideShapes Go.ChangeAt Go.RowKit
theorem lifted_networkOrder (os : Os) (started : os.Started) (H : Type) (enc : TypeId × Value → H) :
  ReturnsInHanded {} Tryz.checked os 11 .any (Rows.networkOrderSpec.pre6 enc Tryz.prog Tryz.f11 Rows.networkOrderRow.domain false) (Rows.networkOrderSpec.post enc Tryz.prog Tryz.f11 false true false false) := by
 refine returnsInHanded_of_change (C := Tryz.checked) own started (by kernel_rfl) Tryz.func11
  (ChangeSpec.witness6 (enc := enc) (C := Tryz.checked) false ⟨#[], #[.agg #[.int .u8 0, .slice none 0 0, .slice none 0 0], .agg #[.int .u8 0, .slice none 0 0, .slice none 0 0], .agg #[.int .i64 0, .int .i64 0, .int .i64 0], .agg #[.int .u8 0, .int .u8 0, .int .u8 0, .int .u8 0]], []⟩ 8 (by kernel_rfl) (by kernel_rfl) (by kernel_rfl) (by kernel_rfl)) ?_
 intro W base args ds gs before hval0 hW hcnd _
 have hval : ∀ (j : Nat) t v, Tryz.f11.params[j]? = some t → args[j]? = some v → Value.okWide Tryz.prog W .any base t v := hval0
 have hW' := hW
 obtain ⟨p, q, hA0, hV, rfl, hfz, hnd⟩ := hW
 have hA : DataW.TrodAll enc Tryz.prog W 0 (fun _ => true) true Tryz.f11.params.toList args.toList ds p := hA0
 rw [Tryz.params11] at hA hval
 obtain ⟨v0, vs0, d0, ds0, p0, q0, hargs, rfl, rfl, h0, r0⟩ := trodAll_cons hA
 obtain ⟨v1, vs1, d1, ds1, p1, q1, rfl, rfl, rfl, h1, r1⟩ := trodAll_cons r0
 obtain ⟨v2, vs2, d2, ds2, p2, q2, rfl, rfl, rfl, h2, r2⟩ := trodAll_cons r1
 obtain ⟨v3, vs3, d3, ds3, p3, q3, rfl, rfl, rfl, h3, r3⟩ := trodAll_cons r2
 obtain ⟨rfl, rfl, rfl⟩ := trodAll_nil r3
 obtain rfl : args = #[v0, v1, v2, v3] := by cases args; simp_all
 obtain ⟨rfl, rfl⟩ := trodVars_none hV
 have lt0 : ∀ x ∈ p0, x.block < W.heap.size := by obtain ⟨m, hm⟩ := h0; exact DataW.trod_lt m _ _ _ hm
 have lt1 : ∀ x ∈ p1, x.block < W.heap.size := by obtain ⟨m, hm⟩ := h1; exact DataW.trod_lt m _ _ _ hm
 have lt2 : ∀ x ∈ p2, x.block < W.heap.size := by obtain ⟨m, hm⟩ := h2; exact DataW.trod_lt m _ _ _ hm
 have lt3 : ∀ x ∈ p3, x.block < W.heap.size := by obtain ⟨m, hm⟩ := h3; exact DataW.trod_lt m _ _ _ hm
 obtain ⟨a, zl, sl, k0, w0⟩ := trod_partT (hval 0 24 v0 rfl rfl) h0
 obtain ⟨b, zm, sm, k1, w1⟩ := trod_partT (hval 1 24 v1 rfl rfl) h1
 obtain ⟨rr, k2⟩ := trod_ratT (hval 2 91 v2 rfl rfl) h2
 obtain ⟨l0, l1, l2, l3, k3, w3⟩ := trod_a4T (hval 3 63 v3 rfl rfl) h3
 clear hA0 hval0
 refine (c_NetworkOrder (a := a) (zl := zl) (sl := sl) (b := b) (zm := zm) (sm := sm) (rr := rr) (l0 := l0) (l1 := l1) (l2 := l2) (l3 := l3) w0 w1 w3.1 w3.2.1 w3.2.2.1 w3.2.2.2 [v0, v1, v2, v3] (hv W) W (fun b o h => h) ⟨k0, k1, k2, k3, trivial⟩).mono fun e W' ⟨v, V', he, _, _, _, bel, hb⟩ => ?_
 obtain rfl := bool_true hb he
 exact ⟨_, rfl, _, _, _, [], _, [], hW', trodAll_mk1 (shut_bool Tryz.underlying4 _), (trodAll_cons_mk (Below.trod laidOut (by kernel_rfl) (of_decide_eq_true (by kernel_rfl)) h0 bel lt0) (trodAll_cons_mk (Below.trod laidOut (by kernel_rfl) (of_decide_eq_true (by kernel_rfl)) h1 bel lt1) (trodAll_cons_mk (Below.trod laidOut (by kernel_rfl) (of_decide_eq_true (by kernel_rfl)) h2 bel lt2) (trodAll_cons_mk (Below.trod laidOut (by kernel_rfl) (of_decide_eq_true (by kernel_rfl)) h3 bel lt3) trodAll_mk0)))), rfl, bel.frame _, fun h => by cases h⟩
theorem networkOrder_f1 : Tryz.pinned.checked.prog.funcNamed Rows.networkOrderRow.func = some 11 := by kernel_rfl
theorem networkOrder_g0 : laidOutB Tryz.pinned.checked.prog = true := by kernel_rfl
theorem networkOrder_g1 : mapsRowed Tryz.pinned.checked.prog = true := by kernel_rfl
theorem networkOrder_g2 : (Rows.networkOrderRow.inPlace == Tryz.pinned.checked.prog.inPlace 11) = true := by kernel_rfl
theorem networkOrder_g3 : (Rows.networkOrderRow.unfollowed == Tryz.pinned.checked.prog.unfollowed 11) = true := by kernel_rfl
theorem networkOrder_g4 : (Rows.networkOrderRow.recurses == Tryz.pinned.checked.prog.recurses 11) = true := by kernel_rfl
theorem networkOrder_g5 : (Rows.networkOrderRow.named == Tryz.pinned.checked.prog.varsNamed 11) = true := by kernel_rfl
theorem networkOrder_g6 : (Rows.networkOrderRow.plainKeys == Tryz.pinned.checked.prog.plainKeys) = true := by kernel_rfl
theorem networkOrder_g7 : Tryz.pinned.checked.prog.stopsHeard = true := by kernel_rfl
theorem networkOrder_g8 : Tryz.pinned.checked.prog.mayEnter = true := by kernel_rfl
theorem networkOrder_g9 : (Rows.networkOrderRow.lifted == Tryz.pinned.checked.prog.liftsFinal) = true := by kernel_rfl
theorem networkOrder_g10 : (Tryz.pinned.checked.prog.make == some Rows.networkOrderRow.make) = true := by kernel_rfl
theorem networkOrder_f2 : joinedFacts Tryz.pinned.checked.prog 11 Tryz.f11 Rows.networkOrderSpec Rows.networkOrderRow = true := by unfold joinedFacts; rw [networkOrder_g0, networkOrder_g1, networkOrder_g2, networkOrder_g3, networkOrder_g4, networkOrder_g5, networkOrder_g6, networkOrder_g7, networkOrder_g8, networkOrder_g9, networkOrder_g10]; kernel_rfl
theorem networkOrder_f3 : Func.isInstance Tryz.pinned.checked.prog Tryz.f11 Rows.networkOrderRow.origin Rows.networkOrderRow.targs := of_decide_eq_true (by kernel_rfl)
theorem networkOrder_f4 : Func.isWrapper Tryz.pinned.checked.prog Tryz.f11 Rows.networkOrderRow.wrapper Rows.networkOrderRow.mainSum := by unfold Func.isWrapper; first | (rw [if_pos (by decide +kernel)]; kernel_rfl) | (rw [if_neg (by decide +kernel)]; exact ⟨rfl, rfl⟩)
theorem networkOrder_proved : Rows.NetworkOrderSaid :=
 OpenClaim.holds_of_wide 11 Tryz.f11 rfl rfl rfl rfl rfl rfl rfl ⟨rfl, rfl, rfl, rfl, rfl⟩ rfl rfl rfl rfl rfl networkOrder_f1 Tryz.func11 networkOrder_f2 networkOrder_f3 networkOrder_f4
  (fun os started H enc _ => lifted_networkOrder os started H enc)
end
end Go.Proofs.YteimkhgiekndjaaGreat
