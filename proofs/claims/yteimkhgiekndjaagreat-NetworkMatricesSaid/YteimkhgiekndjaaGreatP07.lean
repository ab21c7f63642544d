/- Impedance, Admittance, FromImpedance and FromAdmittance of the program return the matrices, networks or errors of the reference, for every network of one to four ports, every list of up to five impedances and up to five rows of up to five elements. Conditions: none beyond those of the given statement. -/
import Derived.Test.YteimkhgiekndjaaGreatP06
set_option linter.unusedVariables false
set_option linter.unusedSimpArgs false
namespace Go.Proofs.YteimkhgiekndjaaGreat
section
open Go Go.ChangeShapes Go.WideShapes Go.ChangeAt Go.RowKit
set_option maxRecDepth 100000 in
theorem lifted_networkMatrices (os : Os) (started : os.Started) (H : Type) (enc : TypeId × Value → H) :
    ReturnsInHanded {} Tryz.checked os 3 .any (Rows.networkMatricesSpec.pre6 enc Tryz.prog Tryz.f3 Rows.networkMatricesRow.domain false) (Rows.networkMatricesSpec.post enc Tryz.prog Tryz.f3 false true false false) := by
  refine returnsInHanded_of_change (C := Tryz.checked) own started (by kernel_rfl) Tryz.func3
    (ChangeSpec.witness6 (enc := enc) (C := Tryz.checked) false ⟨#[], #[.agg #[.int .u8 0, .slice none 0 0, .slice none 0 0], .slice none 0 0, .slice none 0 0], []⟩ 8 (by kernel_rfl) (by kernel_rfl) (by kernel_rfl) (by kernel_rfl)) ?_
  intro W base args ds gs before hval0 hW hcnd _
  have hval : ∀ (j : Nat) t v, Tryz.f3.params[j]? = some t → args[j]? = some v → Value.okWide Tryz.prog W .any base t v := hval0
  have hW' := hW
  obtain ⟨p, q, hA0, hV, rfl, hfz, hnd⟩ := hW
  have hA : DataW.TrodAll enc Tryz.prog W 0 (fun _ => true) true Tryz.f3.params.toList args.toList ds p := hA0
  rw [Tryz.params3] at hA hval
  obtain ⟨v0, vs0, d0, ds0, p0, q0, hargs, rfl, rfl, h0, r0⟩ := trodAll_cons hA
  obtain ⟨v1, vs1, d1, ds1, p1, q1, rfl, rfl, rfl, h1, r1⟩ := trodAll_cons r0
  obtain ⟨v2, vs2, d2, ds2, p2, q2, rfl, rfl, rfl, h2, r2⟩ := trodAll_cons r1
  obtain ⟨rfl, rfl, rfl⟩ := trodAll_nil r2
  obtain rfl : args = #[v0, v1, v2] := by cases args; simp_all
  obtain ⟨rfl, rfl⟩ := trodVars_none hV
  have lt0 : ∀ x ∈ p0, x.block < W.heap.size := by obtain ⟨m, hm⟩ := h0; exact DataW.trod_lt m _ _ _ hm
  have lt1 : ∀ x ∈ p1, x.block < W.heap.size := by obtain ⟨m, hm⟩ := h1; exact DataW.trod_lt m _ _ _ hm
  have lt2 : ∀ x ∈ p2, x.block < W.heap.size := by obtain ⟨m, hm⟩ := h2; exact DataW.trod_lt m _ _ _ hm
  obtain ⟨a, zl, sl, k0, w0⟩ := trod_partT (hval 0 24 v0 rfl rfl) h0
  obtain ⟨w, k1⟩ := trod_ratsT (hval 1 22 v1 rfl rfl) h1
  obtain ⟨m, k2⟩ := trod_ratmT (hval 2 25 v2 rfl rfl) h2
  clear hA0 hval0
  refine (c_NetworkMatrices (a := a) (zl := zl) (sl := sl) (w := w) (m := m) w0 [v0, v1, v2] (hv W) W (fun b o h => h) ⟨k0, k1, k2, trivial⟩).mono fun e W' ⟨v, V', he, _, _, _, bel, hb⟩ => ?_
  obtain rfl := bool_true hb he
  exact ⟨_, rfl, _, _, _, [], _, [], hW', trodAll_mk1 (shut_bool Tryz.underlying4 _), (trodAll_cons_mk (Below.trod laidOut (by kernel_rfl) (of_decide_eq_true (by kernel_rfl)) h0 bel lt0) (trodAll_cons_mk (Below.trod laidOut (by kernel_rfl) (of_decide_eq_true (by kernel_rfl)) h1 bel lt1) (trodAll_cons_mk (Below.trod laidOut (by kernel_rfl) (of_decide_eq_true (by kernel_rfl)) h2 bel lt2) trodAll_mk0))), rfl, bel.frame _, fun h => by cases h⟩
theorem networkMatrices_f1 : Tryz.pinned.checked.prog.funcNamed Rows.networkMatricesRow.func = some 3 := by kernel_rfl
theorem networkMatrices_g0 : laidOutB Tryz.pinned.checked.prog = true := by kernel_rfl
theorem networkMatrices_g1 : mapsRowed Tryz.pinned.checked.prog = true := by kernel_rfl
theorem networkMatrices_g2 : (Rows.networkMatricesRow.inPlace == Tryz.pinned.checked.prog.inPlace 3) = true := by kernel_rfl
theorem networkMatrices_g3 : (Rows.networkMatricesRow.unfollowed == Tryz.pinned.checked.prog.unfollowed 3) = true := by kernel_rfl
theorem networkMatrices_g4 : (Rows.networkMatricesRow.recurses == Tryz.pinned.checked.prog.recurses 3) = true := by kernel_rfl
theorem networkMatrices_g5 : (Rows.networkMatricesRow.named == Tryz.pinned.checked.prog.varsNamed 3) = true := by kernel_rfl
theorem networkMatrices_g6 : (Rows.networkMatricesRow.plainKeys == Tryz.pinned.checked.prog.plainKeys) = true := by kernel_rfl
theorem networkMatrices_g7 : Tryz.pinned.checked.prog.stopsHeard = true := by kernel_rfl
theorem networkMatrices_g8 : Tryz.pinned.checked.prog.mayEnter = true := by kernel_rfl
theorem networkMatrices_g9 : (Rows.networkMatricesRow.lifted == Tryz.pinned.checked.prog.liftsFinal) = true := by kernel_rfl
theorem networkMatrices_g10 : (Tryz.pinned.checked.prog.make == some Rows.networkMatricesRow.make) = true := by kernel_rfl
theorem networkMatrices_f2 : joinedFacts Tryz.pinned.checked.prog 3 Tryz.f3 Rows.networkMatricesSpec Rows.networkMatricesRow = true := by unfold joinedFacts; rw [networkMatrices_g0, networkMatrices_g1, networkMatrices_g2, networkMatrices_g3, networkMatrices_g4, networkMatrices_g5, networkMatrices_g6, networkMatrices_g7, networkMatrices_g8, networkMatrices_g9, networkMatrices_g10]; kernel_rfl
theorem networkMatrices_f3 : Func.isInstance Tryz.pinned.checked.prog Tryz.f3 Rows.networkMatricesRow.origin Rows.networkMatricesRow.targs := of_decide_eq_true (by kernel_rfl)
theorem networkMatrices_f4 : Func.isWrapper Tryz.pinned.checked.prog Tryz.f3 Rows.networkMatricesRow.wrapper Rows.networkMatricesRow.mainSum := by unfold Func.isWrapper; first | (rw [if_pos (by decide +kernel)]; kernel_rfl) | (rw [if_neg (by decide +kernel)]; exact ⟨rfl, rfl⟩)
theorem networkMatrices_proved : Rows.NetworkMatricesSaid :=
  OpenClaim.holds_of_wide 3 Tryz.f3 rfl rfl rfl rfl rfl rfl rfl ⟨rfl, rfl, rfl, rfl, rfl⟩ rfl rfl rfl rfl rfl networkMatrices_f1 Tryz.func3 networkMatrices_f2 networkMatrices_f3 networkMatrices_f4
    (fun os started H enc _ => lifted_networkMatrices os started H enc)
end
end Go.Proofs.YteimkhgiekndjaaGreat
