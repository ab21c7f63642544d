/- Embed and Remove of the program return the networks or errors of the reference, for every network of one to four ports, every port and every other network of one to four ports as the fixture. Conditions: none beyond those of the given statement. -/
import Derived.Test.YteimkhgiekndjaaGreatP06
set_option linter.unusedVariables false
set_option linter.unusedSimpArgs false
set_option maxRecDepth 100000
set_option maxHeartbeats 4000000
namespace Go.Proofs.YteimkhgiekndjaaGreat
section
open Go Go.ChangeShapes Go.WideShapes Go.ChangeAt Go.RowKit
theorem lifted_networkEmbed (os : Os) (started : os.Started) (H : Type) (enc : TypeId × Value → H) :
  ReturnsInHanded {} Tryz.checked os 8 .any (Rows.networkEmbedSpec.pre6 enc Tryz.prog Tryz.f8 Rows.networkEmbedRow.domain false) (Rows.networkEmbedSpec.post enc Tryz.prog Tryz.f8 false true false false) := by
 refine returnsInHanded_of_change (C := Tryz.checked) own started (by kernel_rfl) Tryz.func8
  (ChangeSpec.witness6 (enc := enc) (C := Tryz.checked) false ⟨#[], #[.agg #[.int .u8 0, .slice none 0 0, .slice none 0 0], .int .i64 0, .agg #[.int .u8 0, .slice none 0 0, .slice none 0 0]], []⟩ 8 (by kernel_rfl) (by kernel_rfl) (by kernel_rfl) (by kernel_rfl)) ?_
 intro W base args ds gs before hval0 hW hcnd _
 have hval : ∀ (j : Nat) t v, Tryz.f8.params[j]? = some t → args[j]? = some v → Value.okWide Tryz.prog W .any base t v := hval0
 have hW' := hW
 obtain ⟨p, q, hA0, hV, rfl, hfz, hnd⟩ := hW
 have hA : DataW.TrodAll enc Tryz.prog W 0 (fun _ => true) true Tryz.f8.params.toList args.toList ds p := hA0
 rw [Tryz.params8] at hA hval
 obtain ⟨v0, vs0, d0, ds0, p0, q0, hargs, rfl, rfl, h0, r0⟩ := trodAll_cons hA
 obtain ⟨v1, vs1, d1, ds1, p1, q1, rfl, rfl, rfl, h1, r1⟩ := trodAll_cons r0
 obtain ⟨v2, vs2, d2, ds2, p2, q2, rfl, rfl, rfl, h2, r2⟩ := trodAll_cons r1
 obtain ⟨rfl, rfl, rfl⟩ := trodAll_nil r2
 obtain rfl : args = #[v0, v1, v2] := by cases args; simp_all
 obtain ⟨rfl, rfl⟩ := trodVars_none hV
 have lt0 : ∀ x ∈ p0, x.block < W.heap.size := by obtain ⟨m, hm⟩ := h0; exact DataW.trod_lt m _ _ _ hm
 have lt1 : ∀ x ∈ p1, x.block < W.heap.size := by obtain ⟨m, hm⟩ := h1; exact DataW.trod_lt m _ _ _ hm
 have lt2 : ∀ x ∈ p2, x.block < W.heap.size := by obtain ⟨m, hm⟩ := h2; exact DataW.trod_lt m _ _ _ hm
 obtain ⟨a, zl, sl, k0, w0⟩ := trod_partT (hval 0 24 v0 rfl rfl) h0
 obtain ⟨port, k1, w1⟩ := trod_intT Tryz.underlying3 (hval 1 3 v1 rfl rfl) h1
 obtain ⟨b, zm, sm, k2, w2⟩ := trod_partT (hval 2 24 v2 rfl rfl) h2
 clear hA0 hval0
 refine (c_NetworkEmbed (a := a) (zl := zl) (sl := sl) (port := port) (b := b) (zm := zm) (sm := sm) w0 w2 [v0, v1, v2] (hv W) W (fun b o h => h) ⟨k0, k1, k2, trivial⟩).mono fun e W' ⟨v, V', he, _, _, _, bel, hb⟩ => ?_
 obtain rfl := bool_true hb he
 exact ⟨_, rfl, _, _, _, [], _, [], hW', trodAll_mk1 (shut_bool Tryz.underlying4 _), (trodAll_cons_mk (Below.trod laidOut (by kernel_rfl) (of_decide_eq_true (by kernel_rfl)) h0 bel lt0) (trodAll_cons_mk (Below.trod laidOut (by kernel_rfl) (of_decide_eq_true (by kernel_rfl)) h1 bel lt1) (trodAll_cons_mk (Below.trod laidOut (by kernel_rfl) (of_decide_eq_true (by kernel_rfl)) h2 bel lt2) trodAll_mk0))), rfl, bel.frame _, fun h => by cases h⟩
theorem networkEmbed_f1 : Tryz.pinned.checked.prog.funcNamed Rows.networkEmbedRow.func = some 8 := by kernel_rfl
theorem networkEmbed_g0 : laidOutB Tryz.pinned.checked.prog = true := by kernel_rfl
theorem networkEmbed_g1 : mapsRowed Tryz.pinned.checked.prog = true := by kernel_rfl
theorem networkEmbed_g2 : (Rows.networkEmbedRow.inPlace == Tryz.pinned.checked.prog.inPlace 8) = true := by kernel_rfl
theorem networkEmbed_g3 : (Rows.networkEmbedRow.unfollowed == Tryz.pinned.checked.prog.unfollowed 8) = true := by kernel_rfl
theorem networkEmbed_g4 : (Rows.networkEmbedRow.recurses == Tryz.pinned.checked.prog.recurses 8) = true := by kernel_rfl
theorem networkEmbed_g5 : (Rows.networkEmbedRow.named == Tryz.pinned.checked.prog.varsNamed 8) = true := by kernel_rfl
theorem networkEmbed_g6 : (Rows.networkEmbedRow.plainKeys == Tryz.pinned.checked.prog.plainKeys) = true := by kernel_rfl
theorem networkEmbed_g7 : Tryz.pinned.checked.prog.stopsHeard = true := by kernel_rfl
theorem networkEmbed_g8 : Tryz.pinned.checked.prog.mayEnter = true := by kernel_rfl
theorem networkEmbed_g9 : (Rows.networkEmbedRow.lifted == Tryz.pinned.checked.prog.liftsFinal) = true := by kernel_rfl
theorem networkEmbed_g10 : (Tryz.pinned.checked.prog.make == some Rows.networkEmbedRow.make) = true := by kernel_rfl
theorem networkEmbed_f2 : joinedFacts Tryz.pinned.checked.prog 8 Tryz.f8 Rows.networkEmbedSpec Rows.networkEmbedRow = true := by unfold joinedFacts; rw [networkEmbed_g0, networkEmbed_g1, networkEmbed_g2, networkEmbed_g3, networkEmbed_g4, networkEmbed_g5, networkEmbed_g6, networkEmbed_g7, networkEmbed_g8, networkEmbed_g9, networkEmbed_g10]; kernel_rfl
theorem networkEmbed_f3 : Func.isInstance Tryz.pinned.checked.prog Tryz.f8 Rows.networkEmbedRow.origin Rows.networkEmbedRow.targs := of_decide_eq_true (by kernel_rfl)
theorem networkEmbed_f4 : Func.isWrapper Tryz.pinned.checked.prog Tryz.f8 Rows.networkEmbedRow.wrapper Rows.networkEmbedRow.mainSum := by unfold Func.isWrapper; first | (rw [if_pos (by decide +kernel)]; kernel_rfl) | (rw [if_neg (by decide +kernel)]; exact ⟨rfl, rfl⟩)
theorem networkEmbed_proved : Rows.NetworkEmbedSaid :=
 OpenClaim.holds_of_wide 8 Tryz.f8 rfl rfl rfl rfl rfl rfl rfl ⟨rfl, rfl, rfl, rfl, rfl⟩ rfl rfl rfl rfl rfl networkEmbed_f1 Tryz.func8 networkEmbed_f2 networkEmbed_f3 networkEmbed_f4
  (fun os started H enc _ => lifted_networkEmbed os started H enc)
end
end Go.Proofs.YteimkhgiekndjaaGreat
