/- Remove of Embed is the network where Embed exists and the fixture transmits both ways, Embed of Remove is the network where Remove exists, and Embed is Renumber of Join of Stack, for every network of one to four ports, every port and every fixture. Conditions: none beyond those of the given statement. -/
import Derived.Test.YteohomnhncjcnaaGreatP05
set_option linter.unusedVariables false
set_option linter.unusedSimpArgs false
set_option maxRecDepth 100000
set_option maxHeartbeats 4000000
namespace Go.Proofs.YteohomnhncjcnaaGreat
section
open Go Go.ChangeShapes Go.WideShapes Go.ChangeAt Go.RowKit
theorem rK (os : Os) (started : os.Started) (H : Type) (enc : TypeId × Value → H) :
  ReturnsInHanded {} Tryz.checked os 4 .any (Rows.networkEmbedsSpec.pre6 enc Tryz.prog Tryz.f4 Rows.networkEmbedsRow.domain false) (Rows.networkEmbedsSpec.post enc Tryz.prog Tryz.f4 false true false false) := by
 refine returnsInHanded_of_change (C := Tryz.checked) own started (by kernel_rfl) Tryz.func4
  (ChangeSpec.witness6 (enc := enc) (C := Tryz.checked) false ⟨#[], #[.agg #[.int .u8 0, .slice none 0 0, .slice none 0 0], .int .u8 0, .agg #[.int .u8 0, .slice none 0 0, .slice none 0 0]], []⟩ 8 (by kernel_rfl) (by kernel_rfl) (by kernel_rfl) (by kernel_rfl)) ?_
 intro W base args ds gs before hval0 hW hcnd _
 have hval : ∀ (j : Nat) t v, Tryz.f4.params[j]? = some t → args[j]? = some v → Value.okWide Tryz.prog W .any base t v := hval0
 have hW' := hW
 obtain ⟨p, q, hA0, hV, rfl, hfz, hnd⟩ := hW
 have hA : DataW.TrodAll enc Tryz.prog W 0 (fun _ => true) true Tryz.f4.params.toList args.toList ds p := hA0
 rw [Tryz.params4] at hA hval
 obtain ⟨v0, vs0, d0, ds0, p0, q0, hargs, rfl, rfl, h0, r0⟩ := trodAll_cons hA
 obtain ⟨v1, vs1, d1, ds1, p1, q1, rfl, rfl, rfl, h1, r1⟩ := trodAll_cons r0
 obtain ⟨v2, vs2, d2, ds2, p2, q2, rfl, rfl, rfl, h2, r2⟩ := trodAll_cons r1
 obtain ⟨rfl, rfl, rfl⟩ := trodAll_nil r2
 obtain rfl : args = #[v0, v1, v2] := by cases args; simp_all
 obtain ⟨rfl, rfl⟩ := trodVars_none hV
 have lt0 : ∀ x ∈ p0, x.block < W.heap.size := by obtain ⟨m, hm⟩ := h0; exact DataW.trod_lt m _ _ _ hm
 have lt1 : ∀ x ∈ p1, x.block < W.heap.size := by obtain ⟨m, hm⟩ := h1; exact DataW.trod_lt m _ _ _ hm
 have lt2 : ∀ x ∈ p2, x.block < W.heap.size := by obtain ⟨m, hm⟩ := h2; exact DataW.trod_lt m _ _ _ hm
 obtain ⟨a, zl, sl, k0, w0⟩ := Aj (hval 0 57 v0 rfl rfl) h0
 obtain ⟨l, k1, w1⟩ := Vi Tryz.underlying5 (hval 1 5 v1 rfl rfl) h1
 obtain ⟨b, zm, sm, k2, w2⟩ := Aj (hval 2 57 v2 rfl rfl) h2
 clear hA0 hval0
 refine (xI (a := a) (zl := zl) (sl := sl) (l := l) (b := b) (zm := zm) (sm := sm) w0 w1 [v0, v1, v2] (hv W) W (fun b o h => h) ⟨k0, k1, k2, trivial⟩).mono fun e W' ⟨v, V', he, _, _, _, bel, hb⟩ => ?_
 obtain rfl := Oh hb he
 exact ⟨_, rfl, _, _, _, [], _, [], hW', trodAll_mk1 (shut_bool Tryz.underlying4 _), (trodAll_cons_mk (Below.trod Dx (by kernel_rfl) (of_decide_eq_true (by kernel_rfl)) h0 bel lt0) (trodAll_cons_mk (Below.trod Dx (by kernel_rfl) (of_decide_eq_true (by kernel_rfl)) h1 bel lt1) (trodAll_cons_mk (Below.trod Dx (by kernel_rfl) (of_decide_eq_true (by kernel_rfl)) h2 bel lt2) trodAll_mk0))), rfl, bel.frame _, fun h => by cases h⟩
theorem vQ : Tryz.pinned.checked.prog.funcNamed Rows.networkEmbedsRow.func = some 4 := by kernel_rfl
theorem wN : laidOutB Tryz.pinned.checked.prog = true := by kernel_rfl
theorem wA : mapsRowed Tryz.pinned.checked.prog = true := by kernel_rfl
theorem wD : (Rows.networkEmbedsRow.inPlace == Tryz.pinned.checked.prog.inPlace 4) = true := by kernel_rfl
theorem wP : (Rows.networkEmbedsRow.unfollowed == Tryz.pinned.checked.prog.unfollowed 4) = true := by kernel_rfl
theorem wE : (Rows.networkEmbedsRow.recurses == Tryz.pinned.checked.prog.recurses 4) = true := by kernel_rfl
theorem wJ : (Rows.networkEmbedsRow.named == Tryz.pinned.checked.prog.varsNamed 4) = true := by kernel_rfl
theorem wI : (Rows.networkEmbedsRow.plainKeys == Tryz.pinned.checked.prog.plainKeys) = true := by kernel_rfl
theorem vK : Tryz.pinned.checked.prog.stopsHeard = true := by kernel_rfl
theorem wL : Tryz.pinned.checked.prog.mayEnter = true := by kernel_rfl
theorem vY : (Rows.networkEmbedsRow.lifted == Tryz.pinned.checked.prog.liftsFinal) = true := by kernel_rfl
theorem uN : (Tryz.pinned.checked.prog.make == some Rows.networkEmbedsRow.make) = true := by kernel_rfl
theorem wG : joinedFacts Tryz.pinned.checked.prog 4 Tryz.f4 Rows.networkEmbedsSpec Rows.networkEmbedsRow = true := by unfold joinedFacts; rw [wN, wA, wD, wP, wE, wJ, wI, vK, wL, vY, uN]; kernel_rfl
theorem vN : Func.isInstance Tryz.pinned.checked.prog Tryz.f4 Rows.networkEmbedsRow.origin Rows.networkEmbedsRow.targs := of_decide_eq_true (by kernel_rfl)
theorem wM : Func.isWrapper Tryz.pinned.checked.prog Tryz.f4 Rows.networkEmbedsRow.wrapper Rows.networkEmbedsRow.mainSum := by unfold Func.isWrapper; first | (rw [if_pos (by decide +kernel)]; kernel_rfl) | (rw [if_neg (by decide +kernel)]; exact ⟨rfl, rfl⟩)
theorem networkEmbeds_proved : Rows.NetworkEmbedsSaid :=
 OpenClaim.holds_of_wide 4 Tryz.f4 rfl rfl rfl rfl rfl rfl rfl ⟨rfl, rfl, rfl, rfl, rfl⟩ rfl rfl rfl rfl rfl vQ Tryz.func4 wG vN wM
  (fun os started H enc _ => rK os started H enc)
end
end Go.Proofs.YteohomnhncjcnaaGreat
