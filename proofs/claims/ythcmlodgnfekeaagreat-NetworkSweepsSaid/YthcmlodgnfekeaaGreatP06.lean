/- NewSweep, Points, Point, Between and Resample return the results of the reference Conditions: none beyond those of the given statement. -/
import Derived.Test.YthcmlodgnfekeaaGreatP05
set_option linter.unusedVariables false
set_option linter.unusedSimpArgs false
set_option maxRecDepth 100000
set_option maxHeartbeats 4000000
namespace Go.Proofs.YthcmlodgnfekeaaGreat
section
open Go Go.ChangeShapes Go.WideShapes Go.ChangeAt Go.RowKit
theorem lifted_networkSweeps (os : Os) (started : os.Started) (H : Type) (enc : TypeId × Value → H) :
  ReturnsInHanded {} Tryz.checked os 7 .any (Rows.networkSweepsSpec.pre6 enc Tryz.prog Tryz.f7 Rows.networkSweepsRow.domain false) (Rows.networkSweepsSpec.post enc Tryz.prog Tryz.f7 false true false false) := by
 refine returnsInHanded_of_change (C := Tryz.checked) own started (by kernel_rfl) Tryz.func7
  (ChangeSpec.witness6 (enc := enc) (C := Tryz.checked) false ⟨#[], #[.slice none 0 0, .slice none 0 0, .agg #[.int .i64 0, .int .i64 0, .int .i64 0], .slice none 0 0, .int .i64 0], []⟩ 8 (by kernel_rfl) (by kernel_rfl) (by kernel_rfl) (by kernel_rfl)) ?_
 intro W base args ds gs before hval0 hW hcnd _
 have hval : ∀ (j : Nat) t v, Tryz.f7.params[j]? = some t → args[j]? = some v → Value.okWide Tryz.prog W .any base t v := hval0
 have hW' := hW
 obtain ⟨p, q, hA0, hV, rfl, hfz, hnd⟩ := hW
 have hA : DataW.TrodAll enc Tryz.prog W 0 (fun _ => true) true Tryz.f7.params.toList args.toList ds p := hA0
 rw [Tryz.params7] at hA hval
 obtain ⟨v0, vs0, d0, ds0, p0, q0, hargs, rfl, rfl, h0, r0⟩ := trodAll_cons hA
 obtain ⟨v1, vs1, d1, ds1, p1, q1, rfl, rfl, rfl, h1, r1⟩ := trodAll_cons r0
 obtain ⟨v2, vs2, d2, ds2, p2, q2, rfl, rfl, rfl, h2, r2⟩ := trodAll_cons r1
 obtain ⟨v3, vs3, d3, ds3, p3, q3, rfl, rfl, rfl, h3, r3⟩ := trodAll_cons r2
 obtain ⟨v4, vs4, d4, ds4, p4, q4, rfl, rfl, rfl, h4, r4⟩ := trodAll_cons r3
 obtain ⟨rfl, rfl, rfl⟩ := trodAll_nil r4
 obtain rfl : args = #[v0, v1, v2, v3, v4] := by cases args; simp_all
 obtain ⟨rfl, rfl⟩ := trodVars_none hV
 have lt0 : ∀ x ∈ p0, x.block < W.heap.size := by obtain ⟨m, hm⟩ := h0; exact DataW.trod_lt m _ _ _ hm
 have lt1 : ∀ x ∈ p1, x.block < W.heap.size := by obtain ⟨m, hm⟩ := h1; exact DataW.trod_lt m _ _ _ hm
 have lt2 : ∀ x ∈ p2, x.block < W.heap.size := by obtain ⟨m, hm⟩ := h2; exact DataW.trod_lt m _ _ _ hm
 have lt3 : ∀ x ∈ p3, x.block < W.heap.size := by obtain ⟨m, hm⟩ := h3; exact DataW.trod_lt m _ _ _ hm
 have lt4 : ∀ x ∈ p4, x.block < W.heap.size := by obtain ⟨m, hm⟩ := h4; exact DataW.trod_lt m _ _ _ hm
 obtain ⟨fs, k0⟩ := zK (hval 0 77 v0 rfl rfl) h0
 obtain ⟨ps, k1, w1⟩ := Gl (hval 1 97 v1 rfl rfl) h1
 obtain ⟨x, k2⟩ := Ns (hval 2 23 v2 rfl rfl) h2
 obtain ⟨more, k3⟩ := zK (hval 3 77 v3 rfl rfl) h3
 obtain ⟨i, k4, w4⟩ := Nr Tryz.underlying3 (hval 4 3 v4 rfl rfl) h4
 clear hA0 hval0
 refine (wA (fs := fs) (ps := ps) (x := x) (more := more) (i := i) w1 [v0, v1, v2, v3, v4] (hv W) W (fun b o h => h) ⟨k0, k1, k2, k3, k4, trivial⟩).mono fun e W' ⟨v, V', he, _, _, _, bel, hb⟩ => ?_
 obtain rfl := Lz hb he
 exact ⟨_, rfl, _, _, _, [], _, [], hW', trodAll_mk1 (shut_bool Tryz.underlying4 _), (trodAll_cons_mk (Below.trod tA (by kernel_rfl) (of_decide_eq_true (by kernel_rfl)) h0 bel lt0) (trodAll_cons_mk (Below.trod tA (by kernel_rfl) (of_decide_eq_true (by kernel_rfl)) h1 bel lt1) (trodAll_cons_mk (Below.trod tA (by kernel_rfl) (of_decide_eq_true (by kernel_rfl)) h2 bel lt2) (trodAll_cons_mk (Below.trod tA (by kernel_rfl) (of_decide_eq_true (by kernel_rfl)) h3 bel lt3) (trodAll_cons_mk (Below.trod tA (by kernel_rfl) (of_decide_eq_true (by kernel_rfl)) h4 bel lt4) trodAll_mk0))))), rfl, bel.frame _, fun h => by cases h⟩
theorem uH : Tryz.pinned.checked.prog.funcNamed Rows.networkSweepsRow.func = some 7 := by kernel_rfl
theorem uL : laidOutB Tryz.pinned.checked.prog = true := by kernel_rfl
theorem uM : mapsRowed Tryz.pinned.checked.prog = true := by kernel_rfl
theorem uN : (Rows.networkSweepsRow.inPlace == Tryz.pinned.checked.prog.inPlace 7) = true := by kernel_rfl
theorem uO : (Rows.networkSweepsRow.unfollowed == Tryz.pinned.checked.prog.unfollowed 7) = true := by kernel_rfl
theorem uP : (Rows.networkSweepsRow.recurses == Tryz.pinned.checked.prog.recurses 7) = true := by kernel_rfl
theorem uQ : (Rows.networkSweepsRow.named == Tryz.pinned.checked.prog.varsNamed 7) = true := by kernel_rfl
theorem uR : (Rows.networkSweepsRow.plainKeys == Tryz.pinned.checked.prog.plainKeys) = true := by kernel_rfl
theorem uS : Tryz.pinned.checked.prog.stopsHeard = true := by kernel_rfl
theorem uT : Tryz.pinned.checked.prog.mayEnter = true := by kernel_rfl
theorem uU : (Rows.networkSweepsRow.lifted == Tryz.pinned.checked.prog.liftsFinal) = true := by kernel_rfl
theorem tD : (Tryz.pinned.checked.prog.make == some Rows.networkSweepsRow.make) = true := by kernel_rfl
theorem uI : joinedFacts Tryz.pinned.checked.prog 7 Tryz.f7 Rows.networkSweepsSpec Rows.networkSweepsRow = true := by unfold joinedFacts; rw [uL, uM, uN, uO, uP, uQ, uR, uS, uT, uU, tD]; kernel_rfl
theorem uJ : Func.isInstance Tryz.pinned.checked.prog Tryz.f7 Rows.networkSweepsRow.origin Rows.networkSweepsRow.targs := of_decide_eq_true (by kernel_rfl)
theorem uK : Func.isWrapper Tryz.pinned.checked.prog Tryz.f7 Rows.networkSweepsRow.wrapper Rows.networkSweepsRow.mainSum := by unfold Func.isWrapper; first | (rw [if_pos (by decide +kernel)]; kernel_rfl) | (rw [if_neg (by decide +kernel)]; exact ⟨rfl, rfl⟩)
theorem networkSweeps_proved : Rows.NetworkSweepsSaid :=
 OpenClaim.holds_of_wide 7 Tryz.f7 rfl rfl rfl rfl rfl rfl rfl ⟨rfl, rfl, rfl, rfl, rfl⟩ rfl rfl rfl rfl rfl uH Tryz.func7 uI uJ uK
  (fun os started H enc _ => lifted_networkSweeps os started H enc)
end
end Go.Proofs.YthcmlodgnfekeaaGreat
