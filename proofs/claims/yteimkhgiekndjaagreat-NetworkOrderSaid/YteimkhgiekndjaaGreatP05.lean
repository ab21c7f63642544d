/- What functions of the program compute, proved by walks over their code, and the plain mathematics of it; a part of the proof in the last text. -/
import Derived.Test.YteimkhgiekndjaaGreatP04
set_option linter.unusedVariables false
set_option linter.unusedSimpArgs false
set_option maxRecDepth 100000
set_option maxHeartbeats 4000000
namespace Go.Proofs.YteimkhgiekndjaaGreat
section
open Go Go.RowKit
abbrev PartT (a : Nat) (zl sl : List Rt) : Ty := AggT [NT .u8 a, RatsT zl, RatsT sl]
theorem rat0_p : ∀ V, (RatT default).p (.agg #[.int .i64 0, .int .i64 0, .int .i64 0]) V := fun V => ⟨[.int .i64 0, .int .i64 0, .int .i64 0], rfl, aW ⟨rfl, trivial⟩ (aW ⟨rfl, trivial⟩ (aW ⟨rfl, trivial⟩ aG))⟩
theorem frzG {B e s l : Nat} {BT : TypeId} {Rs : List (List Ty)} {q : Value → Prop} (hl : l = Rs.length) : ∀ u S V, (Is (.slice (some ⟨B, 0, none⟩) l l)).p u V → (matP q B BT e s Rs).h S V V → (SlT 1 (Rs.map (SlT s))).p u V := fun u S V h1 h2 => frz_mat hl (Nat.le_refl _) u S V h1 h2
theorem plS_rows (a : Nat) (sl : List Rt) : (tab (plN a) fun i => tab (plN a) fun j => RatT (smR (pkR sl (plN a * i + j)))).map (SlT 3) = (plS a sl).map RatsT := by
 rw [plS, tab_map, tab_map]
 refine tab_congr fun i _ => ?_
 rw [RatsT, tab_map]
theorem c_PlainO {a : Nat} {zl sl : List Rt} (ha : a < 256) : FunO Tryz.prog 88 [PartT a zl sl] [] (Nat) (fun B => TupT [RatsT (plZ a zl), Is (.slice (some ⟨B, 0, none⟩) (plN a) (plN a))]) (fun B => [matO B 22 91 3 (tab (plN a) (fun i => tab (plN a) fun j => RatT (smR (pkR sl (plN a * i + j)))))]) (fun _ => True) := by
 have hn : plN a ≤ 4 := by unfold plN; omega
 have hn0 : a % 4 + 1 = plN a := rfl
 refine FunO.intro Tryz.func88 rfl Tryz.ntmps88 rfl (fun cx Z => (ts (rn rfl (fK (Ht rfl)) fun B1 => (ro rfl (cX cW) (ro rfl (cX cW) (eZ (ts (ro rfl (eJ fa_24_0 (Ht rfl) rfl) (ro rfl (fQ A_5 Z_5 (Ht rfl) (i := 1) rfl rfl) (ro rfl (op_remN (Ht rfl) (cV 4) (by omega)) (ro rfl (gJ U_5 U_3 (Ht rfl) (by show _ < 9223372036854775808; first | omega | (simp only [lim]; omega))) (ro rfl (OpTy.nat (dW (Ht rfl) (cV 1) (by show _ < 9223372036854775808; first | omega | (simp only [lim]; omega))) hn0) ?_))))))))))))
 refine ra rfl (eZ (cU (fJ (m := 5) (dp 4 rfl (cZ (Ht rfl)) (C.D_new (Ei := [(14, _)]) rfl rfl rfl (bV (bG 0 rfl rfl) bW) (new_makeO (T := RatT default) (i := Tryz.t91) und_22 info_91 rfl rfl (Ht rfl) rfl rat0_p (El.ag rfl) (by show 24 * _ ≤ _; omega) (by omega)) (dp 4 rfl (cZ (Ht rfl)) (C.D_new (Ei := [(16, _)]) rfl rfl rfl (bV (bG 2 rfl rfl) bW) (new_make (T := Is (.slice none 0 0)) (i := Tryz.t22) Tryz.underlying25 info_22 rfl rfl (Ht rfl) rfl (fun _ => rfl) trivial (by show 24 * _ ≤ _; omega) (by omega)) (C.D_cpy 1 rfl rfl rfl rfl rfl C.cpy_assign ?_))))))))
 refine fW mixed rfl (by kernel_rfl) (aJ (C.F_new (fun B15 => aJ (C.F_new (fun B17 => C.F_cpy rfl (aV (ra rfl (eZ (cU (ts (rm rfl (ro rfl (op_lenO U_22 (Ht rfl) (i := 2) rfl (show ((List.replicate (plN a) (RatT default)).length : Int) = ((plN a : Nat) : Int) from by simp)) (ro rfl (cZ (cV 0)) (eZ (eK (T_conv 3 rfl (mat_nil (e := 91) (s := 3)) ?_))))))))))))))))
 refine T_loop (fun (i : Nat) => i ≤ plN a) (fun (i : Nat) => plN a - i) (fun (i : Nat) => [(1, PtrB B1 0), (4, NT .i64 (plN a)), (5, Is B15), (6, Is (.slice (some ⟨B17, 0, none⟩) (plN a) (plN a))), (19, NT .i64 (plN a)), (20, NT .i64 i)]) (fun (i : Nat) => [Z, box B1 24 [NT .u8 a, RatsT zl, RatsT sl], rowO 91 3 B15 (mixT (fun i => RatT (imR (pkR zl i))) (RatT default) (plN a) i), matO B17 22 91 3 (mixT (fun i => tab (plN a) fun j => RatT (smR (pkR sl (plN a * i + j)))) [] (plN a) i)]) 0 (Nat.zero_le _)
  (aQ rfl (aQ rfl (aQ rfl (aQ rfl (aZ rfl (nt_of (by simp)) (aQ rfl aX)))))) (aU (fun _ _ _ h => h) (aU (box_of rfl) (aU (rowO_of (by rw [← mix_zero]; exact rep_tab _ _)) (aU (matO_of (by rw [← mix_zero]; exact rep_tab _ _)) aY)))) (fun i hi => ?_)
 refine ts (ro rfl (gZ (Ht rfl) (Ht rfl)) (eZ (cU (dX (Ht rfl) (fun hd => ?_) (fun hd => ?_)))))
 ·simp only [decide_eq_true_eq] at hd
  have hni : plN a * i ≤ 4 * 4 := Nat.mul_le_mul hn (by omega)
  refine T_focus 3 (i) rfl (mix_get hd) (fun v0 => (cY (cU (eK (ts (rm rfl (ra rfl (eZ (ts (rm rfl (rm rfl (ro rfl (eJ fa_24_1 (Ht rfl) rfl) (ro rfl (fQ A_22 Z_22 (Ht rfl) (i := 1) rfl rfl) (rm rfl (ro rfl (cJ Tryz.call75 c_pick ⟨(Ht rfl), (Ht rfl), trivial⟩) (ro rfl (cJ Tryz.call74 c_imped ⟨(Ht rfl), trivial⟩) (ro rfl (op_idxO U_22 Z_91 (Ht rfl) (Ht rfl) rfl (i := 2) rfl (by rw [mix_len]; omega) rfl) ?_)))))))))))))))))
  refine R_stO Z_91 (Ht rfl) (Ht rfl) (El.ag rfl) (i := 2) rfl rfl (by rw [mix_len]; omega) rfl ?_
  refine eZ (ts (rm rfl (rm rfl (rm rfl (rn rfl (new_makeO (T := RatT default) (i := Tryz.t91) und_22 info_91 rfl rfl (Ht rfl) rfl rat0_p (El.ag rfl) (by show 24 * _ ≤ _; omega) (by omega)) fun B34 => (ro rfl (gQ U_25 Z_22 (Ht rfl) (Ht rfl) rfl (by omega) (by rw [Nat.mul_one, Nat.zero_add])) ?_))))))
  refine R_stH Z_22 (Ht rfl) (Ht rfl) (by rw [mix_len]; omega) (j := 3) (l := 5) rfl rfl rfl ?_
  refine eZ (cU (T_keep [0, 1, 2, 3, 5] rfl (by decide) (dQ (rm rfl (rm rfl (ro rfl (gQ U_25 Z_22 (Ht rfl) (Ht rfl) rfl (by omega) (by rw [Nat.mul_one, Nat.zero_add])) ?_))))))
  refine ro rfl (op_ldH A_22 Z_22 (Ht rfl) (j := 3) rfl) (ro rfl (op_lenO U_22 (Ht rfl) (i := 4) rfl (show ((List.replicate (plN a) (RatT default)).length : Int) = ((plN a : Nat) : Int) from by simp)) (ro rfl (cZ (cV 0)) (eZ (eK ?_))))
  refine T_loop (fun (j : Nat) => j ≤ plN a) (fun (j : Nat) => plN a - j) (fun (j : Nat) => [(1, PtrB B1 0), (4, NT .i64 (plN a)), (5, Is B15), (6, Is (.slice (some ⟨B17, 0, none⟩) (plN a) (plN a))), (7, NT .i64 i), (19, NT .i64 (plN a)), (20, NT .i64 i), (40, NT .i64 (plN a)), (41, NT .i64 j)]) (fun (j : Nat) => [Z, box B1 24 [NT .u8 a, RatsT zl, RatsT sl], rowO 91 3 B15 (mixT (fun i => RatT (imR (pkR zl i))) (RatT default) (plN a) (i + 1)), matH B17 22 91 3 (mixT (fun i => tab (plN a) fun j => RatT (smR (pkR sl (plN a * i + j)))) [] (plN a) i) i B34, rowO 91 3 B34 (mixT (fun j => RatT (smR (pkR sl (plN a * i + j)))) (RatT default) (plN a) j)]) 0 (Nat.zero_le _)
   (aQ rfl (aQ rfl (aQ rfl (aQ rfl (aQ rfl (aQ rfl (aQ rfl (aQ rfl (aQ rfl aX))))))))) (aU (fun _ _ _ h => h) (aU (box_of rfl) (aU (rowO_of (mix_set (f := (fun i => RatT (imR (pkR zl i)))))) (aU (fun _ _ _ h => h) (aU (rowO_of (by rw [← mix_zero]; exact rep_tab _ _)) aY))))) (fun j hj => ?_)
  refine ts (ro rfl (gZ (Ht rfl) (Ht rfl)) (eZ (cU (dX (Ht rfl) (fun he => ?_) (fun he => ?_)))))
  ·simp only [decide_eq_true_eq] at he
   refine cY (cU (eK (ts (rm rfl (ra rfl (eZ (fJ (m := 14) (dp 6 rfl (cZ (Ht rfl)) (dp 7 rfl (cZ (Ht rfl)) (dqq 44 0 45 1 rfl (gQ U_25 Z_22 (Ht rfl) (Ht rfl) rfl (by omega) (by rw [Nat.mul_one, Nat.zero_add])) ?_))))))))))
   refine dq 46 2 rfl (op_ldH A_22 Z_22 (Ht rfl) (j := 3) rfl) (dp 8 rfl (cZ (Ht rfl)) (dp 1 rfl (eJ fa_24_2 (Ht rfl) rfl) (dq 49 5 rfl (fQ A_22 Z_22 (Ht rfl) (i := 1) rfl rfl) (dp 4 rfl (cZ (Ht rfl)) (dp 7 rfl (cZ (Ht rfl)) (dqq 51 7 52 8 rfl (op_mulN (Ht rfl) (Ht rfl) (by show _ < 9223372036854775808; omega)) (dp 8 rfl (cZ (Ht rfl)) (dqq 53 9 54 10 rfl (dW (Ht rfl) (Ht rfl) (by show _ < 9223372036854775808; omega)) (dqq 50 6 55 11 rfl (cJ Tryz.call75 c_pick ⟨(Ht rfl), (Ht rfl), trivial⟩) (dq 56 12 rfl (cJ Tryz.call161 c_small ⟨(Ht rfl), trivial⟩) ?_))))))))))
   refine fW mixed rfl (by kernel_rfl) (aJ (aJ (aJ (aJ (aJ (aJ (aJ (aJ (aJ (aJ (aJ (aJ (aJ (aJ (aV (ro rfl (op_idxO U_22 Z_91 (Ht rfl) (Ht rfl) rfl (i := 4) rfl (by rw [mix_len]; omega) rfl) ?_))))))))))))))))
   refine R_stO Z_91 (Ht rfl) (Ht rfl) (El.ag rfl) (i := 4) rfl rfl (by rw [mix_len]; omega) rfl ?_
   refine eZ (T_blk (dQ (ro rfl (dW (Ht rfl) (cV 1) (by show _ < 9223372036854775808; first | omega | (simp only [lim]; omega))) (rm rfl (eZ (fY (j + 1) he (by omega) (aQ rfl (aQ rfl (aQ rfl (aQ rfl (aQ rfl (aQ rfl (aQ rfl (aQ rfl (aQ rfl aX))))))))) (aU (fun _ _ _ h => h) (aU (box_of rfl) (aU (fun _ _ _ h => h) (aU (fun _ _ _ h => h) (aU (rowO_of (mix_set (f := fun j => RatT (smR (pkR sl (plN a * i + j)))))) aY)))))))))))
  ·simp only [decide_eq_false_iff_not] at he
   have hjn : j = plN a := Nat.le_antisymm hj (by omega)
   rw [hjn, mix_fin]
   refine gW rfl (T_blk (T_unfocus 3 4 rfl rfl (by decide) (by rw [mix_len]; omega) ?_))
   refine dQ (ro rfl (dW (Ht rfl) (cV 1) (by show _ < 9223372036854775808; first | omega | (simp only [lim]; omega))) (rm rfl (eZ (T_keep [0, 1, 2, 3] rfl (by decide) (fY (i + 1) hd (by omega) (aQ rfl (aQ rfl (aQ rfl (aQ rfl (aQ rfl (aQ rfl aX)))))) (aU (fun _ _ _ h => h) (aU (box_of rfl) (aU (fun _ _ _ h => h) (aU (matO_of (mix_set (f := (fun i => tab (plN a) fun j => RatT (smR (pkR sl (plN a * i + j))))))) aY)))))))))
 ·simp only [decide_eq_false_iff_not] at hd
  have hin : i = plN a := Nat.le_antisymm hi (by omega)
  rw [hin, mix_fin, mix_fin]
  refine gW rfl (gV (i := 2) (tt := 5) rfl rfl frz_row (ts (rm rfl (rm rfl (ra rfl (ra rfl (eZ ?_)))))))
  exact T_retO B17 trivial [0, 3] ⟨⟨_, rfl, fun _ _ _ h => h⟩, ⟨_, rfl, fun _ _ _ h => h⟩, trivial⟩ (by decide) (rvs2 rfl (fZ (eY rfl) (slT_of (by rw [plZ, tab_map]))) (eY rfl))
theorem tup2 {T U U' : Ty} {v : Value} {V : View} (h : (TupT [T, U]).p v V) (hU : ∀ u, U.p u V → U'.p u V) : (TupT [T, U']).p v V := by
 obtain ⟨vs, h1, h2⟩ := h
 match vs, h2 with
 | [x, y], ⟨a, b, c⟩ => exact ⟨[x, y], h1, a, hU y b, c⟩
theorem c_Plain {a : Nat} {zl sl : List Rt} (ha : a < 256) : Fun Tryz.prog 88 [PartT a zl sl] (TupT [RatsT (plZ a zl), RatM (plS a sl)]) := (c_PlainO ha).fun fun B _ v S V h1 h2 => tup2 h1 fun u hu => by
 exact slT_of (plS_rows a sl) u V (frzG (tab_len _ _).symm u S V hu h2)
theorem c_Build {a : Nat} {zl sl : List Rt} (ha : a < 256) : Fun Tryz.prog 16 [PartT a zl sl] (TupT [NetT ((plZ a zl).map Rt.q) (rq (plS a sl)), RNetT ((plZ a zl).map Rt.q) (rq (plS a sl)), BoolT true]) := by
 have hn : plN a ≤ 4 := by unfold plN; omega
 have herr := pl_err a zl sl
 have hzl : (plZ a zl).length = plN a := tab_len _ _
 have hsl : (plS a sl).length = plN a := tab_len _ _
 have hall : ∀ r, r ∈ plS a sl → r.length ≤ 1000 := fun r hr => by obtain ⟨i, _, rfl⟩ := tab_mem.1 hr; rw [tab_len]; omega
 have hsh := (netErr_ok herr).2.2.1
 have z1 : ((plZ a zl).map Rt.q).length ≤ 1000 := by rw [List.length_map, hzl]; omega
 have s1 : (rq (plS a sl)).length ≤ 1000 := by rw [List.length_map, hsl]; omega
 have hcv : ∀ v V, (TupT [NetT (okL (netErr ((plZ a zl).map Rt.q) (rq (plS a sl))) ((plZ a zl).map Rt.q)) (okL (netErr ((plZ a zl).map Rt.q) (rq (plS a sl))) (rq (plS a sl))), IntT .i64 (netErr ((plZ a zl).map Rt.q) (rq (plS a sl)))]).p v V → (TupT [NetT ((plZ a zl).map Rt.q) (rq (plS a sl)), IntT .i64 0]).p v V := by rw [herr]; exact fun _ _ h => h
 have hcv2 : ∀ v V, (TupT [RNetT (okL (netErr ((plZ a zl).map Rt.q) (rq (plS a sl))) ((plZ a zl).map Rt.q)) (okL (netErr ((plZ a zl).map Rt.q) (rq (plS a sl))) (rq (plS a sl))), IntT .i64 (netErr ((plZ a zl).map Rt.q) (rq (plS a sl)))]).p v V → (TupT [RNetT ((plZ a zl).map Rt.q) (rq (plS a sl)), IntT .i64 0]).p v V := by rw [herr]; exact fun _ _ h => h
 refine Fun.intro Tryz.func16 rfl Tryz.ntmps16 rfl (fun cx => (ts (rn rfl (fK (Ht rfl)) fun B1 => (rn rfl (eG (Ts := [Is (.slice none 0 0), Is (.slice none 0 0)]) O_30 rfl (fun V => aW ⟨rfl, trivial⟩ (aW ⟨rfl, trivial⟩ (aG)))) fun B2 => (rn rfl (eG (Ts := [Is (.slice none 0 0), Is (.slice none 0 0)]) O_34 rfl (fun V => aW ⟨rfl, trivial⟩ (aW ⟨rfl, trivial⟩ (aG)))) fun B3 => (ro rfl (cX cW) (eZ (ts (ro rfl (eW Tryz.isAgg24 Tryz.sizeOf24 (Ht rfl) (i := 0) rfl rfl rfl) (ro rfl (cJ Tryz.call88 (c_Plain ha) ⟨(Ht rfl), trivial⟩) ?_))))))))))
 refine rm rfl (ro rfl (dU (Ht rfl) rfl) (ro rfl (dU (Ht rfl) rfl) (ra rfl (ra rfl (eZ (ts (rm rfl (ro rfl (cJ Tryz.call23 (c_lawList (by omega)) ⟨(Ht rfl), trivial⟩) (rm rfl (ro rfl (cJ Tryz.call24 (c_lawRows (by omega) hall) ⟨(Ht rfl), trivial⟩) (ro rfl (cJ Tryz.call85 (eX (c_netNew (z := ((plZ a zl).map Rt.q)) (s := (rq (plS a sl))) (L := 2) FitL.rt (by decide) z1 s1) hcv) ⟨(Ht rfl), (Ht rfl), trivial⟩) (rm rfl (ro rfl (dU (Ht rfl) rfl) (ro rfl (dU (Ht rfl) rfl) (rn rfl (eG (Ts := [Is (.slice none 0 0), Is (.slice none 0 0)]) O_30 rfl (fun V => aW ⟨rfl, trivial⟩ (aW ⟨rfl, trivial⟩ (aG)))) fun B7 => ?_)))))))))))))))
 refine gX Z_30 (Ht rfl) (Ht rfl) rfl (i := 3) rfl (aK rfl) rfl rfl (ra rfl (eZ (ts (rm rfl (ro rfl (cJ Tryz.call26 (c_refList4 (by omega)) ⟨(Ht rfl), trivial⟩) (rm rfl (ro rfl (cJ Tryz.call27 (c_refRows4 (by omega) hall) ⟨(Ht rfl), trivial⟩) (ro rfl (cJ Tryz.call89 (eX (c_rnetNew (z := ((plZ a zl).map Rt.q)) (s := (rq (plS a sl))) (L := 2) FitL.rt (by decide) z1 s1) hcv2) ⟨(Ht rfl), (Ht rfl), trivial⟩) (rm rfl (ro rfl (dU (Ht rfl) rfl) (ro rfl (dU (Ht rfl) rfl) (rn rfl (eG (Ts := [Is (.slice none 0 0), Is (.slice none 0 0)]) O_34 rfl (fun V => aW ⟨rfl, trivial⟩ (aW ⟨rfl, trivial⟩ (aG)))) fun B9 => ?_))))))))))))
 refine gX Z_34 (Ht rfl) (Ht rfl) rfl (i := 4) rfl (aK rfl) rfl rfl (ra rfl (eZ (cU (Y.D_start (m := 11) [(9, 1, box B2 30 [NumsT ((plZ a zl).map Rt.q), NumM (rq (plS a sl))]), (10, 2, box B3 34 [QsT ((plZ a zl).map Rt.q), QM (rq (plS a sl))])] (Y.D_step (Ei := [(7, _)]) rfl rfl (bQ (bJ rfl rfl) bX) rfl rfl (by kernel_rfl) (dZ rfl (eW A_30 Z_30 (Ht rfl) (i := 3) rfl rfl rfl)) (cQ (Ei := [(9, _)]) rfl rfl (bQ (bJ rfl rfl) bX) rfl rfl (dZ rfl (eW A_34 Z_34 (Ht rfl) (i := 4) rfl rfl rfl)) ?_))))))
 refine Y.D_step (Ei := [(8, _)]) rfl rfl (bQ (bJ rfl rfl) bX) rfl rfl (by kernel_rfl) (dZ rfl (cZ (Ht rfl))) (Y.D_step (Ei := [(34, _)]) rfl rfl (bQ (bZ 2 rfl rfl) bX) rfl rfl (by kernel_rfl) (dZ rfl (op_eql (Ht rfl) cW)) (Y.D_step (Ei := [(35, _)]) rfl rfl (bQ (bZ 3 rfl rfl) bX) rfl rfl (by kernel_rfl) (dZ rfl (cZ (Ht rfl))) (Y.D_step (Ei := [(7, _), (36, _)]) rfl rfl (bQ (bJ rfl rfl) (bQ (bZ 4 rfl rfl) bX)) rfl rfl (by kernel_rfl) (eU rfl rfl (Ht rfl) (fun h => eW A_30 Z_30 (Ht rfl) (i := 3) rfl rfl rfl)) ?_)))
 refine Y.D_step (Ei := [(9, _), (36, _)]) rfl rfl (bQ (bJ rfl rfl) (bQ (bZ 4 rfl rfl) bX)) rfl rfl (by kernel_rfl) (eU rfl rfl (Ht rfl) (fun h => eW A_34 Z_34 (Ht rfl) (i := 4) rfl rfl rfl)) (Y.D_step (Ei := [(37, _), (38, _), (36, _)]) rfl rfl (bQ (bZ 5 rfl rfl) (bQ (bZ 6 rfl rfl) (bQ (bZ 4 rfl rfl) bX))) rfl rfl (by kernel_rfl) (eU rfl rfl (Ht rfl) (fun h => cJ Tryz.call90 (c_is4 (z := ((plZ a zl).map Rt.q)) (s := (rq (plS a sl))) (L := 2) FitL.rt FitM.rt (by decide) (by decide) hsh z1) ⟨(fV rfl h), (fV rfl h), trivial⟩)) ?_)
 refine cQ (Ei := [(36, _), (39, _)]) rfl rfl (bQ (bZ 4 rfl rfl) (bQ (bZ 7 rfl rfl) bX)) rfl rfl (dZ rfl (op_and (Ht rfl) (fun h => (fV rfl h)))) (Y.D_putI (Ei := [(2, _), (32, _)]) 1 rfl rfl rfl (bQ (bJ rfl rfl) (bQ (bZ 0 rfl rfl) bX)) (.head _) rfl (P_stA Z_30 (Ht rfl) (Ht rfl) rfl (i := 0) rfl (aK rfl) rfl rfl) (Y.D_putI (Ei := [(3, _), (33, _)]) 2 rfl rfl rfl (bQ (bJ rfl rfl) (bQ (bZ 1 rfl rfl) bX)) (.tail _ (.head _)) rfl (P_stA Z_34 (Ht rfl) (Ht rfl) rfl (i := 0) rfl (aK rfl) rfl rfl) ?_))
 refine Y.D_done mixed rfl (by kernel_rfl) rfl (by simp [Y.okP]) rfl rfl (bU (bU (bU (bU (bU (bU (bU (bU (bU (Y.F_putI (Y.F_putI (Y.F_nil ?_))))))))))))
 refine ra rfl (eZ (T_ret3 rfl (fU A_30 Z_30 rfl (i := 1) rfl rfl) (fU A_34 Z_34 rfl (i := 2) rfl rfl) (fZ (eY rfl) ?_)))
 exact (bool_of (by simp))
end
section
open Go Go.RowKit
def stkE (x y : Nat) : Int := if 8 < x + y then 4 else 0
def stkZ (z zb : List Qi) : List Qi := okL (stkE z.length zb.length) (z ++ zb)
def stkS (z zb : List Qi) (a b : List (List Qi)) : List (List Qi) := okL (stkE z.length zb.length) (sidM a b z.length zb.length)
theorem stk_bad {x y : Nat} (h : 8 < x + y) : stkE x y = 4 := if_pos h
theorem stk_ok {x y : Nat} (h : ¬ 8 < x + y) : stkE x y = 0 := if_neg h
theorem fitL_app {z zb : List Qi} {L : Nat} (hz : FitL z L) (hb : FitL zb L) : FitL (z ++ zb) L := fun x hx => (List.mem_append.1 hx).elim (hz x) (hb x)
def freshE (n : Nat) (p : Int) (o : List Int) : Int := if ¬ (1 ≤ p ∧ p ≤ n) then 1 else if (o.any fun x => decide (p = x)) = true then 8 else 0
def prtE (n : Nat) (l : List Int) : Int := firstE (fun i => freshE n (l.getD i 0) (l.take i)) l.length
def posL (l : List Int) : List Nat := l.map fun p => (p - 1).toNat
theorem fresh_ok {n : Nat} {p : Int} {o : List Int} (h : freshE n p o = 0) : 1 ≤ p ∧ p ≤ n := by
 unfold freshE at h
 split at h
 ·omega
 ·rename_i c; exact Decidable.not_not.1 c
theorem prt_in {n : Nat} {l : List Int} (h : prtE n l = 0) : ∀ x, x ∈ l → 1 ≤ x ∧ x ≤ n := fun x hx => by
 obtain ⟨i, hi, e⟩ := List.getElem_of_mem hx
 have := fresh_ok (firstE_zero h i hi)
 rw [show l.getD i 0 = x by rw [List.getD, List.getElem?_eq_getElem hi, e]; rfl] at this
 exact this
theorem pos_ints {n : Nat} {l : List Int} (h : prtE n l = 0) : l.map (IntT .i64) = ((posL l).map Nat.succ).map (NT .i64) := by
 rw [posL, List.map_map, List.map_map]
 refine List.map_congr_left fun p hp => ?_
 have := prt_in h p hp
 show IntT .i64 p = IntT .i64 (((p - 1).toNat + 1 : Nat) : Int)
 congr 1; omega
theorem subZ_len (z : List Qi) (Q : List Nat) : (subZ z Q).length = Q.length := tab_len _ _
theorem subZ_fit {z : List Qi} {Q : List Nat} {L : Nat} (h : FitL z L) (hL : 1 ≤ L) : FitL (subZ z Q) L := FitL.tab fun i _ => h.get hL _
end
section
open Go Go.RowKit
section
variable {P : Program} {n : Nat} {E : Env} {H : Hp}
variable {d : Option Tmp} {t : TypeId} {pos : String} {af : Array Edge} {g : Option (Nat × Bool)}
theorem P_stB {x y : Operand} {i B o' : Nat} {BT : TypeId} {Ts Ws : List Ty} {T : Ty} [hsh : Shape T 1 false] (hS : ∀ w, (sizeOf t).run P w = .ok 1 w) (hx : Has E x (PtrB B o')) (hy : Has E y T)
  (hH : H[i]? = some (box B BT Ts)) (hlt : o' < Ts.length) (hW : Ts.set o' T = Ws) {t' : TypeId} {H' : Hp} (hH' : H.set i (box B BT Ws) = H') :
  W.PutTy P n E H H' ⟨none, .store t x y, t', pos, af, none⟩ := by subst hW; subst hH'; exact P_st hS hx hy hH hlt
theorem new_growZ {x y : Operand} {m e s : Nat} {tn : TypeId} {i : TypeInfo} {z : Value} {kd kn : IntKind} (ht : P.underlying t = some (.slice e)) (htn : P.underlying tn = some (.int kn)) (hi : P.info? e = some i) (hz : i.zero = some z) (hs : i.size = s) (hzs : z.cells.size = s) (hs0 : 0 < s)
  (hx : Has E x (Is (.slice none 0 0))) (hy : Has E y (IntT kd (m : Int))) (h0 : 0 < m) (hb : m * i.bytes ≤ 281474976710656) (hm : m ≤ 9223372036854775807) {t' : TypeId} :
  NewTy P n E H ⟨d, .call ⟨.builtin .append, #[x, y], #[t, tn]⟩, t', pos, af, g⟩ (Nat × Nat) (fun q => Is (.slice (some ⟨q.1, 0, none⟩) m q.2)) (fun q => rowO e s (.slice (some ⟨q.1, 0, none⟩) 0 q.2) []) := NewTy.of fun cx X a w V hi' hsl => by
 have ex : a.eval x = .slice none 0 0 := hx n V a hsl
 have ey : a.eval y = .int kd (m : Int) := hy n V a hsl
 have hr := Lib.run_append_nil_zeros (P := P) w t tn t' e i z kd kn ht htn hi hz m h0 (by omega) (by omega) hb
 have hge := grownCap_ge w m 0 e
 have hcm : grownCap w m 0 e ≤ maxLen := grownCap_le_maxLen w m 0 e (by simp only [maxLen]; omega)
 subst hs
 refine ⟨(w.heap.size, grownCap w m 0 e), _, _, ?_, rfl, (hi'.drew).alloc (ob := .cells (Builtin.zeroCells z.cells m ++ Builtin.zeroCells z.cells (grownCap w m 0 e - m)) e) (fun mm hm' => ⟨[], ⟨trivial, by simp, by simp [flat]⟩, .inr ⟨w.heap.size, grownCap w m 0 e, _, rfl, rfl, hm', Nat.zero_le _, hcm, ?_, by simp [flat]⟩⟩)⟩
 ·simp [execOp, resolve, invoke, builtin, ex, ey, hr, Sem.run_bind, Result.andThen]
 ·simp only [Array.size_append, size_zeroCells, hzs, ← Nat.add_mul]
  congr 1; omega
theorem op_capI {x : Operand} {ad : Option Addr} {l cap : Nat} {e : TypeId} {ta : TypeId} (hU : ∀ w, (underlying ta).run P w = .ok (.slice e) w) (hx : Has E x (Is (.slice ad l cap))) :
  OpTy P n E H ⟨d, .call ⟨.builtin .cap, #[x], #[ta]⟩, t, pos, af, g⟩ (IntT .i64 cap) :=
 op_pure fun a V w hs => by
  have e1 : a.eval x = .slice ad l cap := hx n V a hs
  exact ⟨.int .i64 cap, by simp [execOp, resolve, e1, invoke, builtin, Builtin.cap_, Sem.run_bind, hU, Result.andThen, goInt], rfl⟩
theorem op_sliceI {x hiO : Operand} {ad : Option Addr} {l cap m s : Nat} {kd : IntKind} {e : TypeId} (hU : ∀ w, (underlying t).run P w = .ok (.slice e) w) (hS : ∀ w, (sizeOf e).run P w = .ok s w) (hx : Has E x (Is (.slice ad l cap))) (hh : Has E hiO (IntT kd (m : Int))) (h1 : m ≤ cap) {t' : TypeId} :
  OpTy P n E H ⟨d, .slice t x none (some hiO) none, t', pos, af, g⟩ (Is (.slice ad m cap)) :=
 op_pure fun a V w hs => by
  have e1 : a.eval x = .slice ad l cap := hx n V a hs
  have eh : a.eval hiO = .int kd (m : Int) := hh n V a hs
  have had : (ad.map fun x : Addr => x.add 0) = ad := by cases ad <;> simp [Addr.add]
  refine ⟨.slice ad m cap, ?_, rfl⟩
  simp [execOp, e1, eh, Instr.sliceAt, Instr.slice, Instr.sliceBounds, Instr.sliceBound, asIntOf, Sem.run_bind, hU, hS, Result.andThen, h1, had]
end
end
section
open Go Go.RowKit
theorem und_3 : Tryz.prog.underlying 3 = some (.int .i64) := by kernel_rfl
end
section
open Go Go.RowKit
theorem c_GrowO {m : Nat} (hm : m ≤ 1000) : FunO Tryz.prog 218 [Is (.slice none 0 0), NT .i64 m] [] (Value) (fun v => Is v) (fun v => [rowO 45 5 v []]) (fun _ => True) := by
 refine FunO.intro Tryz.func218 rfl Tryz.ntmps218 rfl (fun cx Z => (ts (ro rfl (cX cW) (eZ (cU (ts (rm rfl (ro rfl (gZ (Ht rfl) (cV 0)) (eZ (T_condF (Ht rfl) (by simp) ?_))))))))))
 refine cY (cU (ts (rm rfl (rm rfl (ro rfl (op_capI U_27 (Ht rfl)) (rm rfl (ro rfl (op_lenI U_27 (Ht rfl)) (ro rfl (dG (Ht rfl) (Ht rfl) (by omega) (by show _ < 9223372036854775808; first | omega | (simp only [lim]; omega))) (ro rfl (dG (Ht rfl) (Ht rfl) (by omega) (by show _ < 9223372036854775808; first | omega | (simp only [lim]; omega))) (ra rfl (eZ (ts (rm rfl (ro rfl (op_gtrN (Ht rfl) (cV 0)) (eZ (dX (Ht rfl) (fun hb => ?_) (fun hb => ?_)))))))))))))))))
 ·have h0 : 0 < m := by simp only [decide_eq_true_eq] at hb; omega
  refine dQ (rm rfl (rm rfl (ro rfl (op_capI U_27 (Ht rfl)) (ro rfl (op_sliceI U_27 Z_45 (Ht rfl) (Ht rfl) (Nat.le_refl _)) (rm rfl (rn rfl (new_growZ (i := Tryz.t45) und_27 und_3 info_45 rfl rfl rfl (by decide) (Ht rfl) (Ht rfl) (by omega) (by show _ * 88 ≤ _; omega) (by omega)) fun q22 => (rm rfl (ro rfl (op_lenI U_27 (Ht rfl)) (ro rfl (op_sliceI U_27 Z_45 (Ht rfl) (Ht rfl) (Nat.zero_le _)) (ra rfl (eZ (ts (rm rfl (ra rfl (eZ ?_)))))))))))))))
  exact T_retO _ trivial [0, 1] ⟨⟨_, rfl, fun _ _ _ h => h⟩, ⟨_, rfl, fun _ _ _ h => h⟩, trivial⟩ (by decide) (rvs1 rfl (eY rfl))
 ·obtain rfl : m = 0 := by simp only [decide_eq_false_iff_not] at hb; omega
  refine T_row 45 5 (cY (ts (rm rfl (ra rfl (eZ ?_)))))
  exact T_retO _ trivial [0, 1] ⟨⟨_, rfl, fun _ _ _ h => h⟩, ⟨_, rfl, fun _ _ _ h => h⟩, trivial⟩ (by decide) (rvs1 rfl (eY rfl))
abbrev cat (ls : List (List Qi)) (i : Nat) : List Qi := (ls.take i).flatten
theorem cat_next {ls : List (List Qi)} {i : Nat} (h : i < ls.length) : cat ls (i + 1) = cat ls i ++ ls.getD i [] := by
 simp only [cat]
 rw [List.take_succ_eq_append_getElem h, List.flatten_append]
 simp [List.getD, h]
theorem cat_fin (ls : List (List Qi)) : cat ls ls.length = ls.flatten := by rw [cat, List.take_length]
theorem cat_le {ls : List (List Qi)} {i : Nat} (h : i ≤ ls.length) : (cat ls i).length ≤ ls.flatten.length := by
 have e : ls.flatten = (ls.take i).flatten ++ (ls.drop i).flatten := by rw [← List.flatten_append, List.take_append_drop]
 show (ls.take i).flatten.length ≤ _
 rw [e, List.length_append]; omega
theorem c_Concat {ls : List (List Qi)} (hl : ls.length ≤ 1000) (hf : ls.flatten.length ≤ 1000) : Fun Tryz.prog 122 [SlT 1 (ls.map NumsT)] (NumsT ls.flatten) := by
 refine Fun.intro Tryz.func122 rfl Tryz.ntmps122 rfl (fun cx => (ts (ro rfl (cX cW) (eZ (ts (ro rfl (cX (cV 0)) (eZ (cU (ts (rm rfl (ro rfl (dK U_28 (Ht rfl) len_map) (ro rfl (cZ (cV 0)) (eZ (eK ?_))))))))))))))
 refine T_loop (fun (i : Nat) => i ≤ ls.length) (fun (i : Nat) => ls.length - i) (fun (i : Nat) => [(0, SlT 1 (ls.map NumsT)), (3, NT .i64 (cat ls i).length), (9, SlT 1 (ls.map NumsT)), (10, NT .i64 ls.length), (11, NT .i64 i)]) (fun (i : Nat) => []) 0 (Nat.zero_le _)
  (aQ rfl (aQ rfl (aQ rfl (aQ rfl (aQ rfl aX))))) aY (fun i hi => ?_)
 refine ts (ro rfl (gZ (Ht rfl) (Ht rfl)) (eZ (cU (dX (Ht rfl) (fun hd => ?_) (fun hd => ?_)))))
 ·have hin : i < ls.length := by simp only [decide_eq_true_eq] at hd; omega
  have hcn := cat_next hin
  have hcl := cat_le (ls := ls) (i := i + 1) hin
  rw [hcn, List.length_append] at hcl
  refine cY (cU (eK (ts (ro rfl (dJ U_28 Z_27 (Ht rfl) (Ht rfl) rfl (eQ (dY (d := []) (by omega)))) (ro rfl (dV A_27 Z_27 (Ht rfl)) (ra rfl (eZ (ts (rm rfl (rm rfl (ro rfl (dK U_27 (Ht rfl) len_map) (ro rfl (dW (Ht rfl) (Ht rfl) (by show _ < 9223372036854775808; omega)) (ra rfl (eZ (ts (rm rfl (ro rfl (gZ (Ht rfl) (cV 0)) (eZ (T_condF (Ht rfl) (by simp) ?_)))))))))))))))))))
  refine cY (T_blk (dQ (ro rfl (dW (Ht rfl) (cV 1) (by show _ < 9223372036854775808; first | omega | (simp only [lim]; omega))) (rm rfl (eZ (fY (i + 1) hin (by omega) (aQ rfl (aZ rfl (nt_of (by rw [hcn, List.length_append])) (aQ rfl (aQ rfl (aQ rfl aX))))) aY))))))
 ·have hin : i = ls.length := by simp only [decide_eq_false_iff_not] at hd; omega
  rw [hin, cat_fin]
  refine gW rfl (ts (rm rfl (R_call0 Tryz.call218 (c_GrowO (m := ls.flatten.length) hf) ⟨cW, (Ht rfl), trivial⟩ rfl (fun v24 _ => (ra rfl (eZ (cU (ts (rm rfl (ro rfl (dK U_28 (Ht rfl) len_map) (ro rfl (cZ (cV 0)) (eZ (eK ?_)))))))))))))
  refine T_loop2 (fun (j : Nat) (v : Value) => j ≤ ls.length) (fun (j : Nat) (v : Value) => ls.length - j) (fun (j : Nat) (v : Value) => [(0, SlT 1 (ls.map NumsT)), (6, Is v), (25, SlT 1 (ls.map NumsT)), (26, NT .i64 ls.length), (27, NT .i64 j)]) (fun (j : Nat) (v : Value) => [rowO 45 5 v ((cat ls j).map NumT)]) 0 _ (Nat.zero_le _)
   (aQ rfl (aQ rfl (aQ rfl (aQ rfl (aQ rfl aX))))) (aU (rowO_of rfl) aY) (fun j v hj => ?_)
  refine ts (ro rfl (gZ (Ht rfl) (Ht rfl)) (eZ (cU (dX (Ht rfl) (fun he => ?_) (fun he => ?_)))))
  ·have hjn : j < ls.length := by simp only [decide_eq_true_eq] at he; omega
   have hcn := cat_next hjn
   have hcl := cat_le (ls := ls) (i := j + 1) hjn
   rw [hcn, List.length_append] at hcl
   refine cY (cU (eK (ts (ro rfl (dJ U_28 Z_27 (Ht rfl) (Ht rfl) rfl (eQ (dY (d := []) (by omega)))) (ro rfl (dV A_27 Z_27 (Ht rfl)) (ra rfl (eZ (dQ (rm rfl (rm rfl (R_appendA (inf := Tryz.t45) und_27 info_45 rfl rfl rfl (Ht rfl) (Ht rfl) (i := 0) rfl (fun T hT => by obtain ⟨x, _, rfl⟩ := List.mem_map.1 hT; exact El.ag rfl) (by show _ * 88 ≤ _; simp only [List.length_map]; omega) (by simp only [List.length_map]; omega) rfl (fun v2 => ?_))))))))))))
   refine ra rfl (eZ (T_blk (dQ (ro rfl (dW (Ht rfl) (cV 1) (by show _ < 9223372036854775808; first | omega | (simp only [lim]; omega))) (rm rfl (eZ (fY (j + 1, v2) hjn (by dsimp only; omega) (aQ rfl (aQ rfl (aQ rfl (aQ rfl (aQ rfl aX))))) (aU (rowO_of (by rw [hcn, List.map_append])) aY))))))))
  ·have hjn : j = ls.length := by simp only [decide_eq_false_iff_not] at he; omega
   rw [hjn, cat_fin]
   refine gW rfl (gV (i := 0) (tt := 6) rfl rfl frz_row (ts (rm rfl (ra rfl (eZ ?_)))))
   exact fG rfl (eY rfl)
theorem c_Stack1 {z zb : List Qi} {a b : List (List Qi)} {x y i j : Nat} (ha : Shp a x x) (hb : Shp b y y) (hx : x ≤ 100) (hy : y ≤ 100) (hi : i < x + y) (hj : j < x + y) : Fun Tryz.prog 120 [NT .i64 i, NT .i64 j, PT (NT .i64 x), PT (NetT z a), PT (NetT zb b)] (NumT (gm (sidM a b x y) i j)) := by
 have hal := ha.1
 have hbl := hb.1
 rw [sidM_gm hi hj]
 refine Fun.intro Tryz.func120 rfl Tryz.ntmps120 rfl (fun cx => (ts (rn rfl (eG (Ts := [Is (.bool false), Is (.slice none 0 0), Is (.bool false), Is (.slice none 0 0), Is (.slice none 0 0)]) O_45 rfl (fun V => aW ⟨rfl, trivial⟩ (aW ⟨rfl, trivial⟩ (aW ⟨rfl, trivial⟩ (aW ⟨rfl, trivial⟩ (aW ⟨rfl, trivial⟩ (aG))))))) fun B7 => (eZ (cU (eK (ts (rm rfl (ro rfl (dV A_3 Z_3 (Ht rfl)) (ro rfl (gZ (Ht rfl) (Ht rfl)) (rm rfl (fX rfl rfl (eU rfl rfl (Ht rfl) (fun h => cZ (Ht rfl))) ?_))))))))))))
 refine fX rfl rfl (eU rfl rfl (Ht rfl) (fun h => dV A_3 Z_3 (Ht rfl))) (fX rfl rfl (eU rfl rfl (Ht rfl) (fun h => gZ (fV rfl h) (fV rfl h))) (ro rfl (op_and (Ht rfl) (fun h => (fV rfl h))) (ra rfl (eZ (dX (Ht rfl) (fun h1 => ?_) (fun h1 => ?_))))))
 ·have h2 : i < x ∧ j < x := by simpa using h1
  have har := ha.row h2.1
  refine ts (ro rfl (op_fld1 fa_30_1 (Ht rfl) rfl) (ro rfl (dV A_28 Z_28 (Ht rfl)) (rm rfl (ro rfl (dJ U_28 Z_27 (Ht rfl) (Ht rfl) rfl (eQ (dY (d := []) (by omega)))) (ro rfl (dV A_27 Z_27 (Ht rfl)) (rm rfl (ro rfl (dJ U_27 Z_45 (Ht rfl) (Ht rfl) rfl (eQ (dY (d := Qi.zero) (by omega)))) (ro rfl (dV A_45 Z_45 (Ht rfl)) (gX Z_45 (Ht rfl) (Ht rfl) rfl (i := 0) rfl (aK rfl) rfl rfl (eZ (fG rfl (fZ (fU A_45 Z_45 rfl (i := 0) rfl rfl) ?_))))))))))))
  exact (num_of (by rw [if_pos h2.1, if_pos h2.2]))
 ·have h2 : ¬ (i < x ∧ j < x) := by simpa using h1
  refine ts (rm rfl (ro rfl (dV A_3 Z_3 (Ht rfl)) (ro rfl (op_geqN (Ht rfl) (Ht rfl)) (rm rfl (fX rfl rfl (eU rfl rfl (Ht rfl) (fun h => cZ (Ht rfl))) (fX rfl rfl (eU rfl rfl (Ht rfl) (fun h => dV A_3 Z_3 (Ht rfl))) (fX rfl rfl (eU rfl rfl (Ht rfl) (fun h => op_geqN (fV rfl h) (fV rfl h))) (ro rfl (op_and (Ht rfl) (fun h => (fV rfl h))) (ra rfl (eZ (dX (Ht rfl) (fun h3 => ?_) (fun h3 => ?_))))))))))))
  ·have h4 : x ≤ i ∧ x ≤ j := by simpa using h3
   have hbr := hb.row (i := i - x) (by omega)
   refine cU (fJ (m := 10) (dp 4 rfl (op_fld1 fa_30_1 (Ht rfl) rfl) (dq 34 0 rfl (dV A_28 Z_28 (Ht rfl)) (dp 0 rfl (cZ (Ht rfl)) (dp 2 rfl (dV A_3 Z_3 (Ht rfl)) (dqq 36 2 37 3 rfl (dG (Ht rfl) (Ht rfl) (by omega) (by show _ < 9223372036854775808; first | omega | (simp only [lim]; omega))) (dqq 35 1 38 4 rfl (dJ U_28 Z_27 (Ht rfl) (Ht rfl) rfl (eQ (dY (d := []) (by omega)))) (dq 39 5 rfl (dV A_27 Z_27 (Ht rfl)) (dp 1 rfl (cZ (Ht rfl)) (dp 2 rfl (dV A_3 Z_3 (Ht rfl)) ?_))))))))))
   refine dqq 41 7 42 8 rfl (dG (Ht rfl) (Ht rfl) (by omega) (by show _ < 9223372036854775808; first | omega | (simp only [lim]; omega))) (fW mixed rfl (by kernel_rfl) (aJ (aJ (aJ (aJ (aJ (aJ (aJ (aJ (aJ (aJ (aV (ro rfl (dJ U_27 Z_45 (Ht rfl) (Ht rfl) rfl (eQ (dY (d := Qi.zero) (by omega)))) (ro rfl (dV A_45 Z_45 (Ht rfl)) (gX Z_45 (Ht rfl) (Ht rfl) rfl (i := 0) rfl (aK rfl) rfl rfl (eZ (fG rfl (fZ (fU A_45 Z_45 rfl (i := 0) rfl rfl) ?_))))))))))))))))))
   exact (num_of (by rw [if_neg (by omega), if_pos h4.2]))
  ·have h4 : ¬ (x ≤ i ∧ x ≤ j) := by simpa using h3
   have h5 : Qi.ofInt (0 : Nat) = (if i < x then if j < x then gm a i j else Qi.zero else if x ≤ j then gm b (i - x) (j - x) else Qi.zero) := by
    by_cases e : i < x
    ·rw [if_pos e, if_neg (by omega)]; rfl
    ·rw [if_neg e, if_neg (by omega)]; rfl
   refine cY (T_blk (ts (ro rfl (cJ Tryz.call121 (c_whole (n := 0) (by decide) (by decide)) ⟨(cV 0), trivial⟩) (gX Z_45 (Ht rfl) (Ht rfl) rfl (i := 0) rfl (aK rfl) rfl rfl (eZ (fG rfl (fZ (fU A_45 Z_45 rfl (i := 0) rfl rfl) ?_)))))))
   exact (num_of h5)
theorem c_Stack {z zb : List Qi} {a b : List (List Qi)} (ha : Shp a z.length z.length) (hb : Shp b zb.length zb.length) (hx : z.length ≤ 100) (hy : zb.length ≤ 100) : Fun Tryz.prog 35 [NetT z a, NetT zb b] (TupT [NetT (stkZ z zb) (stkS z zb a b), IntT .i64 (stkE z.length zb.length)]) := by
 refine Fun.intro Tryz.func35 rfl Tryz.ntmps35 rfl (fun cx => (ts (rn rfl (fK (Ht rfl)) fun B2 => (rn rfl (fK (Ht rfl)) fun B3 => (rn rfl (eG (Ts := [Is (.slice none 0 0), Is (.slice none 0 0)]) O_30 rfl (fun V => aW ⟨rfl, trivial⟩ (aW ⟨rfl, trivial⟩ (aG)))) fun B4 => (ro rfl (cX (cV 0)) (eZ (cU (Y.D_start (m := 12) [] (cQ (Ei := [(2, _)]) rfl rfl (bQ (bJ rfl rfl) bX) rfl rfl (dZ rfl (eJ fa_30_0 (Ht rfl) rfl)) (cQ (Ei := [(9, _)]) rfl rfl (bQ (bZ 0 rfl rfl) bX) rfl rfl (dZ rfl (fQ A_27 Z_27 (Ht rfl) (i := 0) rfl rfl)) ?_)))))))))))
 refine cQ (Ei := [(10, _)]) rfl rfl (bQ (bZ 1 rfl rfl) bX) rfl rfl (dZ rfl (dK U_27 (Ht rfl) len_map)) (cQ (Ei := [(2, _)]) rfl rfl (bQ (bJ rfl rfl) bX) rfl rfl (dZ rfl (eJ fa_30_0 (Ht rfl) rfl)) (cQ (Ei := [(12, _)]) rfl rfl (bQ (bZ 3 rfl rfl) bX) rfl rfl (dZ rfl (fQ A_27 Z_27 (Ht rfl) (i := 0) rfl rfl)) (cQ (Ei := [(13, _)]) rfl rfl (bQ (bZ 4 rfl rfl) bX) rfl rfl (dZ rfl (dK U_27 (Ht rfl) len_map)) ?_)))
 refine cQ (Ei := [(3, _)]) rfl rfl (bQ (bJ rfl rfl) bX) rfl rfl (dZ rfl (eJ fa_30_0 (Ht rfl) rfl)) (cQ (Ei := [(15, _)]) rfl rfl (bQ (bZ 6 rfl rfl) bX) rfl rfl (dZ rfl (fQ A_27 Z_27 (Ht rfl) (i := 1) rfl rfl)) (cQ (Ei := [(16, _)]) rfl rfl (bQ (bZ 7 rfl rfl) bX) rfl rfl (dZ rfl (dK U_27 (Ht rfl) len_map)) (cQ (Ei := [(14, _), (17, _)]) rfl rfl (bQ (bZ 5 rfl rfl) (bQ (bZ 8 rfl rfl) bX)) rfl rfl (dZ rfl (dW (Ht rfl) (Ht rfl) (by show _ < 9223372036854775808; first | omega | (simp only [lim]; omega)))) ?_)))
 refine Y.D_newp (Ei := []) (fun bb => box bb 3 [NT .i64 z.length]) 11 rfl rfl rfl bX rfl rfl (by kernel_rfl) (eG (Ts := [Is (.int .i64 0)]) O_3 rfl (fun V => aW ⟨rfl, trivial⟩ (aG))) (Y.D_putN (Ei := [(11, _)]) 10 rfl rfl rfl rfl rfl rfl (bQ (bZ 2 rfl rfl) bX) (fun bb => P_stB Z_3 (Ht rfl) (Ht rfl) (i := 0) rfl (aK rfl) rfl rfl) (Y.D_done mixed rfl (by kernel_rfl) rfl (by simp [Y.okP]) rfl rfl (bU (bU (bU (bU (bU (bU (bU (bU (bU (bU (Y.F_newp (fun B6 => Y.F_putN (Y.F_nil ?_)))))))))))))))
 refine ra rfl (eZ (cU (ts (rm rfl (ro rfl (op_gtrN (Ht rfl) (cV 8)) (eZ (dX (Ht rfl) (fun hb1 => ?_) (fun hb1 => ?_))))))))
 ·have h2 : 8 < z.length + zb.length := by simpa using hb1
  have he := stk_bad h2
  refine ts (ro rfl (OpTy.imp (bld_30_ ) net_nil) (gX Z_30 (Ht rfl) (Ht rfl) rfl (i := 2) rfl (aK rfl) rfl rfl (ro rfl (cX (cV 4)) (eZ (T_ret2 rfl (fZ (fU A_30 Z_30 rfl (i := 2) rfl rfl) ?_) (fZ (eY rfl) ?_))))))
  ·exact (fun v V h => by rw [stkZ, stkS, okL, okL, he]; exact h)
  ·exact (int_of he.symm)
 ·have h2 : ¬ 8 < z.length + zb.length := by simpa using hb1
  have he := stk_ok h2
  refine cY (cU (gV (i := 0) (tt := 2) rfl rfl frz_ptr (gV (i := 1) (tt := 3) rfl rfl frz_ptr (gV (i := 3) (tt := 6) rfl rfl frz_ptr1 (dQ (rm rfl (ro rfl (op_clos (γ := Fin (z.length + zb.length) × Fin (z.length + zb.length)) (Ts := fun x => [NT .i64 x.1.1, NT .i64 x.2.1]) (U := fun x => NumT (gm (sidM a b z.length zb.length) x.1.1 x.2.1)) Tryz.call120 (fun x => c_Stack1 ha hb hx hy x.1.2 x.2.2) ⟨(Ht rfl), (Ht rfl), (Ht rfl), trivial⟩) (ro rfl (cJ Tryz.call119 (eX (c_fill (n := z.length + zb.length) (f := fun i j => gm (sidM a b z.length zb.length) i j) (by omega)) (slT_of (congrArg _ (mat_tab (sidM_shp a b z.length zb.length)).symm))) ⟨(Ht rfl), (Ht rfl), trivial⟩) ?_))))))))
  refine ra rfl (eZ (ts (ro rfl (op_fld1 fa_30_0 (Ht rfl) rfl) (ro rfl (dV A_27 Z_27 (Ht rfl)) (ro rfl (op_fld1 fa_30_0 (Ht rfl) rfl) (ro rfl (dV A_27 Z_27 (Ht rfl)) (ro rfl (op_bslice (xs := [.tmp 26, .tmp 28]) U_28 Z_27 Tryz.zeroValue27 (cG (Ht rfl) (cG (Ht rfl) cK)) rfl rfl rfl) (ro rfl (cJ Tryz.call122 (eX (c_Concat (ls := [z, zb]) (by simp) (by simp; omega)) (slT_of (Us := (z ++ zb).map NumT) (by simp))) ⟨(Ht rfl), trivial⟩) ?_))))))))
  refine rm rfl (ro rfl (bld_30_0_1 (Ht rfl) (Ht rfl)) (gX Z_30 (Ht rfl) (Ht rfl) rfl (i := 2) rfl (aK rfl) rfl rfl (ro rfl (cX (cV 0)) (eZ (T_ret2 rfl (fZ (fU A_30 Z_30 rfl (i := 2) rfl rfl) ?_) (fZ (eY rfl) ?_))))))
  ·exact (fun v V h => by rw [stkZ, stkS, okL, okL, he]; exact h)
  ·exact (int_of he.symm)
theorem c_fresh {z : List Qi} {s : List (List Qi)} {q : Int} {o : List Int} (hl : z.length ≤ 1000) (ho : o.length ≤ 1000) : Fun Tryz.prog 127 [NetT z s, IntT .i64 q, SlT 1 (o.map (IntT .i64))] (IntT .i64 (freshE z.length q o)) := by
 refine Fun.intro Tryz.func127 rfl Tryz.ntmps127 rfl (fun cx => (ts (rn rfl (fK (Ht rfl)) fun B3 => (ro rfl (cX (cV 0)) (eZ (cU (eK (ts (ro rfl (eW A_30 Z_30 (Ht rfl) (i := 0) rfl rfl rfl) (rm rfl (ro rfl (cJ Tryz.call171 c_has ⟨(Ht rfl), (Ht rfl), trivial⟩) (ro rfl (op_not (Ht rfl)) (ra rfl (eZ (dX (Ht rfl) (fun hb1 => ?_) (fun hb1 => ?_))))))))))))))))
 ·have h2 : ¬ (1 ≤ q ∧ q ≤ (z.length : Int)) := by simpa only [Bool.not_eq_true', decide_eq_false_iff_not] using hb1
  refine ts (ro rfl (cX (cV 1)) (eZ (fG rfl (fZ (eY rfl) ?_))))
  exact (int_of (if_pos h2).symm)
 ·have h2 : 1 ≤ q ∧ q ≤ (z.length : Int) := by simpa using hb1
  refine ts (rm rfl (rm rfl (ro rfl (cJ Tryz.call178 (c_ContainsInt (l := o) (v := q) (by omega)) ⟨(Ht rfl), (Ht rfl), trivial⟩) (ra rfl (eZ (dX (Ht rfl) (fun hb2 => ?_) (fun hb2 => ?_)))))))
  ·refine ts (ro rfl (cX (cV 8)) (eZ (fG rfl (fZ (eY rfl) ?_))))
   exact (int_of (by rw [freshE, if_neg (fun k => k h2), if_pos hb2]; rfl))
  ·refine cY (T_blk (ts (ro rfl (cX (cV 0)) (eZ (fG rfl (fZ (eY rfl) ?_))))))
   exact (int_of (by rw [freshE, if_neg (fun k => k h2), if_neg (by rw [hb2]; decide)]; rfl))
end
section
open Go Go.RowKit
def clr (A : List (List Qi)) (c i j : Nat) : Qi := if j < c ∧ j < i then 0 else gm A i j
def KerF (F : Nat → Nat → Qi) (n m : Nat) (x : Nat → Qi) : Prop := ∀ i, i < n → sumN m (fun k => F i k * x k) = 0
theorem kerF_congr {F G : Nat → Nat → Qi} {n m : Nat} {x : Nat → Qi} (h : ∀ i, i < n → ∀ j, j < m → F i j = G i j) : KerF F n m x ↔ KerF G n m x := by
 have e : ∀ i, i < n → sumN m (fun k => F i k * x k) = sumN m (fun k => G i k * x k) := fun i hi => sumN_congr fun k hk => by rw [h i hi k hk]
 exact ⟨fun k i hi => by rw [← e i hi]; exact k i hi, fun k i hi => by rw [e i hi]; exact k i hi⟩
def tau (p c i : Nat) : Nat := if i = c then p else if i = p then c else i
theorem tau_lt {p c i n : Nat} (hp : p < n) (hc : c < n) (hi : i < n) : tau p c i < n := by unfold tau; split <;> (try split) <;> omega
theorem tau_tau (p c i : Nat) : tau p c (tau p c i) = i := by
 unfold tau
 by_cases e1 : i = c
 ·subst e1
  rw [if_pos rfl]
  by_cases e2 : p = i
  ·rw [if_pos e2]; exact e2
  ·rw [if_neg e2, if_pos rfl]
 ·rw [if_neg e1]
  by_cases e2 : i = p
  ·subst e2; rw [if_pos rfl, if_pos rfl]
  ·rw [if_neg e2, if_neg e1, if_neg e2]
theorem kerF_tau {F : Nat → Nat → Qi} {n m p c : Nat} {x : Nat → Qi} (hp : p < n) (hc : c < n) : KerF (fun i => F (tau p c i)) n m x ↔ KerF F n m x :=
 ⟨fun h i hi => by have := h _ (tau_lt hp hc hi); simp only [tau_tau] at this; exact this, fun h i hi => h _ (tau_lt hp hc hi)⟩
theorem kerF_red {F G : Nat → Nat → Qi} {n m c : Nat} {x f : Nat → Qi} (hc : c < n) (hG : ∀ i, i < n → ∀ j, j < m → G i j = if c < i then F i j - f i * F c j else F i j) : KerF G n m x ↔ KerF F n m x := by
 have key : ∀ i, i < n → sumN m (fun k => G i k * x k) = if c < i then sumN m (fun k => F i k * x k) - f i * sumN m (fun k => F c k * x k) else sumN m (fun k => F i k * x k) := fun i hi => by
  by_cases e : c < i
  ·rw [if_pos e, ← sumN_sub]
   exact sumN_congr fun k hk => by rw [hG i hi k hk, if_pos e]; grind
  ·rw [if_neg e]
   exact sumN_congr fun k hk => by rw [hG i hi k hk, if_neg e]
 have kc := key c hc
 rw [if_neg (by omega)] at kc
 constructor
 ·intro h i hi
  have h0 := h c hc
  rw [kc] at h0
  have h1 := h i hi
  rw [key i hi] at h1
  by_cases e : c < i
  ·rw [if_pos e, h0] at h1; grind
  ·rw [if_neg e] at h1; exact h1
 ·intro h i hi
  rw [key i hi]
  by_cases e : c < i
  ·rw [if_pos e, h i hi, h c hc]; grind
  ·rw [if_neg e]; exact h i hi
theorem redM_gm {M : List (List Qi)} {n m c i j : Nat} (h : Shp M n m) (hi : i < n) (hj : j < m) : gm (redM M c n) i j = if c < i ∧ c < j then gm M i j - gm M i c / gm M c c * gm M c j else gm M i j := by
 have hr : (rw' M i).length = m := h.row hi
 have e0 : rw' (redM M c n) i = if c < i ∧ i < n then redR (rw' M i) (rw' M c) c (rw' M i).length else rw' M i := by
  simp only [rw', redM, List.getD]; rw [tab_get (by rw [h.1]; exact hi)]; rfl
 show gv (rw' (redM M c n) i) j = _
 rw [e0]
 by_cases e : c < i
 ·rw [if_pos ⟨e, hi⟩, redR, gv_tab (by omega)]
  by_cases e2 : c < j
  ·rw [if_pos ⟨e2, by omega⟩, if_pos ⟨e, e2⟩]
  ·rw [if_neg (fun k => e2 k.1), if_neg (fun k => e2 k.2)]
 ·rw [if_neg (fun k => e k.1), if_neg (fun k => e k.1)]
theorem clr_swp {A : List (List Qi)} {p c i j : Nat} (hc : c < A.length) (hp : p < A.length) (hcp : c ≤ p) : clr (swp [] A p c) c i j = clr A c (tau p c i) j := by
 have key : gm (swp [] A p c) i j = gm A (tau p c i) j := congrArg (fun r => gv r j) (swp_rw (by omega) (by omega))
 unfold clr
 rw [key]
 have e : (j < c ∧ j < i) ↔ (j < c ∧ j < tau p c i) := by unfold tau; split <;> (try split) <;> omega
 by_cases h : j < c ∧ j < i
 ·rw [if_pos h, if_pos (e.1 h)]
 ·rw [if_neg h, if_neg (fun k => h (e.2 k))]
structure EL (M A : List (List Qi)) (n m c : Nat) : Prop where
 sh : Shp A n m
 ker : ∀ x, KerF (clr A c) n m x ↔ KerF (gm M) n m x
theorem EL.next {M A : List (List Qi)} {n m c p : Nat} (h : EL M A n m c) (hc : c < n) (hcm : c < m) (hcp : c ≤ p) (hp : p < n) (hz : gm A p c ≠ 0) : EL M (redM (if p = c then A else swp [] A p c) c n) n m (c + 1) := by
 have hl := h.sh.1
 obtain ⟨B, hB⟩ : ∃ B, B = if p = c then A else swp [] A p c := ⟨_, rfl⟩
 have hs : Shp B n m := by
  rw [hB]; split
  ·exact h.sh
  ·exact swp_shp h.sh hp hc
 have hBk : ∀ x, KerF (clr B c) n m x ↔ KerF (gm M) n m x := fun x => by
  rw [hB]; split
  ·exact h.ker x
  ·exact (kerF_congr (G := fun i => clr A c (tau p c i)) fun i hi j hj => clr_swp (by omega) (by omega) hcp).trans ((kerF_tau hp hc).trans (h.ker x))
 have hBz : gm B c c ≠ 0 := by
  rw [hB]; split
  ·rename_i e; rw [← e] at hz ⊢; exact hz
  ·show gv (rw' (swp [] A p c) c) c ≠ 0
   rw [swp_at (by omega)]; exact hz
 rw [← hB]
 refine ⟨redM_shp hs, fun x => (kerF_red (f := fun i => gm B i c / gm B c c) hc fun i hi j hj => ?_).trans (hBk x)⟩
 have hd := div_eq (x := gm B i c) hBz
 unfold clr
 rw [redM_gm hs hi hj]
 by_cases e : c < i
 ·rw [if_pos e]
  by_cases e1 : j < c
  ·rw [if_pos (by omega), if_pos (by omega), if_pos (by omega)]; grind
  ·by_cases e2 : j = c
   ·subst e2
    rw [if_pos (by omega), if_neg (by omega), if_neg (by omega)]; grind
   ·rw [if_neg (by omega), if_pos (by omega), if_neg (by omega), if_neg (by omega)]
 ·rw [if_neg e, if_neg (show ¬ (c < i ∧ c < j) from fun k => e k.1)]
  by_cases e1 : j < i
  ·rw [if_pos (show j < c + 1 ∧ j < i by omega), if_pos (show j < c ∧ j < i by omega)]
  ·rw [if_neg (show ¬ (j < c + 1 ∧ j < i) by omega), if_neg (show ¬ (j < c ∧ j < i) by omega)]
theorem elim_el {M : List (List Qi)} {n m : Nat} (hs : Shp M n m) (hnm : n ≤ m) : ∀ {c : Nat}, c ≤ n → (elimTo M c).2.2 < 0 → EL M (elimTo M c).1 n m c
 | 0, _, _ => ⟨hs, fun x => kerF_congr fun i _ j _ => by unfold clr; rw [if_neg (by omega)]; rfl⟩
 | c + 1, hc, h => by
  obtain ⟨i1, i2, i3, i4⟩ := pv_spec (M := (elimTo M c).1) (c := c) (n := M.length) (by rw [hs.1]; omega)
  simp only [elimTo] at h ⊢
  by_cases e : 0 ≤ (elimTo M c).2.2
  ·rw [if_pos e] at h; omega
  ·rw [if_neg e] at h ⊢
   have ih := elim_el hs hnm (c := c) (by omega) (by omega)
   by_cases e2 : pv (elimTo M c).1 c M.length = M.length
   ·rw [if_pos e2] at h; simp only at h; omega
   ·rw [if_neg e2]
    rw [hs.1] at i3 i4 e2 ⊢
    exact ih.next (by omega) (by omega) (by rw [hs.1] at i2; exact i2) (by omega) (i4 (by omega))
theorem elim_halt {M : List (List Qi)} : ∀ {n : Nat}, 0 ≤ (elimTo M n).2.2 → ∃ c, c < n ∧ (elimTo M c).2.2 < 0 ∧ pv (elimTo M c).1 c M.length = M.length
 | 0, h => absurd h (by show ¬ (0 : Int) ≤ -1; omega)
 | c + 1, h => by
  by_cases e : 0 ≤ (elimTo M c).2.2
  ·obtain ⟨d, h1, h2⟩ := elim_halt e
   exact ⟨d, by omega, h2⟩
  ·simp only [elimTo] at h
   rw [if_neg e] at h
   by_cases e2 : pv (elimTo M c).1 c M.length = M.length
   ·exact ⟨c, by omega, by omega, e2⟩
   ·rw [if_neg e2] at h; simp only at h; omega
theorem subS_congr {U : List (List Qi)} {x y : List Qi} {n c : Nat} : ∀ {K : Nat}, (∀ k, k < K → gv x (c + 1 + k) = gv y (c + 1 + k)) → subS U x n c K = subS U y n c K
 | 0, _ => rfl
 | K + 1, h => by rw [subS, subS, subS_congr (fun k hk => h k (by omega)), h K (by omega)]
theorem subS_sum (U : List (List Qi)) (x : List Qi) (n c : Nat) : ∀ K, subS U x n c K = gm U c n - sumN K (fun k => gm U c (c + 1 + k) * gv x (c + 1 + k))
 | 0 => by simp only [subS, sumN, q0]; grind
 | K + 1 => by simp only [subS, sumN, subS_sum U x n c K]; grind
theorem bkS_at {U : List (List Qi)} {n : Nat} : ∀ {j : Nat}, j ≤ n → ∀ c, n - j ≤ c → c < n → gv (bkS U n j) c = subS U (bkS U n j) n c (n - 1 - c) / gm U c c
 | 0, _, c, h1, h2 => by omega
 | j + 1, hj, c, h1, h2 => by
  have hl := bkS_len U n j
  rw [bkS]
  by_cases e : c = n - (j + 1)
  ·subst e
   rw [gv_set (by omega), if_pos rfl, show n - 1 - (n - (j + 1)) = j by omega]
   rw [subS_congr (x := (bkS U n j).set _ _) (y := bkS U n j) fun k hk => by rw [gv_set (by omega), if_neg (by omega)]]
  ·rw [gv_set (by omega), if_neg e, bkS_at (j := j) (by omega) c (by omega) h2]
   rw [subS_congr (x := (bkS U n j).set _ _) (y := bkS U n j) fun k hk => by rw [gv_set (by omega), if_neg (by omega)]]
theorem sumN_app (a : Nat) (f : Nat → Qi) : ∀ b, sumN (a + b) f = sumN a f + sumN b fun k => f (a + k)
 | 0 => by simp only [sumN, q0, Nat.add_zero]; grind
 | b + 1 => by rw [← Nat.add_assoc]; simp only [sumN, sumN_app a f b]; grind
theorem tri_sum {U : List (List Qi)} {n i : Nat} (hi : i < n) (y : Nat → Qi) : sumN n (fun k => clr U n i k * y k) = gm U i i * y i + sumN (n - 1 - i) fun k => gm U i (i + 1 + k) * y (i + 1 + k) := by
 have e : n = i + 1 + (n - 1 - i) := by omega
 have h1 : sumN i (fun k => clr U n i k * y k) = 0 := sumN_all0 fun k hk => by unfold clr; rw [if_pos (by omega)]; grind
 have h2 : clr U n i i = gm U i i := by unfold clr; rw [if_neg (by omega)]
 have h3 : sumN (n - 1 - i) (fun k => clr U n i (i + 1 + k) * y (i + 1 + k)) = sumN (n - 1 - i) fun k => gm U i (i + 1 + k) * y (i + 1 + k) := sumN_congr fun k hk => by unfold clr; rw [if_neg (by omega)]
 have h4 := sumN_app (i + 1) (fun k => clr U n i k * y k) (n - 1 - i)
 rw [← e] at h4
 rw [h4, h3]
 simp only [sumN, h1, h2]; grind
theorem tri_sol {U : List (List Qi)} {n i : Nat} (hd : ∀ j, j < n → gm U j j ≠ 0) (hi : i < n) : sumN n (fun k => clr U n i k * gv (bkS U n n) k) = gm U i n := by
 rw [tri_sum hi, bkS_at (Nat.le_refl n) i (by omega) hi, subS_sum]
 have := div_eq (x := gm U i n - sumN (n - 1 - i) (fun k => gm U i (i + 1 + k) * gv (bkS U n n) (i + 1 + k))) (hd i hi)
 grind
theorem tri_zero {U : List (List Qi)} {n : Nat} (hd : ∀ j, j < n → gm U j j ≠ 0) {y : Nat → Qi} (h : ∀ i, i < n → sumN n (fun k => clr U n i k * y k) = 0) : ∀ t k, n - t ≤ k → k < n → y k = 0
 | 0, k, h1, h2 => by omega
 | t + 1, k, h1, h2 => by
  have h3 := h k h2
  rw [tri_sum h2, sumN_all0 (fun j hj => by rw [tri_zero hd h t (k + 1 + j) (by omega) (by omega)]; grind)] at h3
  rcases mul_zero_or (x := gm U k k) (y := y k) (by grind) with h4 | h4
  ·exact absurd h4 (hd k h2)
  ·exact h4
theorem slv_some {M : List (List Qi)} {b : List Qi} {n : Nat} (h : Shp M n n) (hE : slvE M b n = 0) : (∀ i, i < n → sumN n (fun k => gm M i k * gv (slvX M b n) k) = gv b i) ∧ ∀ y : Nat → Qi, (∀ i, i < n → sumN n (fun k => gm M i k * y k) = 0) → ∀ k, k < n → y k = 0 := by
 have hcs : Shp (copyM M [b] n) n (n + 1) := copyM_shp h
 have hst : (slvU M b n).2.2 < 0 := by
  unfold slvE at hE
  by_cases e : 0 ≤ (slvU M b n).2.2
  ·rw [if_pos e] at hE; omega
  ·omega
 have hg := elim_el hcs (Nat.le_succ n) (Nat.le_refl n) hst
 have hd := elim_diag hcs (Nat.le_refl n) hst
 obtain ⟨U, hU⟩ : ∃ U, U = (slvU M b n).1 := ⟨_, rfl⟩
 have hX : slvX M b n = bkS U n n := by rw [hU]; rfl
 have hU2 : (elimTo (copyM M [b] n) n).1 = U := hU.symm
 rw [hU2] at hg hd
 rw [hX]
 refine ⟨fun i hi => ?_, fun y hy k hk => ?_⟩
 ·have h1 := (hg.ker fun k => if k < n then gv (bkS U n n) k else -1).1 (fun i hi => by
   simp only [sumN]
   rw [sumN_congr (g := fun k => clr U n i k * gv (bkS U n n) k) (fun k hk => by rw [if_pos hk]), tri_sol hd hi, if_neg (by omega), show clr U n i n = gm U i n by unfold clr; rw [if_neg (by omega)]]
   grind) i hi
  rw [cp_sum h hi, sumN_congr (g := fun k => gm M i k * gv (bkS U n n) k) (fun k hk => by rw [if_pos hk]), if_neg (by omega)] at h1
  grind
 ·have h1 := (hg.ker fun k => if k < n then y k else 0).2 (fun i hi => by
   rw [cp_sum h hi, sumN_congr (g := fun k => gm M i k * y k) (fun k hk => by rw [if_pos hk]), if_neg (by omega), hy i hi]; grind)
  refine tri_zero (y := y) hd (fun i hi => ?_) n k (by omega) hk
  have h2 := h1 i hi
  simp only [sumN] at h2
  rw [sumN_congr (g := fun k => clr U n i k * y k) (fun k hk => by rw [if_pos hk]), if_neg (by omega)] at h2
  grind
theorem slv_none {M : List (List Qi)} {b : List Qi} {n : Nat} (h : Shp M n n) (hE : slvE M b n ≠ 0) : ∃ y : Nat → Qi, (∀ i, i < n → sumN n (fun k => gm M i k * y k) = 0) ∧ ∃ k, k < n ∧ y k ≠ 0 := by
 have hcs : Shp (copyM M [b] n) n (n + 1) := copyM_shp h
 have hst : 0 ≤ (slvU M b n).2.2 := by
  unfold slvE at hE
  by_cases e : 0 ≤ (slvU M b n).2.2
  ·exact e
  ·rw [if_neg e] at hE; exact absurd rfl hE
 obtain ⟨c, hc, hA, hp⟩ := elim_halt hst
 have hg := elim_el hcs (Nat.le_succ n) (by omega) hA
 have hd := elim_diag hcs (by omega) hA
 obtain ⟨U, hU⟩ : ∃ U, U = (elimTo (copyM M [b] n) c).1 := ⟨_, rfl⟩
 rw [← hU] at hg hd hp
 rw [hcs.1] at hp
 have hz := (pv_spec (M := U) (c := c) (n := n) (by omega)).1
 rw [hp] at hz
 have key := (hg.ker fun k => if k < c then gv (bkS U c c) k else if k = c then -1 else 0).1 (fun i hi => by
  have e : n + 1 = c + (1 + (n - c)) := by omega
  rw [e, sumN_app, sumN_app]
  have z3 : sumN (n - c) (fun k => clr U c i (c + (1 + k)) * (if c + (1 + k) < c then gv (bkS U c c) (c + (1 + k)) else if c + (1 + k) = c then -1 else 0)) = 0 := sumN_all0 fun k hk => by rw [if_neg (by omega), if_neg (by omega)]; grind
  have z2 : sumN 1 (fun k => clr U c i (c + k) * (if c + k < c then gv (bkS U c c) (c + k) else if c + k = c then -1 else 0)) = clr U c i c * -1 := by
   rw [sumN_one, if_neg (by omega), if_pos (by omega)]; rfl
  have z1 : sumN c (fun k => clr U c i k * (if k < c then gv (bkS U c c) k else if k = c then -1 else 0)) = sumN c (fun k => clr U c i k * gv (bkS U c c) k) := sumN_congr fun k hk => by rw [if_pos hk]
  rw [z1, z2, z3]
  have zc : clr U c i c = gm U i c := by unfold clr; rw [if_neg (by omega)]
  rw [zc]
  by_cases e2 : i < c
  ·rw [tri_sol hd e2]; grind
  ·rw [hz i (by omega) hi, sumN_all0 (fun k hk => by unfold clr; rw [if_pos (by omega)]; grind), q0]; grind)
 refine ⟨fun k => if k < c then gv (bkS U c c) k else if k = c then -1 else 0, fun i hi => ?_, c, hc, ?_⟩
 ·have h1 := key i hi
  rw [cp_sum h hi, if_neg (by omega), if_neg (by omega)] at h1
  grind
 ·show (if c < c then gv (bkS U c c) c else if c = c then (-1 : Qi) else 0) ≠ 0
  rw [if_neg (by omega), if_pos rfl]
  intro e
  exact absurd (congrArg Qi.re e) (by decide)
end
section
open Go Go.RowKit
def gq (ps : List (Nat × Nat)) (x : Nat) : Nat := if x % 2 = 0 then pA ps (x / 2) else pB ps (x / 2)
def prt (x : Nat) : Nat := if x % 2 = 0 then x + 1 else x - 1
theorem prt_lt {x k : Nat} (h : x < 2 * k) : prt x < 2 * k := by unfold prt; split <;> omega
structure Jn (ps : List (Nat × Nat)) (n K : Nat) : Prop where
 lt : ∀ x, x < 2 * K → gq ps x < n
 inj : ∀ x y, x < 2 * K → y < 2 * K → gq ps x = gq ps y → x = y
theorem Jn.le {ps : List (Nat × Nat)} {n K k : Nat} (h : Jn ps n K) (hk : k ≤ K) : Jn ps n k := ⟨fun x hx => h.lt x (by omega), fun x y hx hy => h.inj x y (by omega) (by omega)⟩
def jnM (S : List (List Qi)) (ps : List (Nat × Nat)) (m : Nat) : List (List Qi) := tab m fun x => tab m fun y => (if x = y then Qi.ofInt 1 else Qi.ofInt 0) - gm S (gq ps (prt x)) (gq ps y)
def jnB (S : List (List Qi)) (ps : List (Nat × Nat)) (m b : Nat) : List Qi := tab m fun x => gm S (gq ps (prt x)) b
theorem jnM_shp (S : List (List Qi)) (ps : List (Nat × Nat)) (m : Nat) : Shp (jnM S ps m) m m := Shp.tab
theorem jnM_row {S : List (List Qi)} {ps : List (Nat × Nat)} {m x : Nat} (hx : x < m) (v : Nat → Qi) : sumN m (fun y => gm (jnM S ps m) x y * v y) = v x - sumN m fun y => gm S (gq ps (prt x)) (gq ps y) * v y := by
 have e : ∀ y, y < m → gm (jnM S ps m) x y * v y = (if y = x then v x else 0) - 1 * (gm S (gq ps (prt x)) (gq ps y) * v y) := fun y hy => by
  have : gm (jnM S ps m) x y = (if x = y then Qi.ofInt 1 else Qi.ofInt 0) - gm S (gq ps (prt x)) (gq ps y) := by
   show gv ((jnM S ps m).getD x []) y = _
   rw [jnM, tab_getD hx, gv_tab hy]
  rw [this]
  by_cases c : y = x
  ·subst c; rw [if_pos rfl, if_pos rfl, q1]; grind
  ·rw [if_neg c, if_neg (Ne.symm c), show Qi.ofInt 0 = (0 : Qi) from rfl]; grind
 rw [sumN_congr e, sumN_sub, sumN_single hx (fun k _ hk => if_neg hk), if_pos rfl]; grind
theorem jnB_at {S : List (List Qi)} {ps : List (Nat × Nat)} {m b x : Nat} (hx : x < m) : gv (jnB S ps m b) x = gm S (gq ps (prt x)) b := gv_tab hx
def jnX (S : List (List Qi)) (ps : List (Nat × Nat)) (m a b : Nat) : Qi := gm S a b + sumN m fun y => gm S a (gq ps y) * gv (slvX (jnM S ps m) (jnB S ps m b) m) y
end
section
open Go Go.RowKit
def jfl (js : List (Int × Int)) : List Int := js.flatMap fun q => [q.1, q.2]
def jps (js : List (Int × Int)) : List (Nat × Nat) := js.map fun q => ((q.1 - 1).toNat, (q.2 - 1).toNat)
abbrev jat (js : List (Int × Int)) (k : Nat) : Int × Int := js.getD k (0, 0)
theorem jfl_app (a b : List (Int × Int)) : jfl (a ++ b) = jfl a ++ jfl b := by simp [jfl]
theorem jfl_take {js : List (Int × Int)} {k : Nat} (h : k < js.length) : jfl (js.take (k + 1)) = jfl (js.take k) ++ [(jat js k).1, (jat js k).2] := by
 rw [List.take_succ_eq_append_getElem h, jfl_app]
 simp [jfl, jat, List.getD, h]
theorem jfl_len : ∀ (js : List (Int × Int)), (jfl js).length = 2 * js.length
 | [] => rfl
 | q :: r => by
  have := jfl_len r
  have e : jfl (q :: r) = q.1 :: q.2 :: jfl r := rfl
  rw [e, List.length_cons, List.length_cons, List.length_cons, this]; omega
theorem jfl_get : ∀ (js : List (Int × Int)) {x : Nat}, x < 2 * js.length → (jfl js).getD x 0 = if x % 2 = 0 then (jat js (x / 2)).1 else (jat js (x / 2)).2
 | [], x, h => by simp at h
 | q :: r, 0, _ => rfl
 | q :: r, 1, _ => rfl
 | q :: r, x + 2, h => by
  have ih := jfl_get r (x := x) (by simp only [List.length_cons] at h; omega)
  have e : jfl (q :: r) = q.1 :: q.2 :: jfl r := rfl
  rw [e]
  show (jfl r).getD x 0 = _
  rw [ih, show (x + 2) % 2 = x % 2 by omega, show (x + 2) / 2 = x / 2 + 1 by omega]
  rfl
theorem jps_at {js : List (Int × Int)} {k : Nat} (h : k < js.length) : pA (jps js) k = ((jat js k).1 - 1).toNat ∧ pB (jps js) k = ((jat js k).2 - 1).toNat := by
 simp [pA, pB, jps, jat, List.getD, h]
theorem jgq {js : List (Int × Int)} {x : Nat} (h : x < 2 * js.length) : gq (jps js) x = ((jfl js).getD x 0 - 1).toNat := by
 have h2 : x / 2 < js.length := by omega
 rw [jfl_get js h, gq, (jps_at h2).1, (jps_at h2).2]
 split <;> rfl
theorem prtE_app {n : Nat} {A : List Int} (h : prtE n A = 0) (a : Int) : prtE n (A ++ [a]) = freshE n a A := by
 rw [prtE, List.length_append, List.length_singleton]
 have e : firstE (fun i => freshE n ((A ++ [a]).getD i 0) ((A ++ [a]).take i)) A.length = 0 := firstE_none fun i hi => by
  have := firstE_zero h i hi
  rw [List.take_append_of_le_length (by omega)]
  have e2 : (A ++ [a]).getD i 0 = A.getD i 0 := by simp [List.getD, List.getElem?_append_left hi]
  rw [e2]; exact this
 rw [firstE, e, if_neg (by simp), List.take_append_of_le_length (Nat.le_refl _), List.take_length]
 congr 1
 simp [List.getD]
theorem prtE_app2 {n : Nat} {A : List Int} (h : prtE n A = 0) (a b : Int) : prtE n (A ++ [a, b]) = if freshE n a A ≠ 0 then freshE n a A else freshE n b (A ++ [a]) := by
 have e : A ++ [a, b] = (A ++ [a]) ++ [b] := by simp
 by_cases c : freshE n a A = 0
 ·rw [if_neg (fun k => k c), e, prtE_app (by rw [prtE_app h]; exact c)]
 ·rw [if_pos c]
  have h1 : firstE (fun i => freshE n ((A ++ [a, b]).getD i 0) ((A ++ [a, b]).take i)) A.length = 0 := firstE_none fun i hi => by
   have := firstE_zero h i hi
   rw [List.take_append_of_le_length (by omega)]
   have e2 : (A ++ [a, b]).getD i 0 = A.getD i 0 := by simp [List.getD, List.getElem?_append_left hi]
   rw [e2]; exact this
  have h2 : freshE n ((A ++ [a, b]).getD A.length 0) ((A ++ [a, b]).take A.length) = freshE n a A := by
   rw [List.take_append_of_le_length (Nat.le_refl _), List.take_length]
   congr 1
   simp [List.getD]
  rw [prtE, firstE_at (k := A.length) (fun i hi => firstE_zero h1 i hi) (by rw [h2]; exact c) (by simp)]
  exact h2
def jstE (z : List Qi) (js : List (Int × Int)) (k : Nat) : Int :=
 if freshE z.length (jat js k).1 (jfl (js.take k)) ≠ 0 then freshE z.length (jat js k).1 (jfl (js.take k))
 else if freshE z.length (jat js k).2 (jfl (js.take k) ++ [(jat js k).1]) ≠ 0 then freshE z.length (jat js k).2 (jfl (js.take k) ++ [(jat js k).1])
 else if gv z ((jat js k).1 - 1).toNat = gv z ((jat js k).2 - 1).toNat then 0 else 40
def jdE (z : List Qi) (js : List (Int × Int)) : Int := firstE (jstE z js) js.length
theorem jst_zero {z : List Qi} {js : List (Int × Int)} {k : Nat} (h : jstE z js k = 0) : freshE z.length (jat js k).1 (jfl (js.take k)) = 0 ∧ freshE z.length (jat js k).2 (jfl (js.take k) ++ [(jat js k).1]) = 0 ∧ gv z ((jat js k).1 - 1).toNat = gv z ((jat js k).2 - 1).toNat := by
 unfold jstE at h
 by_cases c1 : freshE z.length (jat js k).1 (jfl (js.take k)) = 0
 ·rw [if_neg (fun k => k c1)] at h
  by_cases c2 : freshE z.length (jat js k).2 (jfl (js.take k) ++ [(jat js k).1]) = 0
  ·rw [if_neg (fun k => k c2)] at h
   by_cases c3 : gv z ((jat js k).1 - 1).toNat = gv z ((jat js k).2 - 1).toNat
   ·exact ⟨c1, c2, c3⟩
   ·rw [if_neg c3] at h; omega
  ·rw [if_pos c2] at h; exact absurd h c2
 ·rw [if_pos c1] at h; exact absurd h c1
theorem jpr {z : List Qi} {js : List (Int × Int)} : ∀ {k : Nat}, k ≤ js.length → (∀ j, j < k → jstE z js j = 0) → prtE z.length (jfl (js.take k)) = 0
 | 0, _, _ => rfl
 | k + 1, hk, h => by
  have ih := jpr (z := z) (js := js) (k := k) (by omega) fun j hj => h j (by omega)
  obtain ⟨h1, h2, _⟩ := jst_zero (h k (by omega))
  rw [jfl_take (by omega), prtE_app2 ih, if_neg (fun k => k h1)]; exact h2
theorem jd_prt {z : List Qi} {js : List (Int × Int)} (h : jdE z js = 0) : prtE z.length (jfl js) = 0 := by
 have := jpr (z := z) (Nat.le_refl js.length) (firstE_zero h)
 rwa [List.take_length] at this
theorem fresh_not {n : Nat} {p : Int} {o : List Int} (h : freshE n p o = 0) : p ∉ o := fun hm => by
 have h1 := fresh_ok h
 unfold freshE at h
 rw [if_neg (fun k => k h1), if_pos (List.any_eq_true.2 ⟨p, hm, by simp⟩)] at h
 omega
theorem prt_inj {n : Nat} {l : List Int} (h : prtE n l = 0) {x y : Nat} (hx : x < l.length) (hy : y < l.length) (e : l.getD x 0 = l.getD y 0) : x = y := by
 have key : ∀ x y, x < y → y < l.length → l.getD x 0 ≠ l.getD y 0 := fun x y hxy hy e => by
  refine fresh_not (firstE_zero h y hy) ?_
  rw [← e]
  have e2 : l.getD x 0 = l[x]'(by omega) := by simp [List.getD, show x < l.length by omega]
  rw [e2]
  exact List.mem_take_iff_getElem.2 ⟨x, by omega, rfl⟩
 rcases Nat.lt_trichotomy x y with c | c | c
 ·exact absurd e (key x y c hy)
 ·exact c
 ·exact absurd e.symm (key y x c hx)
theorem jn_of {z : List Qi} {js : List (Int × Int)} (h : jdE z js = 0) : Jn (jps js) z.length js.length := by
 have hp := jd_prt h
 have hl := jfl_len js
 have hr : ∀ x, x < 2 * js.length → 1 ≤ (jfl js).getD x 0 ∧ (jfl js).getD x 0 ≤ z.length := fun x hx => prt_in hp _ (by
  rw [show (jfl js).getD x 0 = (jfl js)[x]'(by omega) by simp [List.getD, show x < (jfl js).length by omega]]; exact List.getElem_mem _)
 refine ⟨fun x hx => ?_, fun x y hx hy e => ?_⟩
 ·rw [jgq hx]; have := hr x hx; omega
 ·rw [jgq hx, jgq hy] at e
  have h1 := hr x hx; have h2 := hr y hy
  exact prt_inj hp (by omega) (by omega) (by omega)
def jnL (js : List (Int × Int)) : List Nat := (jfl js).map fun p => (p - 1).toNat
def jnF (z : List Qi) (js : List (Int × Int)) : List Nat := lfG (jnL js) z.length
def jslE (z : List Qi) (S : List (List Qi)) (js : List (Int × Int)) : Int := firstE (fun y => slvE (jnM S (jps js) (2 * js.length)) (jnB S (jps js) (2 * js.length) ((jnF z js).getD y 0)) (2 * js.length)) (jnF z js).length
def jnE (z : List Qi) (S : List (List Qi)) (js : List (Int × Int)) : Int :=
 if jdE z js ≠ 0 then jdE z js else if js.length = 0 then 0 else if 2 * js.length = z.length then 4 else if jslE z S js = 0 then 0 else 6
def jnZ0 (z : List Qi) (js : List (Int × Int)) : List Qi := subZ z (jnF z js)
def jnS0 (z : List Qi) (S : List (List Qi)) (js : List (Int × Int)) : List (List Qi) := tab (jnF z js).length fun x => tab (jnF z js).length fun y => jnX S (jps js) (2 * js.length) (qat (jnF z js) x) (qat (jnF z js) y)
def jnZ (z : List Qi) (S : List (List Qi)) (js : List (Int × Int)) : List Qi := okL (jnE z S js) (if js.length = 0 then z else jnZ0 z js)
def jnS (z : List Qi) (S : List (List Qi)) (js : List (Int × Int)) : List (List Qi) := okL (jnE z S js) (if js.length = 0 then S else jnS0 z S js)
theorem jnL_len (js : List (Int × Int)) : (jnL js).length = 2 * js.length := by rw [jnL, List.length_map, jfl_len]
theorem jnF_lt {z : List Qi} {js : List (Int × Int)} {y : Nat} (hy : y < (jnF z js).length) : (jnF z js).getD y 0 < z.length := lfG_lt (by
 rw [show (jnF z js).getD y 0 = (jnF z js)[y] by simp [List.getD, hy]]; exact List.getElem_mem hy)
end
section
open Go Go.RowKit
theorem slvX_len (M : List (List Qi)) (b : List Qi) (n : Nat) : (slvX M b n).length = n := bkS_len _ _ _
theorem slv_fit {M : List (List Qi)} {b : List Qi} {n L : Nat} (h : Shp M n n) (hM : FitM M L) (hb : FitL b L) (hL : 1 ≤ L) (hE : slvE M b n = 0) : FitL (slvX M b n) (xgr (grow L n) n) := slvX_fit h hM hb hL (by
 unfold slvE at hE
 by_cases e : 0 ≤ (slvU M b n).2.2
 ·rw [if_pos e] at hE; omega
 ·omega)
theorem xgr_monoL {G H : Nat} (h : G ≤ H) : ∀ j, xgr G j ≤ xgr H j
 | 0 => h
 | j + 1 => by
  have := xgr_monoL h j
  have h2 : j * (xgr G j + G + 2) ≤ j * (xgr H j + H + 2) := Nat.mul_le_mul_left _ (by omega)
  simp only [xgr]; omega
end
section
open Go Go.RowKit
def pl2 (q : Int × Int) : List Int := [q.1, q.2]
abbrev JT (q : Int × Int) : Ty := AggT [IntT .i64 q.1, IntT .i64 q.2]
abbrev JsT (js : List (Int × Int)) : Ty := SlT 2 (js.map JT)
theorem pl2_get {q : Int × Int} : ∀ {i : Nat}, i < 2 → ([IntT .i64 q.1, IntT .i64 q.2] : List Ty)[i]? = some (IntT .i64 ((pl2 q).getD i 0))
 | 0, _ => rfl
 | 1, _ => rfl
theorem pl2_take {q : Int × Int} : ∀ {i : Nat}, i < 2 → (pl2 q).take (i + 1) = (pl2 q).take i ++ [(pl2 q).getD i 0]
 | 0, _ => rfl
 | 1, _ => rfl
abbrev jpE (z : List Qi) (js : List (Int × Int)) (k i : Nat) : Int := freshE z.length ((pl2 (jat js k)).getD i 0) (jfl (js.take k) ++ (pl2 (jat js k)).take i)
theorem jst_a {z : List Qi} {js : List (Int × Int)} {k : Nat} : ∀ {i : Nat}, i < 2 → (∀ x, x < i → jpE z js k x = 0) → jpE z js k i ≠ 0 → jstE z js k = jpE z js k i
 | 0, _, _, h => by
  have e : jpE z js k 0 = freshE z.length (jat js k).1 (jfl (js.take k)) := by simp [jpE, pl2]
  rw [e] at h ⊢
  rw [jstE, if_pos h]
 | 1, _, h0, h => by
  have e0 : jpE z js k 0 = freshE z.length (jat js k).1 (jfl (js.take k)) := by simp [jpE, pl2]
  have e : jpE z js k 1 = freshE z.length (jat js k).2 (jfl (js.take k) ++ [(jat js k).1]) := by simp [jpE, pl2]
  have h1 := h0 0 (by omega)
  rw [e0] at h1
  rw [e] at h ⊢
  rw [jstE, if_neg (fun k => k h1), if_pos h]
theorem jst_b {z : List Qi} {js : List (Int × Int)} {k : Nat} (h : ∀ x, x < 2 → jpE z js k x = 0) : (1 ≤ (jat js k).1 ∧ (jat js k).1 ≤ z.length) ∧ (1 ≤ (jat js k).2 ∧ (jat js k).2 ≤ z.length) ∧
  jstE z js k = if gv z ((jat js k).1 - 1).toNat = gv z ((jat js k).2 - 1).toNat then 0 else 40 := by
 have e0 : jpE z js k 0 = freshE z.length (jat js k).1 (jfl (js.take k)) := by simp [jpE, pl2]
 have e : jpE z js k 1 = freshE z.length (jat js k).2 (jfl (js.take k) ++ [(jat js k).1]) := by simp [jpE, pl2]
 have h0 := h 0 (by omega)
 have h1 := h 1 (by omega)
 rw [e0] at h0
 rw [e] at h1
 exact ⟨fresh_ok h0, fresh_ok h1, by rw [jstE, if_neg (fun k => k h0), if_neg (fun k => k h1)]⟩
def jeE (z : List Qi) (js : List (Int × Int)) : Int := if jdE z js ≠ 0 then jdE z js else if 0 < 2 * js.length ∧ 2 * js.length = z.length then 4 else 0
def jeL (z : List Qi) (js : List (Int × Int)) : List Int := okL (jeE z js) (jfl js)
theorem je_bad {z : List Qi} {js : List (Int × Int)} (h : jdE z js ≠ 0) : jeE z js = jdE z js := if_pos h
theorem je_size {z : List Qi} {js : List (Int × Int)} (h : jdE z js = 0) (h2 : 0 < 2 * js.length ∧ 2 * js.length = z.length) : jeE z js = 4 := by rw [jeE, if_neg (fun k => k h), if_pos h2]
theorem je_ok {z : List Qi} {js : List (Int × Int)} (h : jdE z js = 0) (h2 : ¬ (0 < 2 * js.length ∧ 2 * js.length = z.length)) : jeE z js = 0 := by rw [jeE, if_neg (fun k => k h), if_neg h2]
theorem je_zero {z : List Qi} {js : List (Int × Int)} (h : jeE z js = 0) : jdE z js = 0 ∧ ¬ (0 < 2 * js.length ∧ 2 * js.length = z.length) := by
 unfold jeE at h
 by_cases c : jdE z js = 0
 ·refine ⟨c, fun h2 => ?_⟩
  rw [if_neg (fun k => k c), if_pos h2] at h
  omega
 ·rw [if_pos c] at h; exact absurd h c
theorem jn_je {z : List Qi} {S : List (List Qi)} {js : List (Int × Int)} (h : jeE z js ≠ 0) : jnE z S js = jeE z js := by
 unfold jnE jeE at *
 by_cases c : jdE z js ≠ 0
 ·rw [if_pos c, if_pos c]
 ·rw [if_neg c] at h
  rw [if_neg c, if_neg c]
  by_cases d : 0 < 2 * js.length ∧ 2 * js.length = z.length
  ·rw [if_neg (by omega), if_pos d.2, if_pos d]
  ·rw [if_neg d] at h; exact absurd rfl h
theorem jn_zero {z : List Qi} {S : List (List Qi)} {js : List (Int × Int)} (h : jeE z js = 0) (h2 : js.length = 0) : jnE z S js = 0 := by
 obtain ⟨h1, _⟩ := je_zero h
 rw [jnE, if_neg (fun k => k h1), if_pos h2]
theorem jn_sol {z : List Qi} {S : List (List Qi)} {js : List (Int × Int)} (h : jeE z js = 0) (h2 : js.length ≠ 0) : jnE z S js = if jslE z S js = 0 then 0 else 6 := by
 obtain ⟨h1, h3⟩ := je_zero h
 rw [jnE, if_neg (fun k => k h1), if_neg h2, if_neg (by omega)]
theorem pig : ∀ {n m : Nat} {f : Nat → Nat}, (∀ x, x < m → f x < n) → (∀ x y, x < m → y < m → f x = f y → x = y) → m ≤ n
 | 0, m, f, h, _ => by
  cases m with
  | zero => exact Nat.le_refl 0
  | succ m => exact absurd (h 0 (by omega)) (by omega)
 | n + 1, 0, _, _, _ => by omega
 | n + 1, k + 1, f, h, i => by
  have := pig (n := n) (m := k) (f := fun x => if f x = n then f k else f x) (fun x hx => by
   have h1 := h x (by omega)
   have h2 := h k (by omega)
   by_cases c : f x = n
   ·simp only [if_pos c]
    have : f k ≠ n := fun e => by have := i x k (by omega) (by omega) (by rw [c, e]); omega
    omega
   ·simp only [if_neg c]; omega) (fun x y hx hy e => by
   by_cases c : f x = n <;> by_cases d : f y = n
   ·exact i x y (by omega) (by omega) (by rw [c, d])
   ·simp only [if_pos c, if_neg d] at e
    have := i k y (by omega) (by omega) e; omega
   ·simp only [if_neg c, if_pos d] at e
    have := i x k (by omega) (by omega) e; omega
   ·simp only [if_neg c, if_neg d] at e
    exact i x y (by omega) (by omega) e)
  omega
theorem jn_le {z : List Qi} {js : List (Int × Int)} (h : jdE z js = 0) : 2 * js.length ≤ z.length := by
 have hj := jn_of h
 exact pig (f := gq (jps js)) hj.lt hj.inj
theorem jfl_ints {z : List Qi} {js : List (Int × Int)} (h : jdE z js = 0) : (jfl js).map (IntT .i64) = ((jnL js).map Nat.succ).map (NT .i64) := pos_ints (jd_prt h)
theorem jnL_at {js : List (Int × Int)} {x : Nat} (h : x < 2 * js.length) : (jnL js).getD x 0 = gq (jps js) x := by
 have hl := jfl_len js
 rw [jgq h, jnL]
 simp [List.getD, show x < (jfl js).length by omega]
theorem gnI_ints (G : List Nat) : (gnI G).map (IntT .i64) = (G.map Nat.succ).map (NT .i64) := by
 simp only [gnI, List.map_map]
 refine List.map_congr_left fun x _ => ?_
 simp [Function.comp, NT]
theorem dot_sum (x : Qi) (l m : List Qi) : ∀ k, dotF x l m k = x + sumN k fun y => gv l y * gv m y
 | 0 => by rw [dotF, sumN, show Qi.zero = (0 : Qi) from rfl]; grind
 | k + 1 => by rw [dotF, dot_sum x l m k, sumN]; grind
theorem dot_jn {S : List (List Qi)} {ps : List (Nat × Nat)} {m a b : Nat} : dotF (gm S a b) (tab m fun x => gm S a (gq ps x)) (slvX (jnM S ps m) (jnB S ps m b) m) m = jnX S ps m a b := by
 rw [dot_sum, jnX]
 congr 1
 exact sumN_congr fun y hy => by rw [gv_tab hy]
theorem jnM_fit {S : List (List Qi)} {ps : List (Nat × Nat)} {m L : Nat} (hf : FitM S L) (hL : 1 ≤ L) : FitM (jnM S ps m) (L + 2) := FitM.tab fun x y _ _ => by
 haveI h1 := hf.get hL (gq ps (prt x)) (gq ps y)
 haveI h2 : FitC (if x = y then Qi.ofInt 1 else Qi.ofInt 0) 1 := by
  split
  ·exact fit_one
  ·exact (FitC.zero (Nat.le_refl 1) : FitC Qi.zero 1)
 exact (fitSub : FitC (_ - _) (1 + L + 1)).le (by omega)
theorem jnB_fit {S : List (List Qi)} {ps : List (Nat × Nat)} {m b L : Nat} (hf : FitM S L) (hL : 1 ≤ L) : FitL (jnB S ps m b) L := FitL.tab fun x _ => hf.get hL _ _
theorem jnX_fit {S : List (List Qi)} {ps : List (Nat × Nat)} {m a b L G : Nat} (hf : FitM S L) (hL : 1 ≤ L) (hG : xgr (grow (L + 2) m) m ≤ G) (hE : slvE (jnM S ps m) (jnB S ps m b) m = 0) : FitC (jnX S ps m a b) (L + m * (2 * G + 2)) := by
 have h1 : L + 2 ≤ G := Nat.le_trans (Nat.le_trans (grow_le (L + 2) m) (xgr_ge _ _)) hG
 rw [← dot_jn]
 exact dotF_fit (hf.get hL a b) (FitL.tab fun x _ => (hf.get hL a (gq ps x)).le (by omega)) ((slv_fit (jnM_shp S ps m) (jnM_fit hf hL) ((jnB_fit hf hL).le (by omega)) (by omega) hE).le hG) (by omega) m
theorem jnS_fit {z : List Qi} {S : List (List Qi)} {js : List (Int × Int)} {L G : Nat} (hf : FitM S L) (hL : 1 ≤ L) (hG : jeE z js = 0 → xgr (grow (L + 2) (2 * js.length)) (2 * js.length) ≤ G) (hB : ∀ m, m = 2 * js.length → jeE z js = 0 → L + m * (2 * G + 2) ≤ 900000000000) : FitM (jnS z S js) 900000000000 := by
 by_cases h : jnE z S js = 0
 ·have hj : jeE z js = 0 := by
   by_cases c : jeE z js = 0
   ·exact c
   ·rw [jn_je c] at h; exact absurd h c
  by_cases h0 : js.length = 0
  ·rw [jnS, okL, if_pos h, if_pos h0]
   exact hf.le (Nat.le_trans (Nat.le_add_right _ _) (hB _ rfl hj))
  ·have hs := jn_sol (S := S) hj h0
   rw [h] at hs
   have he : jslE z S js = 0 := by
    by_cases c : jslE z S js = 0
    ·exact c
    ·rw [if_neg c] at hs; omega
   rw [jnS, okL, if_pos h, if_neg h0, jnS0]
   refine FitM.tab fun i j _ hj2 => (jnX_fit hf hL (hG hj) (firstE_zero he j hj2)).le (hB _ rfl hj)
 ·rw [jnS, okL, if_neg h]
  exact fun r hr => by cases hr
theorem jnZ_fit {z : List Qi} {S : List (List Qi)} {js : List (Int × Int)} {L M : Nat} (h : FitL z L) (hL : 1 ≤ L) (hM : L ≤ M) : FitL (jnZ z S js) M := by
 refine okL_fit ?_
 split
 ·exact h.le hM
 ·exact (subZ_fit h hL).le hM
theorem jn_shp {z : List Qi} {S : List (List Qi)} {js : List (Int × Int)} (hS : Shp S z.length z.length) : Shp (jnS z S js) (jnZ z S js).length (jnZ z S js).length ∧ (jnZ z S js).length ≤ z.length := by
 by_cases h : jnE z S js = 0
 ·by_cases h0 : js.length = 0
  ·rw [jnS, jnZ, okL, okL, if_pos h, if_pos h, if_pos h0, if_pos h0]; exact ⟨hS, Nat.le_refl _⟩
  ·rw [jnS, jnZ, okL, okL, if_pos h, if_pos h, if_neg h0, if_neg h0, jnZ0, subZ_len]; exact ⟨Shp.tab, lfG_len _ _⟩
 ·rw [jnS, jnZ, okL, okL, if_neg h, if_neg h]; exact ⟨⟨rfl, fun r hr => by cases hr⟩, Nat.zero_le _⟩
end
section
open Go Go.RowKit
section
variable {P : Program} {n : Nat} {E : Env} {H : Hp}
variable {d : Option Tmp} {t : TypeId} {pos : String} {af : Array Edge} {g : Option (Nat × Bool)}
theorem op_lendI {f : FuncId} {xs : List Operand} {tys : Array TypeId} {Ts : List Ty} {U T0 T1 : Ty} {A : SA} {j tt : Nat} (hc : ∀ args w, (callFunc f args).run P w = .ok (.enter f args) w) (hF : Fun P f Ts U)
  (hA : H[j]? = some A) (hl : look E tt = some T0) (hz : ∀ v S V, T0.p v V → A.h S V V → T1.p v V) (hU : ∀ v V V', U.p v V → U.p v V') (ha : Args ((tt, T1) :: E) xs Ts) :
  OpTy P n E H ⟨d, .call ⟨.value (.func f), xs.toArray, tys⟩, t, pos, af, g⟩ U := fun cx X a w V hi hs K Q hK => by
 have hrun : (execOp a.eval ⟨d, .call ⟨.value (.func f), xs.toArray, tys⟩, t, pos, af, g⟩).run P w = .ok (.enter f (xs.map a.eval).toArray) w := by
  simp [execOp, resolve, Act.eval, Deferred.ofValue, invoke, hc]
 simp only [Oper.wp, hrun, Oper.upon_enter]
 obtain ⟨F, h1, h2⟩ := hi.hp
 have hjl := (List.getElem?_eq_some_iff.1 hA).1
 obtain ⟨k1, k2⟩ := h1 j A (by rw [List.getElem?_append_left hjl]; exact hA)
 let V1 : View := fun b => if b ∈ F j then w.heap[b]? else V b
 have hle : VLe V V1 := fun b o hb => by
  have : b ∉ F j := fun hf => by have := (k2 b hf).1; rw [hb] at this; cases this
  simp only [V1, if_neg this]; exact hb
 have hon : ∀ b o, V1 b = some o → w.heap[b]? = some o := fun b o hb => by
  by_cases hf : b ∈ F j
  ·simp only [V1, if_pos hf] at hb; exact hb
  ·simp only [V1, if_neg hf] at hb; exact hi.on b o hb
 have hA1 : A.h (F j) V1 V1 := A.mono (A.loc k1 fun b hb => by simp only [V1, if_pos hb]; rfl) hle
 have hsl : Slots n ((tt, T1) :: E) V1 a := by
  have hs' := hs.mono hle
  refine ⟨hs'.1, hs'.2.1, fun t' T hT => ?_⟩
  rw [look_cons] at hT
  by_cases e : tt = t'
  ·subst e
   rw [if_pos rfl] at hT; obtain rfl := Option.some.inj hT
   obtain ⟨v, q1, q2⟩ := hs'.2.2 _ _ hl
   exact ⟨v, q1, hz v (F j) V1 q2 hA1⟩
  ·rw [if_neg e] at hT; exact hs'.2.2 t' T hT
 refine (hF _ V1 w hon (Args.all hsl ha)).mono ?_
 rintro e w' ⟨v, V', rfl, m1, m2, m3, m4, m5⟩
 exact hK v w' V (hi.after (VLe.refl V) (fun b o hb => m2 b o (m1 b o (hle b o hb))) (fun b o hb h0 => by rw [hb] at h0; cases h0) m4) (VLe.refl V) (hU v V' V m5)
theorem op_indexA {x i : Operand} {q : Nat} {Ts : List Ty} {T : Ty} {kd : IntKind} {e : TypeId} {len : Nat} (hU : ∀ w, (underlying t).run P w = .ok (.array len e) w) (hS : ∀ w, (sizeOf e).run P w = .ok 1 w) (hg : ∀ w, (isAgg e).run P w = .ok false w)
  (hx : Has E x (AggT Ts)) (hi : Has E i (NT kd q)) (hl : q < len) (hT : Ts[q]? = some T) {t' : TypeId} : OpTy P n E H ⟨d, .index t x i, t', pos, af, g⟩ T :=
 op_pure fun a V w hs => by
  obtain ⟨vs, e1, e4⟩ := hx n V a hs
  have ei : a.eval i = .int kd (q : Int) := hi n V a hs
  obtain ⟨u, e5, e6⟩ := e4.all.get hT
  exact ⟨u, by simp [execOp, e1, ei, Instr.index, asIntOf, Sem.run_bind, hU, hS, hg, part, Result.andThen, hl, e5], e6⟩
end
end
section
open Go Go.RowKit
theorem bld_120_0_1 {n : Nat} {E : Env} {H : Hp} {d : Option Tmp} {t : TypeId} {pos : String} {af : Array Edge} {g : Option (Nat × Bool)} {x0 x1 : Operand} {T0 T1 : Ty} [s0 : Shape T0 1 false] (h0 : Has E x0 T0) [s1 : Shape T1 1 false] (h1 : Has E x1 T1) :
  OpTy Tryz.prog n E H ⟨d, .build 120 #[(0, x0), (1, x1)], t, pos, af, g⟩ (AggT [T0, T1]) :=
 op_build (parts := [(0, x0), (1, x1)]) fun a V w hs => by
  have p0 := h0 n V a hs
  generalize e0 : a.eval x0 = v0 at p0
  have q0 := (s0.ok v0 V p0).2.2 rfl
  have p1 := h1 n V a hs
  generalize e1 : a.eval x1 = v1 at p1
  have q1 := (s1.ok v1 V p1).2.2 rfl
  refine ⟨.agg #[v0, v1], ?_, [v0, v1], rfl, aW (⟨p0, q0⟩) (aW (⟨p1, q1⟩) (aG))⟩
  simp [e0, e1, Instr.build, Instr.fill, Sem.run_bind, Result.andThen, cells_agg, q0.cells, q1.cells, O_120, U_120, Z_3]
end
section
open Go Go.RowKit
theorem c_joined {z : List Qi} {S : List (List Qi)} {js : List (Int × Int)} {L : Nat} (hfz : FitL z L) (hL : 1 ≤ L) (hLb : L ≤ 1000000) (hz : z.length ≤ 1000) (hj : js.length ≤ 100) : Fun Tryz.prog 173 [NetT z S, JsT js] (TupT [SlT 1 ((jeL z js).map (IntT .i64)), IntT .i64 (jeE z js)]) := by
 refine Fun.intro Tryz.func173 rfl Tryz.ntmps173 rfl (fun cx => (ts (rn rfl (fK (Ht rfl)) fun B2 => (ro rfl (cX cW) (ro rfl (cX (cV 0)) (eZ (ts (ro rfl (cX cW) (eZ (cU (cU (T_row 3 1 (dQ (rm rfl (ro rfl (dK U_59 (Ht rfl) len_map) (ro rfl (cZ (cV 0)) (eZ (eK ?_))))))))))))))))))
 refine T_loop2 (fun (k : Nat) (vG : Value) => k ≤ js.length ∧ ∀ j, j < k → jstE z js j = 0) (fun (k : Nat) (vG : Value) => js.length - k) (fun (k : Nat) (vG : Value) => [(1, JsT js), (2, PtrB B2 0), (6, Is vG), (12, JsT js), (13, NT .i64 js.length), (14, NT .i64 k)]) (fun (k : Nat) (vG : Value) => [box B2 30 [NumsT z, NumM S], rowO 3 1 vG ((jfl (js.take k)).map (IntT .i64))]) 0 _ ⟨Nat.zero_le _, fun j h => by omega⟩
  (aQ rfl (aQ rfl (aQ rfl (aQ rfl (aQ rfl (aQ rfl aX)))))) (aU (box_of rfl) (aU (rowO_of rfl) aY)) (fun k vG ⟨hk, h0⟩ => ?_)
 refine ts (ro rfl (gZ (Ht rfl) (Ht rfl)) (eZ (cU (dX (Ht rfl) (fun hd => ?_) (fun hd => ?_)))))
 ·have hkn : k < js.length := by simp only [decide_eq_true_eq] at hd; omega
  have hjk := jfl_len (js.take k)
  refine cY (cU (eK (ts (ro rfl (dJ U_59 Z_120 (Ht rfl) (Ht rfl) rfl (eQ (dY (d := (0, 0)) hkn))) (ro rfl (dV Tryz.isAgg120 Z_120 (Ht rfl)) (rn rfl (eG (Ts := [Is (.int .i64 0), Is (.int .i64 0)]) O_120 rfl (fun V => aW ⟨rfl, trivial⟩ (aW ⟨rfl, trivial⟩ (aG)))) fun B8 => (gX Z_120 (Ht rfl) (Ht rfl) rfl (i := 2) rfl (aK rfl) rfl rfl (eZ (cU (cU (gV (i := 2) (tt := 8) rfl rfl frz_ptr (dQ (ro rfl (dV Tryz.isAgg120 Z_120 (Ht rfl)) ?_)))))))))))))
  refine ro rfl (cZ (cV 0)) (eZ (eK (T_keep [0, 1] rfl (by decide) ?_)))
  refine T_loop2 (fun (i : Nat) (vI : Value) => i ≤ 2 ∧ ∀ x, x < i → jpE z js k x = 0) (fun (i : Nat) (vI : Value) => 2 - i) (fun (i : Nat) (vI : Value) => [(1, JsT js), (2, PtrB B2 0), (6, Is vI), (8, PT (JT (jat js k))), (12, JsT js), (13, NT .i64 js.length), (14, NT .i64 k), (18, JT (jat js k)), (19, NT .i64 i)]) (fun (i : Nat) (vI : Value) => [box B2 30 [NumsT z, NumM S], rowO 3 1 vI ((jfl (js.take k) ++ (pl2 (jat js k)).take i).map (IntT .i64))]) 0 _ ⟨Nat.zero_le _, fun x h => by omega⟩
   (aQ rfl (aQ rfl (aQ rfl (aQ rfl (aQ rfl (aQ rfl (aQ rfl (aQ rfl (aQ rfl aX))))))))) (aU (box_of rfl) (aU (rowO_of (by rw [List.take_zero, List.append_nil])) aY)) (fun i vI ⟨hi, h1⟩ => ?_)
  refine ts (ro rfl (gZ (Ht rfl) (cV 2)) (eZ (cU (dX (Ht rfl) (fun he => ?_) (fun he => ?_)))))
  ·have hi2 : i < 2 := by simp only [decide_eq_true_eq] at he; omega
   have hol : (jfl (js.take k) ++ (pl2 (jat js k)).take i).length ≤ 300 := by rw [List.length_append, hjk, List.length_take, List.length_take]; omega
   refine cY (cU (eK (ts (ro rfl (op_indexA U_120 Z_3 A_3 (Ht rfl) (Ht rfl) (by omega) (pl2_get hi2)) (ra rfl (eZ (cU (ts (ro rfl (eW A_30 Z_30 (Ht rfl) (i := 0) rfl rfl rfl) (rm rfl (rm rfl (ro rfl (op_lendI Tryz.call127 (c_fresh (z := z) (s := S) (q := (pl2 (jat js k)).getD i 0) (o := jfl (js.take k) ++ (pl2 (jat js k)).take i) hz (by omega)) (j := 1) (tt := 24) rfl rfl frz_row (fun _ _ _ h => h) ⟨(Ht rfl), (Ht rfl), (Ht rfl), trivial⟩) (ra rfl (eZ (ts (rm rfl (ro rfl (op_neq (Ht rfl) cW) (eZ (dX (Ht rfl) (fun hf => ?_) (fun hf => ?_))))))))))))))))))))
   ·have h3 : jpE z js k i ≠ 0 := by simp only [Bool.not_eq_true', decide_eq_false_iff_not] at hf; exact hf
    have h4 := jst_a hi2 h1 h3
    have h5 : jdE z js = jpE z js k i := (firstE_at h0 (by rw [h4]; exact h3) hkn).trans h4
    have h6 : jeE z js = jpE z js k i := (je_bad (by rw [h5]; exact h3)).trans h5
    refine ts (rm rfl (ro rfl (cX cW) (ra rfl (eZ (T_ret2 rfl (fZ (eY rfl) ?_) (fZ (eY rfl) ?_))))))
    ·exact (fun v V h => by rw [jeL, okL, h6, if_neg h3]; exact nil_slT v V h)
    ·exact (int_of h6.symm)
   ·have h3 : jpE z js k i = 0 := by simp only [Bool.not_eq_false', decide_eq_true_eq] at hf; exact hf
    refine cY (dQ (rm rfl (rm rfl (ro rfl (op_bslice (xs := [.tmp 30]) U_69 Z_3 O_3 (cG (Ht rfl) cK) rfl rfl rfl) (R_append (inf := Tryz.t3) und_69 info_3 rfl rfl rfl (Ht rfl) (Ht rfl) (i := 1) rfl (by simp) (fun T hT => by simp at hT; subst hT; exact El.one) (by show _ * 8 ≤ _; simp only [List.length_map, List.length_cons, List.length_nil]; omega) (by simp only [List.length_map, List.length_cons, List.length_nil]; omega) rfl (fun v2 => ?_))))))
    refine ra rfl (eZ (T_blk (dQ (ro rfl (dW (Ht rfl) (cV 1) (by show _ < 9223372036854775808; first | omega | (simp only [lim]; omega))) (rm rfl (eZ ?_))))))
    refine fY (i + 1, v2) ⟨hi2, fun x hx => by
      by_cases e : x = i
      ·rw [e]; exact h3
      ·exact h1 x (by omega)⟩ (by dsimp only; omega) (aQ rfl (aQ rfl (aQ rfl (aQ rfl (aQ rfl (aQ rfl (aQ rfl (aQ rfl (aQ rfl aX))))))))) (aU (box_of rfl) (aU (rowO_of (by rw [pl2_take hi2, ← List.append_assoc, List.map_append (l₁ := jfl (js.take k) ++ (pl2 (jat js k)).take i)]; rfl)) aY))
  ·obtain rfl : i = 2 := by simp only [decide_eq_false_iff_not] at he; omega
   obtain ⟨⟨p1, p2⟩, ⟨p3, p4⟩, h3⟩ := jst_b h1
   have hrow : jfl (js.take (k + 1)) = jfl (js.take k) ++ (pl2 (jat js k)).take 2 := jfl_take hkn
   haveI g1 := hfz.get hL ((jat js k).1 - 1).toNat
   haveI g2 := hfz.get hL ((jat js k).2 - 1).toNat
   refine gW rfl (cU (fJ (m := 14) (dp 2 rfl (eJ fa_30_0 (Ht rfl) rfl) (dq 34 0 rfl (fQ A_27 Z_27 (Ht rfl) (i := 0) rfl rfl) (dp 8 rfl (op_idxA U_120 Z_3 (Ht rfl) cW rfl (by decide) rfl) (dq 36 2 rfl (dV A_3 Z_3 (Ht rfl)) (dq 37 3 rfl (op_sub (Ht rfl) cW (r := ((((jat js k).1 - 1).toNat : Nat) : Int)) ((w64 (z := (jat js k).1 - 1) (by omega)).trans (by omega))) ?_)))))))
   refine dqq 35 1 38 4 rfl (dJ U_27 Z_45 (Ht rfl) (Ht rfl) rfl (eQ (dY (d := Qi.zero) (by omega)))) (dq 39 5 rfl (dV A_45 Z_45 (Ht rfl)) (dp 2 rfl (eJ fa_30_0 (Ht rfl) rfl) (dq 41 7 rfl (fQ A_27 Z_27 (Ht rfl) (i := 0) rfl rfl) (dp 8 rfl (op_idxA U_120 Z_3 (Ht rfl) cW rfl (by decide) rfl) (dq 43 9 rfl (dV A_3 Z_3 (Ht rfl)) (dq 44 10 rfl (op_sub (Ht rfl) cW (r := ((((jat js k).2 - 1).toNat : Nat) : Int)) ((w64 (z := (jat js k).2 - 1) (by omega)).trans (by omega))) ?_))))))
   refine dqq 42 8 45 11 rfl (dJ U_27 Z_45 (Ht rfl) (Ht rfl) rfl (eQ (dY (d := Qi.zero) (by omega)))) (dq 46 12 rfl (dV A_45 Z_45 (Ht rfl)) (fW mixed rfl (by kernel_rfl) (aJ (aJ (aJ (aJ (aJ (aJ (aJ (aJ (aJ (aJ (aJ (aJ (aJ (aJ (aV (ro rfl (cJ Tryz.call109 (c_Same (x := gv z ((jat js k).1 - 1).toNat) (y := gv z ((jat js k).2 - 1).toNat) (L := L) (M := L) (by omega) (by omega)) ⟨(Ht rfl), (Ht rfl), trivial⟩) (ro rfl (op_not (Ht rfl)) ?_)))))))))))))))))))
   refine eZ (dX (Ht rfl) (fun hg => ?_) (fun hg => ?_))
   ·have h4 : jstE z js k = 40 := by rw [h3, if_neg (by simpa using hg)]
    have h5 : jdE z js = 40 := (firstE_at h0 (by rw [h4]; decide) hkn).trans h4
    have h6 : jeE z js = 40 := (je_bad (by rw [h5]; decide)).trans h5
    refine ts (ro rfl (cX cW) (ro rfl (cX (cV 40)) (eZ (T_ret2 rfl (fZ (eY rfl) ?_) (fZ (eY rfl) ?_)))))
    ·exact (fun v V h => by rw [jeL, okL, h6]; exact nil_slT v V h)
    ·exact (int_of h6.symm)
   ·have h4 : jstE z js k = 0 := by rw [h3, if_pos (by simpa using hg)]
    refine cY (T_blk (dQ (ro rfl (dW (Ht rfl) (cV 1) (by show _ < 9223372036854775808; first | omega | (simp only [lim]; omega))) (rm rfl (eZ ?_)))))
    refine fY (k + 1, vI) ⟨hkn, fun j h => by
      by_cases e : j = k
      ·rw [e]; exact h4
      ·exact h0 j (by omega)⟩ (by dsimp only; omega) (aQ rfl (aQ rfl (aQ rfl (aQ rfl (aQ rfl (aQ rfl aX)))))) (aU (box_of rfl) (aU (rowO_of (by rw [hrow])) aY))
 ·obtain rfl : k = js.length := by simp only [decide_eq_false_iff_not] at hd; omega
  have h2 : jdE z js = 0 := firstE_none h0
  have hll := jfl_len js
  rw [List.take_length]
  refine gW rfl (cU (ts (rm rfl (ro rfl (op_lenO U_69 (Ht rfl) (i := 1) rfl len_map) (ro rfl (op_gtrN (Ht rfl) (cV 0)) (rm rfl (fX rfl rfl (eU rfl rfl (Ht rfl) (fun h => cZ (Ht rfl))) (fX rfl rfl (eU rfl rfl (Ht rfl) (fun h => op_lenO U_69 (fV rfl h) (i := 1) rfl len_map)) (fX rfl rfl (eU rfl rfl (Ht rfl) (fun h => eJ fa_30_0 (Ht rfl) rfl)) (fX rfl rfl (eU rfl rfl (Ht rfl) (fun h => fQ A_27 Z_27 (fV rfl h) (i := 0) rfl rfl)) (fX rfl rfl (eU rfl rfl (Ht rfl) (fun h => dK U_27 (fV rfl h) len_map)) ?_)))))))))))
  refine fX rfl rfl (eU rfl rfl (Ht rfl) (fun h => op_eqlN (fV rfl h) (fV rfl h))) (ro rfl (op_and (Ht rfl) (fun h => (fV rfl h))) (eZ (dX (Ht rfl) (fun hc => ?_) (fun hc => ?_))))
  ·have h3 : 0 < 2 * js.length ∧ 2 * js.length = z.length := by simpa [hll] using hc
   have h6 : jeE z js = 4 := je_size h2 h3
   refine ts (ro rfl (cX cW) (ro rfl (cX (cV 4)) (eZ (T_ret2 rfl (fZ (eY rfl) ?_) (fZ (eY rfl) ?_)))))
   ·exact (fun v V h => by rw [jeL, okL, h6]; exact nil_slT v V h)
   ·exact (int_of h6.symm)
  ·have h3 : ¬ (0 < 2 * js.length ∧ 2 * js.length = z.length) := by simpa [hll] using hc
   have h6 : jeE z js = 0 := je_ok h2 h3
   refine gV (i := 1) (tt := 6) rfl rfl frz_row (cY (ts (rm rfl (ra rfl (ro rfl (cX (cV 0)) (eZ (T_ret2 rfl (fZ (eY rfl) ?_) (fZ (eY rfl) ?_))))))))
   ·exact (slT_of (by rw [jeL, okL, h6]; rfl))
   ·exact (int_of h6.symm)
end
section
open Go Go.RowKit
theorem xor1 {x : Nat} (h : x < 20) : IntKind.wrap .i64 ((BitVec.ofInt (IntKind.bits .i64) (x : Int) ^^^ BitVec.ofInt (IntKind.bits .i64) ((1 : Nat) : Int)).toNat : Nat) = ((prt x : Nat) : Int) :=
 (by decide +kernel : ∀ x : Nat, x < 20 → IntKind.wrap .i64 ((BitVec.ofInt (IntKind.bits .i64) (x : Int) ^^^ BitVec.ofInt (IntKind.bits .i64) ((1 : Nat) : Int)).toNat : Nat) = ((prt x : Nat) : Int)) x h
theorem c_join1 {z : List Qi} {S : List (List Qi)} {js : List (Int × Int)} {x : Nat} (hS : Shp S z.length z.length) (hd : jdE z js = 0) (hx : x < 2 * js.length) (hm : 2 * js.length ≤ 18) (hz : z.length ≤ 1000) : Fun Tryz.prog 174 [NT .i64 x, PT (NetT z S), PT (IntsT ((jnL js).map Nat.succ))] (NumsT (S.getD (gq (jps js) (prt x)) [])) := by
 have hpx : prt x < 2 * js.length := prt_lt hx
 have hgq := (jn_of hd).lt (prt x) hpx
 have hSl := hS.1
 have hJl := jnL_len js
 have hat : qat (jnL js) (prt x) = gq (jps js) (prt x) := jnL_at hpx
 refine Fun.intro Tryz.func174 rfl Tryz.ntmps174 rfl (fun cx => (ts (ro rfl (cX cW) (eZ (cU (fJ (m := 8) (dp 1 rfl (op_fld1 fa_30_1 (Ht rfl) rfl) (dq 5 0 rfl (dV A_28 Z_28 (Ht rfl)) (dp 2 rfl (dV A_69 Z_69 (Ht rfl)) (dp 0 rfl (cZ (Ht rfl)) (dq 8 3 rfl (op_ixor (Ht rfl) (cV 1) (xor1 (by omega))) (dqq 7 2 9 4 rfl (dJ U_69 Z_3 (Ht rfl) (Ht rfl) rfl (eQ (suc_get (by omega)))) (dq 10 5 rfl (dV A_3 Z_3 (Ht rfl)) (dq 11 6 rfl (OpTy.nat (dG (Ht rfl) (cV 1) (by omega) (by show _ < 9223372036854775808; first | omega | (simp only [lim]; omega))) (show qat (jnL js) (prt x) + 1 - 1 = gq (jps js) (prt x) by omega)) ?_))))))))))))))
 refine fW mixed rfl (by kernel_rfl) (aJ (aJ (aJ (aJ (aJ (aJ (aJ (aJ (aV (ro rfl (dJ U_28 Z_27 (Ht rfl) (Ht rfl) rfl (eQ (dY (d := []) (by omega)))) (ro rfl (dV A_27 Z_27 (Ht rfl)) (ra rfl (eZ ?_)))))))))))))
 exact fG rfl (eY rfl)
theorem c_unit {x y : Nat} : Fun Tryz.prog 176 [NT .i64 x, NT .i64 y] (NumT (if x = y then Qi.ofInt 1 else Qi.ofInt 0)) := by
 refine Fun.intro Tryz.func176 rfl Tryz.ntmps176 rfl (fun cx => (ts (rn rfl (eG (Ts := [Is (.bool false), Is (.slice none 0 0), Is (.bool false), Is (.slice none 0 0), Is (.slice none 0 0)]) O_45 rfl (fun V => aW ⟨rfl, trivial⟩ (aW ⟨rfl, trivial⟩ (aW ⟨rfl, trivial⟩ (aW ⟨rfl, trivial⟩ (aW ⟨rfl, trivial⟩ (aG))))))) fun B4 => (eZ (cU (ts (rm rfl (rm rfl (ro rfl (op_eqlN (Ht rfl) (Ht rfl)) (eZ (dX (Ht rfl) (fun hb => ?_) (fun hb => ?_))))))))))))
 ·have h2 : x = y := by simpa using hb
  refine ts (ro rfl (cJ Tryz.call121 (c_whole (n := 1) (by decide) (by decide)) ⟨(cV 1), trivial⟩) (gX Z_45 (Ht rfl) (Ht rfl) rfl (i := 0) rfl (aK rfl) rfl rfl (eZ (fG rfl (fZ (fU A_45 Z_45 rfl (i := 0) rfl rfl) ?_)))))
  exact (num_of (if_pos h2).symm)
 ·have h2 : ¬ x = y := by simpa using hb
  refine cY (ts (ro rfl (cJ Tryz.call121 (c_whole (n := 0) (by decide) (by decide)) ⟨(cV 0), trivial⟩) (gX Z_45 (Ht rfl) (Ht rfl) rfl (i := 0) rfl (aK rfl) rfl rfl (eZ (fG rfl (fZ (fU A_45 Z_45 rfl (i := 0) rfl rfl) ?_))))))
  exact (num_of (if_neg h2).symm)
theorem c_join2 {z : List Qi} {S : List (List Qi)} {js : List (Int × Int)} {x y L : Nat} (hS : Shp S z.length z.length) (hf : FitM S L) (hL : 1 ≤ L) (hLb : L ≤ 1000) (hd : jdE z js = 0) (hx : x < 2 * js.length) (hy : y < 2 * js.length) (hm : 2 * js.length ≤ 18) (hz : z.length ≤ 1000) : Fun Tryz.prog 175 [NT .i64 x, NT .i64 y, PT (ClT Tryz.prog (Fin (2 * js.length)) (fun x => [NT .i64 x.1]) (fun x => NumsT (S.getD (gq (jps js) (prt x.1)) []))), PT (IntsT ((jnL js).map Nat.succ))] (NumT ((if x = y then Qi.ofInt 1 else Qi.ofInt 0) - gm S (gq (jps js) (prt x)) (gq (jps js) y))) := by
 have hpx : prt x < 2 * js.length := prt_lt hx
 have hgx := (jn_of hd).lt (prt x) hpx
 have hgy := (jn_of hd).lt y hy
 have hSl := hS.1
 have hSr := hS.row hgx
 have hJl := jnL_len js
 have hat : qat (jnL js) y = gq (jps js) y := jnL_at hy
 haveI g1 : FitC (gm S (gq (jps js) (prt x)) (gq (jps js) y)) L := hf.get hL _ _
 haveI g2 : FitC (if x = y then Qi.ofInt 1 else Qi.ofInt 0) 1 := by
  split
  ·exact fit_one
  ·exact (FitC.zero (Nat.le_refl 1) : FitC Qi.zero 1)
 refine Fun.intro Tryz.func175 rfl Tryz.ntmps175 rfl (fun cx => (ts (rn rfl (eG (Ts := [Is (.bool false), Is (.slice none 0 0), Is (.bool false), Is (.slice none 0 0), Is (.slice none 0 0)]) O_45 rfl (fun V => aW ⟨rfl, trivial⟩ (aW ⟨rfl, trivial⟩ (aW ⟨rfl, trivial⟩ (aW ⟨rfl, trivial⟩ (aW ⟨rfl, trivial⟩ (aG))))))) fun B6 => (eZ (cU (fJ (m := 14) (dp 0 rfl (cZ (Ht rfl)) (dp 1 rfl (cZ (Ht rfl)) (dqq 7 0 8 1 rfl (cJ Tryz.call176 (c_unit (x := x) (y := y)) ⟨(Ht rfl), (Ht rfl), trivial⟩) (dq 9 2 rfl (op_iface mkif_45 (Ht rfl)) ?_))))))))))
 refine dp 2 rfl (dV Tryz.isAgg214 Tryz.sizeOf214 (Ht rfl)) (dp 0 rfl (cZ (Ht rfl)) (dqq 11 4 12 5 rfl (op_callV (Ts := fun x : Fin (2 * js.length) => [NT .i64 x.1]) ⟨x, hx⟩ (Ht rfl) ⟨(Ht rfl), trivial⟩) (dp 3 rfl (dV A_69 Z_69 (Ht rfl)) (dp 1 rfl (cZ (Ht rfl)) (dqq 14 7 15 8 rfl (dJ U_69 Z_3 (Ht rfl) (Ht rfl) rfl (eQ (suc_get (by omega)))) (dq 16 9 rfl (dV A_3 Z_3 (Ht rfl)) (dq 17 10 rfl (OpTy.nat (dG (Ht rfl) (cV 1) (by omega) (by show _ < 9223372036854775808; first | omega | (simp only [lim]; omega))) (show qat (jnL js) y + 1 - 1 = gq (jps js) y by omega)) ?_)))))))
 refine dqq 13 6 18 11 rfl (dJ U_27 Z_45 (Ht rfl) (Ht rfl) rfl (eQ (dY (d := Qi.zero) (show gq (jps js) y < (S.getD (gq (jps js) (prt x)) []).length by omega)))) (dq 19 12 rfl (dV A_45 Z_45 (Ht rfl)) (fW mixed rfl (by kernel_rfl) (aJ (aJ (aJ (aJ (aJ (aJ (aJ (aJ (aJ (aJ (aJ (aJ (aJ (aJ (aV (ro rfl (op_invoke meth_45_Sub Tryz.call66 (c_Sub (x := if x = y then Qi.ofInt 1 else Qi.ofInt 0) (y := gm S (gq (jps js) (prt x)) (gq (jps js) y)) (L := 1) (M := L) (by omega)) (Ht rfl) ⟨(Ht rfl), trivial⟩) ?_))))))))))))))))))
 refine gX Z_45 (Ht rfl) (Ht rfl) rfl (i := 0) rfl (aK rfl) rfl rfl (eZ ?_)
 exact fG rfl (fU A_45 Z_45 rfl (i := 0) rfl rfl)
theorem c_Join {z : List Qi} {S : List (List Qi)} {js : List (Int × Int)} {L : Nat} (hS : Shp S z.length z.length) (hf : FitM S L) (hfz : FitL z L) (hL : 1 ≤ L) (hLb : L ≤ 1000) (hz : z.length ≤ 18) (hj : js.length ≤ 100) (hg : ∀ k, 2 * k < z.length → 6 * grow (L + 2) (2 * k) + 4 ≤ 17592186044415) (hx : ∀ k, 2 * k < z.length → xgr (grow (L + 2) (2 * k)) (2 * k + 1) ≤ 100000000000) : Fun Tryz.prog 70 [NetT z S, JsT js] (TupT [NetT (jnZ z S js) (jnS z S js), IntT .i64 (jnE z S js)]) := by
 have hll := jfl_len js
 have hJl := jnL_len js
 have hSl := hS.1
 refine Fun.intro Tryz.func70 rfl Tryz.ntmps70 rfl (fun cx => (ts (rn rfl (fK (Ht rfl)) fun B2 => (rn rfl (eG (Ts := [Is (.slice none 0 0), Is (.slice none 0 0)]) O_30 rfl (fun V => aW ⟨rfl, trivial⟩ (aW ⟨rfl, trivial⟩ (aG)))) fun B4 => (ro rfl (cX (cV 0)) (eZ (ts (ro rfl (eW A_30 Z_30 (Ht rfl) (i := 0) rfl rfl rfl) (rm rfl (ro rfl (cJ Tryz.call173 (c_joined (z := z) (S := S) (js := js) (L := L) hfz hL (by omega) (by omega) hj) ⟨(Ht rfl), (Ht rfl), trivial⟩) (rm rfl (ro rfl (dU (Ht rfl) rfl) ?_))))))))))))
 refine ro rfl (dU (Ht rfl) rfl) (rn rfl (eG (Ts := [Is (.slice none 0 0)]) Tryz.zeroValue69 rfl (fun V => aW ⟨rfl, trivial⟩ (aG))) fun B6 => (R_st Z_69 (Ht rfl) (Ht rfl) (i := 2) rfl (aK rfl) rfl (ra rfl (eZ (cU (ts (rm rfl (ro rfl (op_neq (Ht rfl) cW) (eZ (dX (Ht rfl) (fun hc => ?_) (fun hc => ?_)))))))))))
 ·have h3 : jeE z js ≠ 0 := by simpa using hc
  have he : jnE z S js = jeE z js := jn_je h3
  refine ts (ro rfl (OpTy.imp (bld_30_ ) net_nil) (rm rfl (gX Z_30 (Ht rfl) (Ht rfl) rfl (i := 1) rfl (aK rfl) rfl rfl (ra rfl (eZ (T_ret2 rfl (fZ (fU A_30 Z_30 rfl (i := 1) rfl rfl) ?_) (fZ (eY rfl) ?_)))))))
  ·exact (fun v V h => by rw [jnZ, jnS, okL, okL, he, if_neg h3, if_neg h3]; exact h)
  ·exact (int_of he.symm)
 ·have h3 : jeE z js = 0 := by simpa using hc
  obtain ⟨hd, hne⟩ := je_zero h3
  have hok : jeL z js = jfl js := by rw [jeL, okL, if_pos h3]
  rw [hok]
  refine cY (cU (ts (ro rfl (fQ A_69 Z_69 (Ht rfl) (i := 2) rfl rfl) (ro rfl (dK U_69 (Ht rfl) (by rw [List.length_map, hll])) ?_))))
  refine ro rfl (op_eqlN (Ht rfl) (cV 0)) (eZ (dX (Ht rfl) (fun hc2 => ?_) (fun hc2 => ?_)))
  ·have h4 : js.length = 0 := by simp only [decide_eq_true_eq] at hc2; omega
   have he : jnE z S js = 0 := jn_zero h3 h4
   refine ts (ro rfl (eW A_30 Z_30 (Ht rfl) (i := 0) rfl rfl rfl) (gX Z_30 (Ht rfl) (Ht rfl) rfl (i := 1) rfl (aK rfl) rfl rfl (ro rfl (cX (cV 0)) (eZ (T_ret2 rfl (fZ (fU A_30 Z_30 rfl (i := 1) rfl rfl) ?_) (fZ (eY rfl) ?_))))))
   ·exact (fun v V h => by rw [jnZ, jnS, okL, okL, he, if_pos h4, if_pos h4]; exact h)
   ·exact (int_of he.symm)
  ·have h4 : js.length ≠ 0 := by simp only [decide_eq_false_iff_not] at hc2; omega
   have hj := jn_of hd
   have hjl := jn_le hd
   have hm1 : 2 * js.length < z.length := by omega
   obtain ⟨m, hm⟩ : ∃ m, m = 2 * js.length := ⟨_, rfl⟩
   have hg2 := hg js.length hm1
   have hx2 := hx js.length hm1
   have hxn := Nat.le_trans (xgr_step (grow (L + 2) (2 * js.length)) (2 * js.length)) hx2
   have hlf := c_leftG (z := z) (s := S) (G := jnL js) (by omega) (by omega)
   rw [gnI_ints] at hlf
   have hfl : (jnF z js).length ≤ z.length := lfG_len _ _
   have hfx : ∀ x, x ∈ jnF z js → x < z.length := fun x h => lfG_lt h
   rw [jfl_ints hd]
   refine cY (cU (gV (i := 0) (tt := 2) rfl rfl frz_ptr (gV (i := 2) (tt := 6) rfl rfl frz_ptr1 (dQ (ro rfl (op_clos (γ := Fin (2 * js.length)) (Ts := fun x => [NT .i64 x.1]) (U := fun x => NumsT (S.getD (gq (jps js) (prt x.1)) [])) Tryz.call174 (fun x => c_join1 hS hd x.2 (by omega) (by omega)) ⟨(Ht rfl), (Ht rfl), trivial⟩) (rn rfl (eG (Ts := [Is (.nilFunc)]) Tryz.zeroValue214 rfl (fun V => aW ⟨rfl, trivial⟩ (aG))) fun B8 => (R_st Tryz.sizeOf214 (Ht rfl) (Ht rfl) (i := 3) rfl (aK rfl) rfl (eZ (cU (gV (i := 3) (tt := 8) rfl rfl frz_ptr1 ?_))))))))))
   refine dQ (ro rfl (dV A_69 Z_69 (Ht rfl)) (ro rfl (dK U_69 (Ht rfl) (by rw [List.length_map, List.length_map, hJl])) ?_))
   refine ro rfl (op_clos (γ := Fin (2 * js.length) × Fin (2 * js.length)) (Ts := fun x => [NT .i64 x.1.1, NT .i64 x.2.1]) (U := fun x => NumT ((if x.1.1 = x.2.1 then Qi.ofInt 1 else Qi.ofInt 0) - gm S (gq (jps js) (prt x.1.1)) (gq (jps js) x.2.1))) Tryz.call175 (fun x => c_join2 hS hf hL hLb hd x.1.2 x.2.2 (by omega) (by omega)) ⟨(Ht rfl), (Ht rfl), trivial⟩) (ro rfl (cJ Tryz.call119 (c_fill (n := 2 * js.length) (f := fun x y => (if x = y then Qi.ofInt 1 else Qi.ofInt 0) - gm S (gq (jps js) (prt x)) (gq (jps js) y)) (by omega)) ⟨(Ht rfl), (Ht rfl), trivial⟩) (ra rfl (eZ (ts (ro rfl (dV A_30 Z_30 (Ht rfl)) ?_)))))
   refine ro rfl (dV A_69 Z_69 (Ht rfl)) (ro rfl (cJ Tryz.call112 hlf ⟨(Ht rfl), (Ht rfl), trivial⟩) (ra rfl (eZ (ts (ro rfl (dV A_30 Z_30 (Ht rfl)) (rm rfl (R_call0 Tryz.call111 (c_partG (Q := jnF z js) (m := (jnF z js).length) hS hfx rfl (by omega) (by omega)) ⟨(Ht rfl), (Ht rfl), trivial⟩ rfl (fun B47 _ => (rn rfl (eG (Ts := [Is (.slice none 0 0), Is (.slice none 0 0)]) O_30 rfl (fun V => aW ⟨rfl, trivial⟩ (aW ⟨rfl, trivial⟩ (aG)))) fun B11 => (gX Z_30 (Ht rfl) (Ht rfl) rfl (i := 5) rfl (aK rfl) rfl rfl ?_))))))))))
   refine eZ (cU (ts (rm rfl (ro rfl (dK U_69 (Ht rfl) (by rw [List.length_map, List.length_map])) ?_))))
   refine ro rfl (cZ (cV 0)) (eZ (eK (T_keep [1, 4, 5] rfl (by decide) ?_)))
   refine T_loop (fun (j : Nat) => j ≤ (jnF z js).length ∧ ∀ y, y < j → slvE (jnM S (jps js) (2 * js.length)) (jnB S (jps js) (2 * js.length) ((jnF z js).getD y 0)) (2 * js.length) = 0) (fun (j : Nat) => (jnF z js).length - j) (fun (j : Nat) => [(2, PT (NetT z S)), (4, PtrB B4 0), (6, PT (IntsT ((jnL js).map Nat.succ))), (8, PT (ClT Tryz.prog (Fin (2 * js.length)) (fun x => [NT .i64 x.1]) (fun x => NumsT (S.getD (gq (jps js) (prt x.1)) [])))), (9, NumM (jnM S (jps js) (2 * js.length))), (10, IntsT ((jnF z js).map Nat.succ)), (11, PtrB B11 0), (48, IntsT ((jnF z js).map Nat.succ)), (49, NT .i64 ((jnF z js).length)), (50, NT .i64 j)]) (fun (j : Nat) => [box B4 30 [Is (.slice none 0 0), Is (.slice none 0 0)], matO B47 27 45 5 (FRow NumT (tab ((jnF z js).length) fun i => (mixG (fun y => jnX S (jps js) (2 * js.length) (qat (jnF z js) i) (qat (jnF z js) y)) (fun y => gm S (qat (jnF z js) i) (qat (jnF z js) y)) (jnF z js).length j))), box B11 30 [NumsT (subZ z (jnF z js)), Is (.slice (some ⟨B47, 0, none⟩) ((jnF z js).length) ((jnF z js).length))]]) 0 ⟨Nat.zero_le _, fun y h => by omega⟩
    (aQ rfl (aQ rfl (aQ rfl (aQ rfl (aQ rfl (aQ rfl (aQ rfl (aQ rfl (aQ rfl (aQ rfl aX)))))))))) (aU (box_of rfl) (aU (matO_of (congrArg (FRow NumT) (tab_congr fun i _ => mixG_zero _ _ _))) (aU (box_of rfl) aY))) (fun j ⟨hjq, h0⟩ => ?_)
   refine ts (ro rfl (gZ (Ht rfl) (Ht rfl)) (eZ (cU (dX (Ht rfl) (fun hd1 => ?_) (fun hd1 => ?_)))))
   ·have hjn : j < (jnF z js).length := by simp only [decide_eq_true_eq] at hd1; omega
    have hFj : qat (jnF z js) j < z.length := jnF_lt hjn
    have hbf : FitL (jnB S (jps js) (2 * js.length) ((jnF z js).getD j 0)) L := jnB_fit hf hL
    refine cY (cU (eK (ts (rm rfl (ro rfl (dJ U_69 Z_3 (Ht rfl) (Ht rfl) rfl (eQ (suc_get hjn))) (ro rfl (dV A_3 Z_3 (Ht rfl)) (ra rfl (ra rfl (eZ (ts (ro rfl (dV A_69 Z_69 (Ht rfl)) (ro rfl (dK U_69 (Ht rfl) (by rw [List.length_map, List.length_map, hJl])) ?_))))))))))))
    refine rn rfl (new_makeO (T := NumT Qi.zero) (i := Tryz.t45) und_27 info_45 rfl rfl (Ht rfl) rfl num_zero_p (El.ag rfl) (by show 88 * _ ≤ _; omega) (by omega)) fun B57 => ra rfl (eZ (cU (ts (rm rfl (ro rfl (op_lenO U_27 (Ht rfl) (i := 3) rfl (show ((List.replicate (2 * js.length) (NumT Qi.zero)).length : Int) = ((2 * js.length : Nat) : Int) from by simp)) (ro rfl (cZ (cV 0)) (eZ (eK ?_))))))))
    refine T_loop (fun (x : Nat) => x ≤ 2 * js.length) (fun (x : Nat) => 2 * js.length - x) (fun (x : Nat) => [(2, PT (NetT z S)), (4, PtrB B4 0), (6, PT (IntsT ((jnL js).map Nat.succ))), (8, PT (ClT Tryz.prog (Fin (2 * js.length)) (fun x => [NT .i64 x.1]) (fun x => NumsT (S.getD (gq (jps js) (prt x.1)) [])))), (9, NumM (jnM S (jps js) (2 * js.length))), (10, IntsT ((jnF z js).map Nat.succ)), (11, PtrB B11 0), (12, NT .i64 j), (13, NT .i64 (qat (jnF z js) j + 1)), (14, Is B57), (48, IntsT ((jnF z js).map Nat.succ)), (49, NT .i64 ((jnF z js).length)), (50, NT .i64 j), (59, NT .i64 (2 * js.length)), (60, NT .i64 x)]) (fun (x : Nat) => [box B4 30 [Is (.slice none 0 0), Is (.slice none 0 0)], matO B47 27 45 5 (FRow NumT (tab ((jnF z js).length) fun i => (mixG (fun y => jnX S (jps js) (2 * js.length) (qat (jnF z js) i) (qat (jnF z js) y)) (fun y => gm S (qat (jnF z js) i) (qat (jnF z js) y)) (jnF z js).length j))), box B11 30 [NumsT (subZ z (jnF z js)), Is (.slice (some ⟨B47, 0, none⟩) ((jnF z js).length) ((jnF z js).length))], rowO 45 5 B57 ((mixT (fun x => gm S (gq (jps js) (prt x)) (qat (jnF z js) j)) Qi.zero (2 * js.length) x).map NumT)]) 0 (Nat.zero_le _)
     (aQ rfl (aQ rfl (aQ rfl (aQ rfl (aQ rfl (aQ rfl (aQ rfl (aQ rfl (aQ rfl (aQ rfl (aQ rfl (aQ rfl (aQ rfl (aQ rfl (aQ rfl aX))))))))))))))) (aU (box_of rfl) (aU (fun _ _ _ h => h) (aU (box_of rfl) (aU (rowO_of (by rw [← mix_zero]; exact tab_rep NumT _)) aY)))) (fun x hx1 => ?_)
    refine ts (ro rfl (gZ (Ht rfl) (Ht rfl)) (eZ (cU (dX (Ht rfl) (fun hd2 => ?_) (fun hd2 => ?_)))))
    ·have hxm : x < 2 * js.length := by simp only [decide_eq_true_eq] at hd2; omega
     have hgx := hj.lt (prt x) (prt_lt hxm)
     have hSr := hS.row hgx
     refine cY (cU (eK (ts (rm rfl (ra rfl (eZ (dQ (rm rfl (rm rfl (ro rfl (dV Tryz.isAgg214 Tryz.sizeOf214 (Ht rfl)) (rm rfl (ro rfl (op_callV (Ts := fun x : Fin (2 * js.length) => [NT .i64 x.1]) ⟨x, hxm⟩ (Ht rfl) ⟨(Ht rfl), trivial⟩) (rm rfl (ro rfl (OpTy.nat (dG (Ht rfl) (cV 1) (by omega) (by show _ < 9223372036854775808; first | omega | (simp only [lim]; omega))) (show qat (jnF z js) j + 1 - 1 = qat (jnF z js) j by omega)) (ro rfl (dJ U_27 Z_45 (Ht rfl) (Ht rfl) rfl (eQ (dY (d := Qi.zero) (show qat (jnF z js) j < (S.getD (gq (jps js) (prt x)) []).length by omega)))) ?_)))))))))))))))
     refine ro rfl (dV A_45 Z_45 (Ht rfl)) (ro rfl (op_idxO U_27 Z_45 (Ht rfl) (Ht rfl) rfl (i := 3) rfl (by rw [List.length_map, mix_len]; omega) rfl) ?_)
     refine R_stO Z_45 (Ht rfl) (Ht rfl) (El.ag rfl) (i := 3) rfl rfl (by rw [List.length_map, mix_len]; omega) rfl ?_
     refine eZ (T_blk (dQ (ro rfl (dW (Ht rfl) (cV 1) (by show _ < 9223372036854775808; first | omega | (simp only [lim]; omega))) (rm rfl (eZ (fY (x + 1) hxm (by omega) (aQ rfl (aQ rfl (aQ rfl (aQ rfl (aQ rfl (aQ rfl (aQ rfl (aQ rfl (aQ rfl (aQ rfl (aQ rfl (aQ rfl (aQ rfl (aQ rfl (aQ rfl aX))))))))))))))) (aU (box_of rfl) (aU (fun _ _ _ h => h) (aU (box_of rfl) (aU (rowO_of (by rw [set_mapF]; exact congrArg _ (mix_set (f := (fun x => gm S (gq (jps js) (prt x)) (qat (jnF z js) j)))))) aY))))))))))
    ·have hxm : x = 2 * js.length := by simp only [decide_eq_false_iff_not] at hd2; omega
     rw [hxm, mix_fin]
     refine gW rfl (gV (i := 3) (tt := 14) rfl rfl frz_row (ts (rm rfl (rm rfl (ro rfl (cJ Tryz.call177 (c_Solve (M := jnM S (jps js) (2 * js.length)) (b := jnB S (jps js) (2 * js.length) ((jnF z js).getD j 0)) (n := 2 * js.length) (L := L + 2) (jnM_shp _ _ _) (tab_len _ _) (jnM_fit hf hL) (hbf.le (by omega)) (by omega) (by omega) (by omega) hg2 (by omega)) ⟨(Ht rfl), (Ht rfl), trivial⟩) (rm rfl (ro rfl (dU (Ht rfl) rfl) (ro rfl (dU (Ht rfl) rfl) (ra rfl (ra rfl (eZ (cU (ts (rm rfl (ro rfl (op_neq (Ht rfl) cW) (eZ (dX (Ht rfl) (fun hc3 => ?_) (fun hc3 => ?_))))))))))))))))))
     ·have h5 : slvE (jnM S (jps js) (2 * js.length)) (jnB S (jps js) (2 * js.length) ((jnF z js).getD j 0)) (2 * js.length) ≠ 0 := by simpa using hc3
      have h6 : jslE z S js ≠ 0 := fun k => h5 (firstE_zero k j hjn)
      have he : jnE z S js = 6 := (jn_sol h3 h4).trans (if_neg h6)
      refine ts (ro rfl (OpTy.imp (bld_30_ ) net_nil) (gX Z_30 (Ht rfl) (Ht rfl) rfl (i := 0) rfl (aK rfl) rfl rfl (ro rfl (cX (cV 6)) (eZ (T_ret2 rfl (fZ (fU A_30 Z_30 rfl (i := 0) rfl rfl) ?_) (fZ (eY rfl) ?_))))))
      ·exact (fun v V h => by rw [jnZ, jnS, okL, okL, he]; exact h)
      ·exact (int_of he.symm)
     ·have h5 : slvE (jnM S (jps js) (2 * js.length)) (jnB S (jps js) (2 * js.length) ((jnF z js).getD j 0)) (2 * js.length) = 0 := by simpa using hc3
      have hxf := slv_fit (jnM_shp S (jps js) (2 * js.length)) (jnM_fit hf hL) (hbf.le (by omega)) (by omega) h5
      have hxl : (slvX (jnM S (jps js) (2 * js.length)) (jnB S (jps js) (2 * js.length) ((jnF z js).getD j 0)) (2 * js.length)).length = 2 * js.length := slvX_len _ _ _
      have hGe : L + 2 ≤ xgr (grow (L + 2) (2 * js.length)) (2 * js.length) := Nat.le_trans (grow_le (L + 2) (2 * js.length)) (xgr_ge _ _)
      obtain ⟨G, hG⟩ : ∃ G, G = xgr (grow (L + 2) (2 * js.length)) (2 * js.length) := ⟨_, rfl⟩
      rw [← hG] at hxf hGe hxn
      have hmG : 2 * js.length * (2 * G + 2) ≤ 18 * (2 * G + 2) := Nat.mul_le_mul_right _ (by omega)
      have hokx : okL (slvE (jnM S (jps js) (2 * js.length)) (jnB S (jps js) (2 * js.length) ((jnF z js).getD j 0)) (2 * js.length)) (slvX (jnM S (jps js) (2 * js.length)) (jnB S (jps js) (2 * js.length) ((jnF z js).getD j 0)) (2 * js.length)) = slvX (jnM S (jps js) (2 * js.length)) (jnB S (jps js) (2 * js.length) ((jnF z js).getD j 0)) (2 * js.length) := by rw [okL, if_pos h5]
      rw [hokx]
      refine cY (ts (rm rfl (ro rfl (dK U_69 (Ht rfl) (by rw [List.length_map, List.length_map])) ?_)))
      refine ro rfl (cZ (cV 0)) (eZ (eK (T_keep [0, 1, 2] rfl (by decide) ?_)))
      refine T_loop (fun (i : Nat) => i ≤ (jnF z js).length) (fun (i : Nat) => (jnF z js).length - i) (fun (i : Nat) => [(2, PT (NetT z S)), (4, PtrB B4 0), (6, PT (IntsT ((jnL js).map Nat.succ))), (8, PT (ClT Tryz.prog (Fin (2 * js.length)) (fun x => [NT .i64 x.1]) (fun x => NumsT (S.getD (gq (jps js) (prt x.1)) [])))), (9, NumM (jnM S (jps js) (2 * js.length))), (10, IntsT ((jnF z js).map Nat.succ)), (11, PtrB B11 0), (12, NT .i64 j), (16, NumsT (slvX (jnM S (jps js) (2 * js.length)) (jnB S (jps js) (2 * js.length) ((jnF z js).getD j 0)) (2 * js.length))), (48, IntsT ((jnF z js).map Nat.succ)), (49, NT .i64 ((jnF z js).length)), (50, NT .i64 j), (83, IntsT ((jnF z js).map Nat.succ)), (84, NT .i64 ((jnF z js).length)), (85, NT .i64 i)]) (fun (i : Nat) => [box B4 30 [Is (.slice none 0 0), Is (.slice none 0 0)], matO B47 27 45 5 (FRow NumT (mixG (fun i => (mixG (fun y => jnX S (jps js) (2 * js.length) (qat (jnF z js) i) (qat (jnF z js) y)) (fun y => gm S (qat (jnF z js) i) (qat (jnF z js) y)) (jnF z js).length (j + 1))) (fun i => (mixG (fun y => jnX S (jps js) (2 * js.length) (qat (jnF z js) i) (qat (jnF z js) y)) (fun y => gm S (qat (jnF z js) i) (qat (jnF z js) y)) (jnF z js).length j)) ((jnF z js).length) i)), box B11 30 [NumsT (subZ z (jnF z js)), Is (.slice (some ⟨B47, 0, none⟩) ((jnF z js).length) ((jnF z js).length))]]) 0 (Nat.zero_le _)
       (aQ rfl (aQ rfl (aQ rfl (aQ rfl (aQ rfl (aQ rfl (aQ rfl (aQ rfl (aQ rfl (aQ rfl (aQ rfl (aQ rfl (aQ rfl (aQ rfl (aQ rfl aX))))))))))))))) (aU (box_of rfl) (aU (matO_of (congrArg (FRow NumT) (mixG_zero _ _ _))) (aU (box_of rfl) aY))) (fun i hi => ?_)
      refine ts (ro rfl (gZ (Ht rfl) (Ht rfl)) (eZ (cU (dX (Ht rfl) (fun hd4 => ?_) (fun hd4 => ?_)))))
      ·have hin : i < (jnF z js).length := by simp only [decide_eq_true_eq] at hd4; omega
       have hFi : qat (jnF z js) i < z.length := jnF_lt hin
       have hSr := hS.row hFi
       refine cY (cU (eK (ts (rm rfl (ro rfl (dJ U_69 Z_3 (Ht rfl) (Ht rfl) rfl (eQ (suc_get hin))) (ro rfl (dV A_3 Z_3 (Ht rfl)) (ra rfl (ra rfl (eZ (ts (ro rfl (dV A_69 Z_69 (Ht rfl)) (ro rfl (dK U_69 (Ht rfl) (by rw [List.length_map, List.length_map, hJl])) ?_))))))))))))
       refine rn rfl (new_makeO (T := NumT Qi.zero) (i := Tryz.t45) und_27 info_45 rfl rfl (Ht rfl) rfl num_zero_p (El.ag rfl) (by show 88 * _ ≤ _; omega) (by omega)) fun B92 => ra rfl (eZ (cU (ts (ro rfl (dV A_69 Z_69 (Ht rfl)) (ro rfl (dK U_69 (Ht rfl) (by rw [List.length_map, List.length_map, hJl])) ?_)))))
       refine ro rfl (cZ (cV 0)) (eZ (eK ?_))
       refine T_loop (fun (x : Nat) => x ≤ 2 * js.length) (fun (x : Nat) => 2 * js.length - x) (fun (x : Nat) => [(2, PT (NetT z S)), (4, PtrB B4 0), (6, PT (IntsT ((jnL js).map Nat.succ))), (8, PT (ClT Tryz.prog (Fin (2 * js.length)) (fun x => [NT .i64 x.1]) (fun x => NumsT (S.getD (gq (jps js) (prt x.1)) [])))), (9, NumM (jnM S (jps js) (2 * js.length))), (10, IntsT ((jnF z js).map Nat.succ)), (11, PtrB B11 0), (12, NT .i64 j), (16, NumsT (slvX (jnM S (jps js) (2 * js.length)) (jnB S (jps js) (2 * js.length) ((jnF z js).getD j 0)) (2 * js.length))), (18, NT .i64 i), (19, NT .i64 (qat (jnF z js) i + 1)), (20, Is B92), (48, IntsT ((jnF z js).map Nat.succ)), (49, NT .i64 ((jnF z js).length)), (50, NT .i64 j), (83, IntsT ((jnF z js).map Nat.succ)), (84, NT .i64 ((jnF z js).length)), (85, NT .i64 i), (93, IntsT ((jnL js).map Nat.succ)), (94, NT .i64 (2 * js.length)), (95, NT .i64 x)]) (fun (x : Nat) => [box B4 30 [Is (.slice none 0 0), Is (.slice none 0 0)], matO B47 27 45 5 (FRow NumT (mixG (fun i => (mixG (fun y => jnX S (jps js) (2 * js.length) (qat (jnF z js) i) (qat (jnF z js) y)) (fun y => gm S (qat (jnF z js) i) (qat (jnF z js) y)) (jnF z js).length (j + 1))) (fun i => (mixG (fun y => jnX S (jps js) (2 * js.length) (qat (jnF z js) i) (qat (jnF z js) y)) (fun y => gm S (qat (jnF z js) i) (qat (jnF z js) y)) (jnF z js).length j)) ((jnF z js).length) i)), box B11 30 [NumsT (subZ z (jnF z js)), Is (.slice (some ⟨B47, 0, none⟩) ((jnF z js).length) ((jnF z js).length))], rowO 45 5 B92 ((mixT (fun x => gm S (qat (jnF z js) i) (gq (jps js) x)) Qi.zero (2 * js.length) x).map NumT)]) 0 (Nat.zero_le _)
        (aQ rfl (aQ rfl (aQ rfl (aQ rfl (aQ rfl (aQ rfl (aQ rfl (aQ rfl (aQ rfl (aQ rfl (aQ rfl (aQ rfl (aQ rfl (aQ rfl (aQ rfl (aQ rfl (aQ rfl (aQ rfl (aQ rfl (aQ rfl (aQ rfl aX))))))))))))))))))))) (aU (box_of rfl) (aU (fun _ _ _ h => h) (aU (box_of rfl) (aU (rowO_of (by rw [← mix_zero]; exact tab_rep NumT _)) aY)))) (fun x hx1 => ?_)
       refine ts (ro rfl (gZ (Ht rfl) (Ht rfl)) (eZ (cU (dX (Ht rfl) (fun hd5 => ?_) (fun hd5 => ?_)))))
       ·have hxm : x < 2 * js.length := by simp only [decide_eq_true_eq] at hd5; omega
        have hat : qat (jnL js) x = gq (jps js) x := jnL_at hxm
        have hgx := hj.lt x hxm
        refine cY (cU (eK (ts (rm rfl (ro rfl (dJ U_69 Z_3 (Ht rfl) (Ht rfl) rfl (eQ (suc_get (by omega)))) (ro rfl (dV A_3 Z_3 (Ht rfl)) (ra rfl (ra rfl (eZ (dQ (rm rfl (rm rfl (ro rfl (op_fld1 fa_30_1 (Ht rfl) rfl) (ro rfl (dV A_28 Z_28 (Ht rfl)) (rm rfl (ro rfl (OpTy.nat (dG (Ht rfl) (cV 1) (by omega) (by show _ < 9223372036854775808; first | omega | (simp only [lim]; omega))) (show qat (jnF z js) i + 1 - 1 = qat (jnF z js) i by omega)) (ro rfl (dJ U_28 Z_27 (Ht rfl) (Ht rfl) rfl (eQ (dY (d := []) (show qat (jnF z js) i < S.length by omega)))) ?_)))))))))))))))))
        refine ro rfl (dV A_27 Z_27 (Ht rfl)) (rm rfl (ro rfl (OpTy.nat (dG (Ht rfl) (cV 1) (by omega) (by show _ < 9223372036854775808; first | omega | (simp only [lim]; omega))) (show qat (jnL js) x + 1 - 1 = gq (jps js) x by omega)) (ro rfl (dJ U_27 Z_45 (Ht rfl) (Ht rfl) rfl (eQ (dY (d := Qi.zero) (show gq (jps js) x < (S.getD (qat (jnF z js) i) []).length by omega)))) (ro rfl (dV A_45 Z_45 (Ht rfl)) (ro rfl (op_idxO U_27 Z_45 (Ht rfl) (Ht rfl) rfl (i := 3) rfl (by rw [List.length_map, mix_len]; omega) rfl) ?_)))))
        refine R_stO Z_45 (Ht rfl) (Ht rfl) (El.ag rfl) (i := 3) rfl rfl (by rw [List.length_map, mix_len]; omega) rfl ?_
        refine eZ (T_blk (dQ (ro rfl (dW (Ht rfl) (cV 1) (by show _ < 9223372036854775808; first | omega | (simp only [lim]; omega))) (rm rfl (eZ (fY (x + 1) hxm (by omega) (aQ rfl (aQ rfl (aQ rfl (aQ rfl (aQ rfl (aQ rfl (aQ rfl (aQ rfl (aQ rfl (aQ rfl (aQ rfl (aQ rfl (aQ rfl (aQ rfl (aQ rfl (aQ rfl (aQ rfl (aQ rfl (aQ rfl (aQ rfl (aQ rfl aX))))))))))))))))))))) (aU (box_of rfl) (aU (fun _ _ _ h => h) (aU (box_of rfl) (aU (rowO_of (by rw [set_mapF]; exact congrArg _ (mix_set (f := (fun x => gm S (qat (jnF z js) i) (gq (jps js) x)))))) aY))))))))))
       ·have hxm : x = 2 * js.length := by simp only [decide_eq_false_iff_not] at hd5; omega
        rw [hxm, mix_fin]
        refine gW rfl (gV (i := 3) (tt := 20) rfl rfl frz_row (T_keep [0, 1, 2] rfl (by decide) (T_focus 1 (i) rfl (frow_mixG hin) (fun v0 => ?_))))
        have hrl := mixG_len (fun y => jnX S (jps js) (2 * js.length) (qat (jnF z js) i) (qat (jnF z js) y)) (fun y => gm S (qat (jnF z js) i) (qat (jnF z js) y)) ((jnF z js).length) j
        have hrf : FitL (tab (2 * js.length) (fun x => gm S (qat (jnF z js) i) (gq (jps js) x))) G := FitL.tab fun x _ => (hf.get hL _ _).le (by omega)
        have hro : ((mixG (fun y => jnX S (jps js) (2 * js.length) (qat (jnF z js) i) (qat (jnF z js) y)) (fun y => gm S (qat (jnF z js) i) (qat (jnF z js) y)) (jnF z js).length j)).set j (dotF (gm S (qat (jnF z js) i) (qat (jnF z js) j)) (tab (2 * js.length) (fun x => gm S (qat (jnF z js) i) (gq (jps js) x))) (slvX (jnM S (jps js) (2 * js.length)) (jnB S (jps js) (2 * js.length) ((jnF z js).getD j 0)) (2 * js.length)) (2 * js.length)) = (mixG (fun y => jnX S (jps js) (2 * js.length) (qat (jnF z js) i) (qat (jnF z js) y)) (fun y => gm S (qat (jnF z js) i) (qat (jnF z js) y)) (jnF z js).length (j + 1)) := by
         rw [dot_jn]; exact mixG_set (f := fun y => jnX S (jps js) (2 * js.length) (qat (jnF z js) i) (qat (jnF z js) y))
        refine fJ (m := 17) (dp 11 rfl (eJ fa_30_1 (Ht rfl) rfl) (dq 114 0 rfl (fQ A_28 Z_28 (Ht rfl) (i := 2) rfl rfl) (dp 18 rfl (cZ (Ht rfl)) (dqq 115 1 116 2 rfl (gQ U_28 Z_27 (Ht rfl) (Ht rfl) rfl (by omega) (by rw [Nat.mul_one, Nat.zero_add])) ?_))))
        refine dq 117 3 rfl (op_ldH A_27 Z_27 (Ht rfl) (j := 1) rfl) (dp 12 rfl (cZ (Ht rfl)) (dp 11 rfl (eJ fa_30_1 (Ht rfl) rfl) (dq 120 6 rfl (fQ A_28 Z_28 (Ht rfl) (i := 2) rfl rfl) (dp 18 rfl (cZ (Ht rfl)) (dqq 121 7 122 8 rfl (gQ U_28 Z_27 (Ht rfl) (Ht rfl) rfl (by omega) (by rw [Nat.mul_one, Nat.zero_add])) ?_)))))
        refine dq 123 9 rfl (op_ldH A_27 Z_27 (Ht rfl) (j := 1) rfl) (dp 12 rfl (cZ (Ht rfl)) (dqq 124 10 125 11 rfl (op_idxO U_27 Z_45 (Ht rfl) (Ht rfl) rfl (i := 3) rfl (by simp only [List.length_map, hrl]; omega) rfl) ?_))
        refine dq 126 12 rfl (op_ldO A_45 Z_45 (Ht rfl) (i := 3) rfl rfl (eQ (mixG_get hjn))) (dp 20 rfl (cZ (Ht rfl)) (dp 16 rfl (cZ (Ht rfl)) (C.D_step (Ei := [(127, _), (128, _), (129, _)]) rfl rfl (bV (bG 13 rfl rfl) (bV (bG 14 rfl rfl) (bV (bG 15 rfl rfl) bW))) (dZ rfl (cJ Tryz.call162 (c_dot (x := gm S (qat (jnF z js) i) (qat (jnF z js) j)) (l := tab (2 * js.length) (fun x => gm S (qat (jnF z js) i) (gq (jps js) x))) (m := slvX (jnM S (jps js) (2 * js.length)) (jnB S (jps js) (2 * js.length) ((jnF z js).getD j 0)) (2 * js.length)) (L := G) (M := L) (n := 2 * js.length) (hf.get hL _ _) hrf hxf (by omega) (tab_len _ _) hxl (by omega) (by omega)) ⟨(Ht rfl), (Ht rfl), (Ht rfl), trivial⟩)) ?_)))
        refine fW mixed rfl (by kernel_rfl) (aJ (aJ (aJ (aJ (aJ (aJ (aJ (aJ (aJ (aJ (aJ (aJ (aJ (aJ (aJ (aJ (aJ (aV (ro rfl (op_idxO U_27 Z_45 (Ht rfl) (Ht rfl) rfl (i := 3) rfl (by simp only [List.length_map, hrl]; omega) rfl) ?_)))))))))))))))))))
        refine R_stO Z_45 (Ht rfl) (Ht rfl) (El.ag rfl) (i := 3) rfl rfl (by simp only [List.length_map, hrl]; omega) rfl ?_
        refine eZ (T_unfocus 1 3 rfl rfl (by decide) (by simp only [FRow, List.length_map, mixG_len]; omega) ?_)
        refine T_blk (dQ (ro rfl (dW (Ht rfl) (cV 1) (by show _ < 9223372036854775808; first | omega | (simp only [lim]; omega))) (rm rfl (eZ (T_keep [0, 1, 2] rfl (by decide) (fY (i + 1) hin (by omega) (aQ rfl (aQ rfl (aQ rfl (aQ rfl (aQ rfl (aQ rfl (aQ rfl (aQ rfl (aQ rfl (aQ rfl (aQ rfl (aQ rfl (aQ rfl (aQ rfl (aQ rfl aX))))))))))))))) (aU (box_of rfl) (aU (matO_of (by rw [set_mapF, hro, set_FRow]; exact congrArg _ (mixG_set (f := fun i => (mixG (fun y => jnX S (jps js) (2 * js.length) (qat (jnF z js) i) (qat (jnF z js) y)) (fun y => gm S (qat (jnF z js) i) (qat (jnF z js) y)) (jnF z js).length (j + 1)))))) (aU (box_of rfl) aY)))))))))
      ·have hin : i = (jnF z js).length := by simp only [decide_eq_false_iff_not] at hd4; omega
       rw [hin, mixG_fin]
       refine gW rfl (T_blk (dQ (ro rfl (dW (Ht rfl) (cV 1) (by show _ < 9223372036854775808; first | omega | (simp only [lim]; omega))) (rm rfl (eZ ?_)))))
       refine fY (j + 1) ⟨hjn, fun y h => by
         by_cases e : y = j
         ·rw [e]; exact h5
         ·exact h0 y (by omega)⟩ (by omega) (aQ rfl (aQ rfl (aQ rfl (aQ rfl (aQ rfl (aQ rfl (aQ rfl (aQ rfl (aQ rfl (aQ rfl aX)))))))))) (aU (box_of rfl) (aU (fun _ _ _ h => h) (aU (box_of rfl) aY)))
   ·have hjn : j = (jnF z js).length := by simp only [decide_eq_false_iff_not] at hd1; omega
    rw [hjn] at h0
    have h6 : jslE z S js = 0 := firstE_none h0
    have he : jnE z S js = 0 := (jn_sol h3 h4).trans (if_pos h6)
    rw [hjn, show (tab ((jnF z js).length) fun i => (mixG (fun y => jnX S (jps js) (2 * js.length) (qat (jnF z js) i) (qat (jnF z js) y)) (fun y => gm S (qat (jnF z js) i) (qat (jnF z js) y)) (jnF z js).length (jnF z js).length)) = jnS0 z S js from tab_congr fun i _ => mixG_fin _ _ _]
    refine gW rfl (cU (T_frzcellG 2 1 1 rfl rfl rfl (by decide) (frzM (q := fun _ => True) (M := jnS0 z S js) (tab_len _ _).symm) (dQ (ro rfl (eW A_30 Z_30 (Ht rfl) (i := 2) rfl rfl rfl) (gX Z_30 (Ht rfl) (Ht rfl) rfl (i := 0) rfl (aK rfl) rfl rfl (ro rfl (cX (cV 0)) (eZ (T_ret2 rfl (fZ (fU A_30 Z_30 rfl (i := 0) rfl rfl) ?_) (fZ (eY rfl) ?_)))))))))
    ·exact (fun v V h => by rw [jnZ, jnS, okL, okL, he, if_neg h4, if_neg h4]; exact h)
    ·exact (int_of he.symm)
end
section
open Go Go.RowKit
section
variable {φ : Qi → Qi → Bool} {z : List Qi} {js : List (Int × Int)}
end
def hlf : Qi := Qi.frac 1 0 2
section
variable {js : List (Int × Int)} {n : Nat}
end
end
section
open Go Go.RowKit
def fRest (n : Nat) (l : Nat → Nat) : Nat → List Nat
 | 0 => tab n fun i => i + 1
 | i + 1 => (fRest n l i).take (l i % (fRest n l i).length) ++ (fRest n l i).drop (l i % (fRest n l i).length + 1)
abbrev fIdx (n : Nat) (l : Nat → Nat) (i : Nat) : Nat := l i % (fRest n l i).length
def fOut (n : Nat) (l : Nat → Nat) (i : Nat) : Nat := (fRest n l i).getD (fIdx n l i) 0
theorem fRest_er (n : Nat) (l : Nat → Nat) (i : Nat) : fRest n l (i + 1) = (fRest n l i).eraseIdx (fIdx n l i) := by
 rw [fRest, List.eraseIdx_eq_take_drop_succ]
theorem fRest_len {n : Nat} {l : Nat → Nat} : ∀ i, i ≤ n → (fRest n l i).length = n - i
 | 0, _ => tab_len _ _
 | i + 1, h => by
  have ih := fRest_len (n := n) (l := l) i (by omega)
  have hk := Nat.mod_lt (l i) (show 0 < (fRest n l i).length by omega)
  rw [fRest_er, List.length_eraseIdx_of_lt hk, ih]; omega
theorem fIdx_lt {n : Nat} {l : Nat → Nat} {i : Nat} (h : i < n) : fIdx n l i < (fRest n l i).length := Nat.mod_lt _ (by rw [fRest_len i (by omega)]; omega)
theorem nd_of {L : List Nat} (h : ∀ i j, i < j → j < L.length → L.getD i 0 ≠ L.getD j 0) : L.Nodup := List.pairwise_iff_getElem.2 fun i j hi hj hij e => h i j hij hj (by
 rw [show L.getD i 0 = L[i] by simp [List.getD, hi], show L.getD j 0 = L[j] by simp [List.getD, hj]]; exact e)
theorem fRest_nd {n : Nat} {l : Nat → Nat} : ∀ i, (fRest n l i).Nodup
 | 0 => by
  refine nd_of fun i j hij hj => ?_
  have hj2 : j < n := by rw [fRest, tab_len] at hj; exact hj
  rw [fRest, tab_getD (by omega), tab_getD hj2]; omega
 | i + 1 => by rw [fRest_er]; exact (fRest_nd i).eraseIdx _
theorem fOut_get {n : Nat} {l : Nat → Nat} {i : Nat} (h : i < n) : (fRest n l i)[fIdx n l i]? = some (fOut n l i) := by
 simp [fOut, List.getD, fIdx_lt h]
theorem fOut_mem {n : Nat} {l : Nat → Nat} {i : Nat} (h : i < n) : fOut n l i ∈ fRest n l i := List.mem_of_getElem? (fOut_get h)
theorem fRest_mem {n : Nat} {l : Nat → Nat} {i x : Nat} (h : i < n) (hx : x ∈ fRest n l (i + 1)) : x ∈ fRest n l i ∧ x ≠ fOut n l i := by
 rw [fRest_er, List.mem_eraseIdx_iff_getElem?] at hx
 obtain ⟨j, hj, e⟩ := hx
 refine ⟨List.mem_of_getElem? e, fun k => hj ?_⟩
 rw [k] at e
 have hl := fIdx_lt (l := l) h
 have hjl := (List.getElem?_eq_some_iff.1 e).1
 have h2 := fOut_get (l := l) h
 rw [List.getElem?_eq_getElem hjl] at e
 rw [List.getElem?_eq_getElem hl] at h2
 exact (List.getElem_inj (fRest_nd i)).1 ((Option.some.inj e).trans (Option.some.inj h2).symm)
theorem fRest_sub {n : Nat} {l : Nat → Nat} {i x : Nat} : ∀ {j : Nat}, i ≤ j → j ≤ n → x ∈ fRest n l j → x ∈ fRest n l i
 | 0, h, _, hx => by obtain rfl := Nat.le_zero.1 h; exact hx
 | j + 1, h, hn, hx => by
  by_cases e : i = j + 1
  ·rw [e]; exact hx
  ·exact fRest_sub (j := j) (by omega) (by omega) (fRest_mem (by omega) hx).1
theorem fOut_in {n : Nat} {l : Nat → Nat} {i : Nat} (h : i < n) : 1 ≤ fOut n l i ∧ fOut n l i ≤ n := by
 have := fRest_sub (Nat.zero_le i) (by omega) (fOut_mem (l := l) h)
 obtain ⟨j, hj, e⟩ := tab_mem.1 (show fOut n l i ∈ tab n fun i => i + 1 from this)
 omega
theorem fOut_ne {n : Nat} {l : Nat → Nat} {i j : Nat} (hij : i < j) (hj : j < n) : fOut n l j ≠ fOut n l i := fun e => by
 have := fRest_sub (show i + 1 ≤ j by omega) (by omega) (fOut_mem (l := l) hj)
 exact (fRest_mem (by omega) this).2 e
structure Perm1 (O : List Nat) (n : Nat) : Prop where
 nd : O.Nodup
 all : ∀ x, x ∈ O ↔ 1 ≤ x ∧ x ≤ n
theorem Perm1.len {O : List Nat} {n : Nat} (h : Perm1 O n) : O.length = n := by
 refine Nat.le_antisymm ?_ ?_
 ·refine pig (n := n) (f := fun i => O.getD i 0 - 1) (fun x hx => ?_) (fun x y hx hy e => ?_)
  ·have := (h.all (O.getD x 0)).1 (by rw [show O.getD x 0 = O[x] by simp [List.getD, hx]]; exact List.getElem_mem hx)
   show O.getD x 0 - 1 < n; omega
  ·have a := (h.all (O.getD x 0)).1 (by rw [show O.getD x 0 = O[x] by simp [List.getD, hx]]; exact List.getElem_mem hx)
   have b := (h.all (O.getD y 0)).1 (by rw [show O.getD y 0 = O[y] by simp [List.getD, hy]]; exact List.getElem_mem hy)
   have e2 : O.getD x 0 = O.getD y 0 := by have : O.getD x 0 - 1 = O.getD y 0 - 1 := e; omega
   rw [show O.getD x 0 = O[x] by simp [List.getD, hx], show O.getD y 0 = O[y] by simp [List.getD, hy]] at e2
   exact (List.getElem_inj h.nd).1 e2
 ·have key : ∀ j, j < n → ∃ i, i < O.length ∧ O.getD i 0 = j + 1 := fun j hj => by
   obtain ⟨i, hi, e⟩ := List.getElem_of_mem ((h.all (j + 1)).2 ⟨by omega, by omega⟩)
   exact ⟨i, hi, by simp [List.getD, hi, e]⟩
  refine pig (n := O.length) (f := fun j => if hj : j < n then Classical.choose (key j hj) else 0) (fun x hx => by simp only [dif_pos hx]; exact (Classical.choose_spec (key x hx)).1) (fun x y hx hy e => ?_)
  simp only [dif_pos hx, dif_pos hy] at e
  have a := (Classical.choose_spec (key x hx)).2
  have b := (Classical.choose_spec (key y hy)).2
  rw [e] at a; omega
section
variable {O : List Nat} {n : Nat}
theorem Perm1.at (h : Perm1 O n) {i : Nat} (hi : i < n) : 1 ≤ O.getD i 0 ∧ O.getD i 0 ≤ n := by
 have hl := h.len
 exact (h.all _).1 (by rw [show O.getD i 0 = O[i] by simp [List.getD, show i < O.length by omega]]; exact List.getElem_mem _)
theorem Perm1.inj (h : Perm1 O n) {i j : Nat} (hi : i < n) (hj : j < n) (e : O.getD i 0 = O.getD j 0) : i = j := by
 have hl := h.len
 rw [show O.getD i 0 = O[i] by simp [List.getD, show i < O.length by omega], show O.getD j 0 = O[j] by simp [List.getD, show j < O.length by omega]] at e
 exact (List.getElem_inj h.nd).1 e
end
end
section
open Go Go.RowKit
section
variable {P : Program} {R : Post} {cx : Cx} {n : Nat} {k : List It} {E : Env} {H : Hp}
theorem HH.two {base : Nat} {w : World} {V : View} {Z : SA} {X : Hp} (h : HH base w V (Z :: X)) : HH base w V [Z, starSA (SA.emp :: X)] := by
 have h1 : HH base w V ((Z :: X).set 0 SA.emp ++ [Z]) := h.last rfl
 have h2 : HH base w V (starSA (SA.emp :: X) :: [Z]) := HH.repack h1
 exact h2.pick (is := [1, 0]) ⟨⟨_, rfl, fun _ _ _ h => h⟩, ⟨_, rfl, fun _ _ _ h => h⟩, trivial⟩ (by decide)
theorem FunO.pack {f : FuncId} {Ts : List Ty} {γ : Type} {U : γ → Ty} {X : γ → Hp} {Q : γ → Prop} (h : FunO P f Ts [] γ U X Q) : FunO P f Ts [] γ U (fun x => [starSA (SA.emp :: X x)]) Q :=
 fun cx Z vs V w h1 h2 => (h cx Z vs V w h1 h2).mono fun e w' ⟨v, V', x, a, b, c, d, e'⟩ => ⟨v, V', x, a, b, c.withHH c.hp.two, d, e'⟩
end
namespace W
variable {P : Program} {R : Post} {cx : Cx} {n : Nat} {k : List It} {E : Env} {H : Hp} {Hf : Bool → Hp} {p : Nat}
end W
end
section
open Go Go.RowKit
section
variable {P : Program} {n : Nat} {E : Env} {H : Hp}
variable {d : Option Tmp} {t : TypeId} {pos : String} {af : Array Edge} {g : Option (Nat × Bool)}
theorem op_idxAB {x i : Operand} {B o q r s : Nat} {kd : IntKind} {j : Int} {e : TypeId} {len : Nat} (hU : ∀ w, (underlying t).run P w = .ok (.array len e) w) (hS : ∀ w, (sizeOf e).run P w = .ok s w)
  (hx : Has E x (PtrB B o)) (hi : Has E i (IntT kd j)) (hj : j = (q : Int)) (hl : q < len) (hr : o + q * s = r) {t' : TypeId} : OpTy P n E H ⟨d, .indexAddr t x i, t', pos, af, g⟩ (PtrB B r) :=
 op_pure fun a V w hs => by
  have e1 : a.eval x = .pointer (some ⟨B, o, none⟩) := hx n V a hs
  have ei : a.eval i = .int kd j := hi n V a hs
  subst hj hr
  exact ⟨.pointer (some ⟨B, o + q * s, none⟩), by simp [execOp, e1, ei, Instr.indexAt, Instr.sureAddr, asIntOf, Sem.run_bind, hU, hS, Result.andThen, hl, add_plain], rfl⟩
theorem A_appendV {x y : Operand} {s e : Nat} {v : Value} {Ts Us : List Ty} {inf : TypeInfo} {z : Value} {dd : Nat} (ht : P.underlying t = some (.slice e)) (hi : P.info? e = some inf) (hz : inf.zero = some z) (hsize : inf.size = s) (hzs : z.cells.size = s)
  (hx : Has E x (Is v)) (hy : Has E y (SlT s Us)) (hEl : ∀ T, T ∈ Us → El s T) (hlen : (Ts.length + Us.length) * inf.bytes ≤ 140737488355328) (h63 : Ts.length + Us.length ≤ 9223372036854775807) {t' : TypeId} :
  AppTy P n E (rowO e s v Ts) ⟨some dd, .call ⟨.builtin .append, #[x, y], #[t, t]⟩, t', pos, af, none⟩ Value (fun v => Is v) (fun v => rowO e s v (Ts ++ Us)) := fun cx X a w V hinv hs => by
 obtain ⟨v', w', hrun, hi'⟩ := append_any (dd := dd) (pos := pos) (af := af) (t' := t') (H := [rowO e s v Ts] ++ X) (i := 0) ht hi hz hsize hzs hx hy rfl hEl hlen h63 hinv hs
 exact ⟨v', v', w', hrun, rfl, hi'⟩
end
end
section
open Go Go.RowKit
def l4 (a b c d : Nat) : Nat → Nat
 | 0 => a
 | 1 => b
 | 2 => c
 | _ => d
theorem l4_get {a b c d : Nat} : ∀ {i : Nat}, i < 4 → ([NT .u8 a, NT .u8 b, NT .u8 c, NT .u8 d] : List Ty)[0 + i * 1]? = some (NT .u8 (l4 a b c d i))
 | 0, _ => rfl
 | 1, _ => rfl
 | 2, _ => rfl
 | 3, _ => rfl
theorem l4_lt {a b c d : Nat} (ha : a < 256) (hb : b < 256) (hc : c < 256) (hd : d < 256) : ∀ i, l4 a b c d i < 256
 | 0 => ha
 | 1 => hb
 | 2 => hc
 | _ + 3 => hd
theorem c_four {n a b c d : Nat} (hn : 4 ≤ n) (hn2 : n ≤ 1000) (ha : a < 256) (hb : b < 256) (hc : c < 256) (hd : d < 256) : Fun Tryz.prog 38 [NT .i64 n, AggT [NT .u8 a, NT .u8 b, NT .u8 c, NT .u8 d]] (AggT (tab 4 fun i => NT .i64 (fOut n (l4 a b c d) i))) := by
 refine Fun.intro Tryz.func38 rfl Tryz.ntmps38 rfl (fun cx => (ts (rn rfl (fK (Ht rfl)) fun B3 => (rn rfl (eG (Ts := [Is (.int .i64 0), Is (.int .i64 0), Is (.int .i64 0), Is (.int .i64 0)]) Tryz.zeroValue67 rfl (fun V => aW ⟨rfl, trivial⟩ (aW ⟨rfl, trivial⟩ (aW ⟨rfl, trivial⟩ (aW ⟨rfl, trivial⟩ (aG)))))) fun B4 => (eZ (ts (rm rfl (rn rfl (new_makeO (T := NT .i64 0) (i := Tryz.t3) und_69 info_3 rfl rfl (Ht rfl) rfl (fun V => rfl) El.one (by show 8 * _ ≤ _; omega) (by omega)) fun B11 => (ra rfl (eZ (cU (ts (rm rfl (ro rfl (op_lenO U_69 (Ht rfl) (i := 2) rfl (show ((List.replicate n (NT .i64 0)).length : Int) = ((n : Nat) : Int) from by simp)) ?_))))))))))))))
 refine ro rfl (cZ (cV 0)) (eZ (eK ?_))
 refine T_loop (fun (i : Nat) => i ≤ n) (fun (i : Nat) => n - i) (fun (i : Nat) => [(3, PtrB B3 0), (4, PtrB B4 0), (5, Is B11), (13, NT .i64 n), (14, NT .i64 i)]) (fun (i : Nat) => [box B3 63 [NT .u8 a, NT .u8 b, NT .u8 c, NT .u8 d], box B4 67 [NT .i64 0, NT .i64 0, NT .i64 0, NT .i64 0], rowO 3 1 B11 (mixT (fun i => NT .i64 (i + 1)) (NT .i64 0) n i)]) 0 (Nat.zero_le _)
  (aQ rfl (aQ rfl (aQ rfl (aQ rfl (aQ rfl aX))))) (aU (box_of rfl) (aU (box_of rfl) (aU (rowO_of (by rw [← mix_zero]; exact rep_tab _ _)) aY))) (fun i hi => ?_)
 refine ts (ro rfl (gZ (Ht rfl) (Ht rfl)) (eZ (cU (dX (Ht rfl) (fun hk => ?_) (fun hk => ?_)))))
 ·have hin : i < n := by simp only [decide_eq_true_eq] at hk; omega
  refine cY (cU (eK (ts (rm rfl (ra rfl (eZ (dQ (rm rfl (rm rfl (rm rfl (ro rfl (dW (Ht rfl) (cV 1) (by show _ < 9223372036854775808; first | omega | (simp only [lim]; omega))) (ro rfl (op_idxO U_69 Z_3 (Ht rfl) (Ht rfl) rfl (i := 2) rfl (by rw [mix_len]; omega) rfl) ?_))))))))))))
  refine R_stO Z_3 (Ht rfl) (Ht rfl) El.one (i := 2) rfl rfl (by rw [mix_len]; omega) rfl ?_
  refine eZ (T_blk (dQ (ro rfl (dW (Ht rfl) (cV 1) (by show _ < 9223372036854775808; first | omega | (simp only [lim]; omega))) (rm rfl (eZ (fY (i + 1) hin (by omega) (aQ rfl (aQ rfl (aQ rfl (aQ rfl (aQ rfl aX))))) (aU (box_of rfl) (aU (box_of rfl) (aU (rowO_of (mix_set (f := (fun i => NT .i64 (i + 1))))) aY)))))))))
 ·obtain rfl : i = n := by simp only [decide_eq_false_iff_not] at hk; omega
  rw [mix_fin]
  refine gW rfl (cU (gV (i := 2) (tt := 5) rfl rfl frz_row (dQ (rn rfl (eG (Ts := [Is (.int .i64 0), Is (.int .i64 0), Is (.int .i64 0), Is (.int .i64 0)]) Tryz.zeroValue67 rfl (fun V => aW ⟨rfl, trivial⟩ (aW ⟨rfl, trivial⟩ (aW ⟨rfl, trivial⟩ (aW ⟨rfl, trivial⟩ (aG)))))) fun B7 => (eZ (cU (ts (ro rfl (cZ (cV 0)) (eZ (eK (T_keep [0, 1, 3] rfl (by decide) ?_)))))))))))
  refine T_loop (fun (j : Nat) => j ≤ 4) (fun (j : Nat) => 4 - j) (fun (j : Nat) => [(3, PtrB B3 0), (4, PtrB B4 0), (5, IntsT (fRest i (l4 a b c d) j)), (7, PtrB B7 0), (23, NT .i64 j)]) (fun (j : Nat) => [box B3 63 [NT .u8 a, NT .u8 b, NT .u8 c, NT .u8 d], box B4 67 [NT .i64 0, NT .i64 0, NT .i64 0, NT .i64 0], box B7 67 (mixT (fun k => NT .i64 (fOut i (l4 a b c d) k)) (NT .i64 0) 4 j)]) 0 (Nat.zero_le _)
   (aQ rfl (aQ rfl (aZ rfl (slT_of (by rw [fRest, tab_map])) (aQ rfl (aQ rfl aX))))) (aU (box_of rfl) (aU (box_of rfl) (aU (box_of rfl) aY))) (fun j hj => ?_)
  refine ts (ro rfl (gZ (Ht rfl) (cV 4)) (eZ (cU (dX (Ht rfl) (fun hk2 => ?_) (fun hk2 => ?_)))))
  ·have hj4 : j < 4 := by simp only [decide_eq_true_eq] at hk2; omega
   have hlb := l4_lt ha hb hc hd j
   have hrl := fRest_len (n := i) (l := (l4 a b c d)) j (by omega)
   have hkl := fIdx_lt (n := i) (l := (l4 a b c d)) (i := j) (by omega)
   refine cY (cU (eK (ts (rm rfl (ra rfl (eZ (ts (rm rfl (ro rfl (op_idxAB Tryz.runUnderlying63 Z_5 (Ht rfl) (Ht rfl) rfl (by omega) rfl) (ro rfl (fQ A_5 Z_5 (Ht rfl) (i := 0) rfl (l4_get hj4)) (ro rfl (gJ U_5 U_3 (Ht rfl) (by show _ < 9223372036854775808; first | omega | (simp only [lim]; omega))) (rm rfl (ro rfl (dK U_69 (Ht rfl) len_map) (ro rfl (op_remN (Ht rfl) (Ht rfl) (by omega)) (ra rfl (eZ (cU ?_)))))))))))))))))
   obtain ⟨kk, hkk⟩ : ∃ kk, kk = fIdx i (l4 a b c d) j := ⟨_, rfl⟩
   rw [← hkk] at hkl
   rw [show l4 a b c d j % (fRest i (l4 a b c d) j).length = kk from hkk.symm]
   have hfo : fOut i (l4 a b c d) j = (fRest i (l4 a b c d) j).getD kk 0 := by rw [hkk]; rfl
   have hnx : fRest i (l4 a b c d) (j + 1) = (fRest i (l4 a b c d) j).take kk ++ (fRest i (l4 a b c d) j).drop (kk + 1) := by rw [hkk]; rfl
   refine dQ (rm rfl (rm rfl (rm rfl (ro rfl (dJ U_69 Z_3 (Ht rfl) (Ht rfl) rfl (eQ (dY (d := 0) hkl))) (ro rfl (dV A_3 Z_3 (Ht rfl)) (ro rfl (op_idxAB U_67 Z_3 (Ht rfl) (Ht rfl) rfl (by omega) rfl) (R_st Z_3 (Ht rfl) (Ht rfl) (i := 2) rfl (by rw [mix_len]; omega) rfl ?_)))))))
   refine eZ (fJ (m := 9) (C.D_tmp (Ei := []) rfl rfl rfl bW (new_bslice0 U_69 Z_3 O_3) (dp 5 rfl (cZ (Ht rfl)) (dp 9 rfl (cZ (Ht rfl)) (dqq 40 1 41 2 rfl (op_slice0 U_69 Z_3 (Ht rfl) (Ht rfl) (fun m e => by cases e) (by omega) (by rw [List.length_map]; omega) (Us := ((fRest i (l4 a b c d) j).take kk).map (NT .i64)) (by rw [Int.toNat_natCast, List.map_take])) ?_)))))
   refine C.D_app (Ei := [(42, _)]) 0 true rfl rfl rfl rfl rfl rfl (bV (bG 3 rfl rfl) bW) (fun x43 => A_appendV (inf := Tryz.t3) und_69 info_3 rfl rfl rfl (Ht rfl) (Ht rfl)  (fun T hT => by obtain ⟨x, _, rfl⟩ := List.mem_map.1 hT; exact El.one) (by show _ * 8 ≤ _; simp only [List.length_map, List.length_append, List.length_take, List.length_drop, List.length_nil]; omega) (by simp only [List.length_map, List.length_append, List.length_take, List.length_drop, List.length_nil]; omega)) ?_
   refine dp 5 rfl (cZ (Ht rfl)) (dp 9 rfl (cZ (Ht rfl)) (dq 45 6 rfl (dW (Ht rfl) (cV 1) (by show _ < 9223372036854775808; first | omega | (simp only [lim]; omega))) (dqq 44 5 46 7 rfl (OpTy.imp (op_sliceLo U_69 Z_3 (Ht rfl) (Ht rfl) rfl (by rw [List.length_map]; omega)) (slT_of (Us := ((fRest i (l4 a b c d) j).drop (kk + 1)).map (NT .i64)) (by rw [List.map_drop]))) ?_)))
   refine fW mixed rfl (by kernel_rfl) (C.F_tmp (fun B39 => aJ (aJ (aJ (C.F_new (fun v43 => aJ (aJ (aJ (aJ (aV (R_appendA (inf := Tryz.t3) und_69 info_3 rfl rfl rfl (Ht rfl) (Ht rfl) (i := 3) rfl (fun T hT => by obtain ⟨x, _, rfl⟩ := List.mem_map.1 hT; exact El.one) (by show _ * 8 ≤ _; simp only [List.length_map, List.length_append, List.length_take, List.length_drop, List.length_nil]; omega) (by simp only [List.length_map, List.length_append, List.length_take, List.length_drop, List.length_nil]; omega) rfl (fun v48 => ?_))))))))))))
   refine ra rfl (eZ (T_blk (T_conv 3 rfl (rowO_of (e := 3) (s := 1) (by rw [hnx, List.map_append]; rfl : _ = (fRest i (l4 a b c d) (j + 1)).map (NT .i64))) ?_)))
   refine gV (i := 3) (tt := 5) rfl rfl frz_row (dQ (ro rfl (dW (Ht rfl) (cV 1) (by show _ < 9223372036854775808; first | omega | (simp only [lim]; omega))) (rm rfl (eZ (T_keep [0, 1, 2] rfl (by decide) (fY (j + 1) hj4 (by omega) (aQ rfl (aQ rfl (aQ rfl (aQ rfl (aQ rfl aX))))) (aU (box_of rfl) (aU (box_of rfl) (aU (box_of (by rw [← hfo, show 0 + j * 1 = j by omega]; exact mix_set (f := (fun k => NT .i64 (fOut i (l4 a b c d) k))))) aY)))))))))
  ·obtain rfl : j = 4 := by simp only [decide_eq_false_iff_not] at hk2; omega
   rw [mix_fin]
   refine gW rfl (ts (ro rfl (eW Tryz.isAgg67 Tryz.sizeOf67 (Ht rfl) (i := 2) rfl rfl rfl) (gX Tryz.sizeOf67 (Ht rfl) (Ht rfl) rfl (i := 1) rfl (aK rfl) rfl rfl (eZ ?_))))
   exact fG rfl (fU Tryz.isAgg67 Tryz.sizeOf67 rfl (i := 1) rfl rfl)
end
section
open Go Go.RowKit
theorem c_alike {a : Nat} {zl sl : List Rt} {r : Rt} (ha : a < 256) : Fun Tryz.prog 69 [PartT a zl sl, RatT r] (TupT [NetT ((plZ a [r]).map Rt.q) (rq (plS a sl)), BoolT true]) := by
 have hB := c_Build (a := a) (zl := [r]) (sl := sl) ha
 refine Fun.intro Tryz.func69 rfl Tryz.ntmps69 rfl (fun cx => (ts (rn rfl (fK (Ht rfl)) fun B2 => (rn rfl (fK (Ht rfl)) fun B3 => (rn rfl (eG (Ts := [Is (.slice none 0 0), Is (.slice none 0 0)]) O_30 rfl (fun V => aW ⟨rfl, trivial⟩ (aW ⟨rfl, trivial⟩ (aG)))) fun B4 => (ro rfl (cX cW) (eZ (ts (ro rfl (eW A_91 Z_91 (Ht rfl) (i := 1) rfl rfl rfl) (ro rfl (op_bslice (xs := [.tmp 9]) U_22 Z_91 O_91 (cG (Ht rfl) cK) rfl rfl rfl) (ro rfl (eJ fa_24_1 (Ht rfl) rfl) ?_)))))))))))
 refine R_st Z_22 (Ht rfl) (Ht rfl) (i := 0) rfl (aK rfl) rfl (eZ (ts (ro rfl (eW Tryz.isAgg24 Tryz.sizeOf24 (Ht rfl) (i := 0) rfl rfl rfl) (ro rfl (cJ Tryz.call16 hB ⟨(Ht rfl), trivial⟩) (rm rfl (ro rfl (dU (Ht rfl) rfl) (ro rfl (dU (Ht rfl) rfl) (ro rfl (dU (Ht rfl) rfl) (rn rfl (eG (Ts := [Is (.slice none 0 0), Is (.slice none 0 0)]) O_30 rfl (fun V => aW ⟨rfl, trivial⟩ (aW ⟨rfl, trivial⟩ (aG)))) fun B6 => (rn rfl (eG (Ts := [Is (.slice none 0 0), Is (.slice none 0 0)]) O_34 rfl (fun V => aW ⟨rfl, trivial⟩ (aW ⟨rfl, trivial⟩ (aG)))) fun B7 => ?_))))))))))
 refine gX Z_30 (Ht rfl) (Ht rfl) rfl (i := 3) rfl (aK rfl) rfl rfl (gX Z_34 (Ht rfl) (Ht rfl) rfl (i := 4) rfl (aK rfl) rfl rfl (ra rfl (eZ (ts (ro rfl (eW A_30 Z_30 (Ht rfl) (i := 3) rfl rfl rfl) (rm rfl (gX Z_30 (Ht rfl) (Ht rfl) rfl (i := 2) rfl (aK rfl) rfl rfl (ra rfl (eZ ?_)))))))))
 exact T_ret2 rfl (fU A_30 Z_30 rfl (i := 2) rfl rfl) (eY rfl)
end
section
open Go Go.RowKit
def Sol2 (S : Nat → Nat → Qi) (p q b : Nat) (v0 v1 : Qi) : Prop := v0 = S q b + (S q p * v0 + S q q * v1) ∧ v1 = S p b + (S p p * v0 + S p q * v1)
def Ker2 (S : Nat → Nat → Qi) (p q : Nat) : Prop := ∀ v0 v1 : Qi, v0 = S q p * v0 + S q q * v1 → v1 = S p p * v0 + S p q * v1 → v0 = 0 ∧ v1 = 0
def lin4 (S : Nat → Nat → Qi) (p q r t a : Nat) (u0 u1 u2 u3 : Qi) : Qi := S a p * u0 + S a q * u1 + (S a r * u2 + S a t * u3)
def Sol4 (S : Nat → Nat → Qi) (p q r t b : Nat) (u0 u1 u2 u3 : Qi) : Prop :=
 u0 = S q b + lin4 S p q r t q u0 u1 u2 u3 ∧ u1 = S p b + lin4 S p q r t p u0 u1 u2 u3 ∧ u2 = S t b + lin4 S p q r t t u0 u1 u2 u3 ∧ u3 = S r b + lin4 S p q r t r u0 u1 u2 u3
def Ker4 (S : Nat → Nat → Qi) (p q r t : Nat) : Prop := ∀ u0 u1 u2 u3 : Qi, u0 = lin4 S p q r t q u0 u1 u2 u3 → u1 = lin4 S p q r t p u0 u1 u2 u3 → u2 = lin4 S p q r t t u0 u1 u2 u3 → u3 = lin4 S p q r t r u0 u1 u2 u3 → u0 = 0 ∧ u1 = 0 ∧ u2 = 0 ∧ u3 = 0
theorem slv_iff {M : List (List Qi)} {b : List Qi} {n : Nat} (h : Shp M n n) : slvE M b n = 0 ↔ ∀ y : Nat → Qi, (∀ i, i < n → sumN n (fun k => gm M i k * y k) = 0) → ∀ k, k < n → y k = 0 := by
 constructor
 ·intro e; exact (slv_some h e).2
 ·intro hk
  apply Classical.byContradiction; intro e
  obtain ⟨y, hy, k, hkn, hne⟩ := slv_none h e
  exact hne (hk y hy k hkn)
theorem sumN_2 (f : Nat → Qi) : sumN 2 f = f 0 + f 1 := by simp only [sumN, q0]; grind
theorem sumN_4 (f : Nat → Qi) : sumN 4 f = f 0 + f 1 + (f 2 + f 3) := by simp only [sumN, q0]; grind
section
variable {S : List (List Qi)} {p q r t a b : Nat}
abbrev J1 (p q : Nat) : List (Int × Int) := [(((p + 1 : Nat) : Int), ((q + 1 : Nat) : Int))]
abbrev J2 (p q r t : Nat) : List (Int × Int) := [(((p + 1 : Nat) : Int), ((q + 1 : Nat) : Int)), (((r + 1 : Nat) : Int), ((t + 1 : Nat) : Int))]
theorem p1n (p : Nat) : (((p + 1 : Nat) : Int) - 1).toNat = p := by omega
theorem jps1 : jps (J1 p q) = [(p, q)] := by simp only [jps, J1, List.map_cons, List.map_nil, p1n]
theorem jps2 : jps (J2 p q r t) = [(p, q), (r, t)] := by simp only [jps, J2, List.map_cons, List.map_nil, p1n]
theorem jnL1 : jnL (J1 p q) = [p, q] := by
 have e : jnL (J1 p q) = [(((p + 1 : Nat) : Int) - 1).toNat, (((q + 1 : Nat) : Int) - 1).toNat] := rfl
 rw [e, p1n, p1n]
theorem jnL2 : jnL (J2 p q r t) = [p, q, r, t] := by
 have e : jnL (J2 p q r t) = [(((p + 1 : Nat) : Int) - 1).toNat, (((q + 1 : Nat) : Int) - 1).toNat, (((r + 1 : Nat) : Int) - 1).toNat, (((t + 1 : Nat) : Int) - 1).toNat] := rfl
 rw [e, p1n, p1n, p1n, p1n]
theorem row1 {v : Nat → Qi} : (sumN 2 (fun y => gm (jnM S [(p, q)] 2) 0 y * v y) = v 0 - (gm S q p * v 0 + gm S q q * v 1)) ∧ (sumN 2 (fun y => gm (jnM S [(p, q)] 2) 1 y * v y) = v 1 - (gm S p p * v 0 + gm S p q * v 1)) := by
 rw [jnM_row (by omega), jnM_row (by omega), sumN_2, sumN_2]
 exact ⟨rfl, rfl⟩
theorem row2 {v : Nat → Qi} : (sumN 4 (fun y => gm (jnM S [(p, q), (r, t)] 4) 0 y * v y) = v 0 - lin4 (gm S) p q r t q (v 0) (v 1) (v 2) (v 3)) ∧ (sumN 4 (fun y => gm (jnM S [(p, q), (r, t)] 4) 1 y * v y) = v 1 - lin4 (gm S) p q r t p (v 0) (v 1) (v 2) (v 3)) ∧
  (sumN 4 (fun y => gm (jnM S [(p, q), (r, t)] 4) 2 y * v y) = v 2 - lin4 (gm S) p q r t t (v 0) (v 1) (v 2) (v 3)) ∧ (sumN 4 (fun y => gm (jnM S [(p, q), (r, t)] 4) 3 y * v y) = v 3 - lin4 (gm S) p q r t r (v 0) (v 1) (v 2) (v 3)) := by
 rw [jnM_row (by omega), jnM_row (by omega), jnM_row (by omega), jnM_row (by omega), sumN_4, sumN_4, sumN_4, sumN_4]
 exact ⟨rfl, rfl, rfl, rfl⟩
theorem sub0 {x y : Qi} (h : x - y = 0) : x = y := by grind
theorem one_iff {bb : List Qi} : slvE (jnM S [(p, q)] 2) bb 2 = 0 ↔ Ker2 (gm S) p q := by
 rw [slv_iff (jnM_shp _ _ _)]
 constructor
 ·intro h v0 v1 h0 h1
  have hk := h (fun k => if k = 0 then v0 else v1) (fun i hi => by
   obtain ⟨r0, r1⟩ := row1 (S := S) (p := p) (q := q) (v := fun k => if k = 0 then v0 else v1)
   have c : i = 0 ∨ i = 1 := by omega
   rcases c with rfl | rfl
   ·rw [r0]; show v0 - (gm S q p * v0 + gm S q q * v1) = 0; clear r0 r1 h; grind
   ·rw [r1]; show v1 - (gm S p p * v0 + gm S p q * v1) = 0; clear r0 r1 h; grind)
  exact ⟨hk 0 (by omega), hk 1 (by omega)⟩
 ·intro h y hy
  obtain ⟨r0, r1⟩ := row1 (S := S) (p := p) (q := q) (v := y)
  obtain ⟨a0, a1⟩ := h (y 0) (y 1) (sub0 (by rw [← r0]; exact hy 0 (by omega))) (sub0 (by rw [← r1]; exact hy 1 (by omega)))
  intro k hk
  have c : k = 0 ∨ k = 1 := by omega
  rcases c with rfl | rfl
  ·exact a0
  ·exact a1
theorem two_iff {bb : List Qi} : slvE (jnM S [(p, q), (r, t)] 4) bb 4 = 0 ↔ Ker4 (gm S) p q r t := by
 rw [slv_iff (jnM_shp _ _ _)]
 constructor
 ·intro h u0 u1 u2 u3 h0 h1 h2 h3
  have hk := h (fun k => if k = 0 then u0 else if k = 1 then u1 else if k = 2 then u2 else u3) (fun i hi => by
   obtain ⟨r0, r1, r2, r3⟩ := row2 (S := S) (p := p) (q := q) (r := r) (t := t) (v := fun k => if k = 0 then u0 else if k = 1 then u1 else if k = 2 then u2 else u3)
   have c : i = 0 ∨ i = 1 ∨ i = 2 ∨ i = 3 := by omega
   rcases c with rfl | rfl | rfl | rfl
   ·rw [r0]; show u0 - lin4 (gm S) p q r t q u0 u1 u2 u3 = 0; rw [← h0]; clear r0 r1 r2 r3 h; grind
   ·rw [r1]; show u1 - lin4 (gm S) p q r t p u0 u1 u2 u3 = 0; rw [← h1]; clear r0 r1 r2 r3 h; grind
   ·rw [r2]; show u2 - lin4 (gm S) p q r t t u0 u1 u2 u3 = 0; rw [← h2]; clear r0 r1 r2 r3 h; grind
   ·rw [r3]; show u3 - lin4 (gm S) p q r t r u0 u1 u2 u3 = 0; rw [← h3]; clear r0 r1 r2 r3 h; grind)
  exact ⟨hk 0 (by omega), hk 1 (by omega), hk 2 (by omega), hk 3 (by omega)⟩
 ·intro h y hy
  obtain ⟨r0, r1, r2, r3⟩ := row2 (S := S) (p := p) (q := q) (r := r) (t := t) (v := y)
  obtain ⟨a0, a1, a2, a3⟩ := h (y 0) (y 1) (y 2) (y 3) (sub0 (by rw [← r0]; exact hy 0 (by omega))) (sub0 (by rw [← r1]; exact hy 1 (by omega))) (sub0 (by rw [← r2]; exact hy 2 (by omega))) (sub0 (by rw [← r3]; exact hy 3 (by omega)))
  intro k hk
  have c : k = 0 ∨ k = 1 ∨ k = 2 ∨ k = 3 := by omega
  rcases c with rfl | rfl | rfl | rfl
  ·exact a0
  ·exact a1
  ·exact a2
  ·exact a3
theorem one_X (h : Ker2 (gm S) p q) : ∃ v0 v1, Sol2 (gm S) p q b v0 v1 ∧ ∀ a, jnX S [(p, q)] 2 a b = gm S a b + (gm S a p * v0 + gm S a q * v1) := by
 have hs := (slv_some (jnM_shp S [(p, q)] 2) (one_iff (bb := jnB S [(p, q)] 2 b) |>.2 h)).1
 obtain ⟨r0, r1⟩ := row1 (S := S) (p := p) (q := q) (v := gv (slvX (jnM S [(p, q)] 2) (jnB S [(p, q)] 2 b) 2))
 have h0 := hs 0 (by omega)
 have h1 := hs 1 (by omega)
 rw [r0, jnB_at (by omega)] at h0
 rw [r1, jnB_at (by omega)] at h1
 refine ⟨gv (slvX (jnM S [(p, q)] 2) (jnB S [(p, q)] 2 b) 2) 0, gv (slvX (jnM S [(p, q)] 2) (jnB S [(p, q)] 2 b) 2) 1, ⟨?_, ?_⟩, fun a => ?_⟩
 ·have e : gm S (gq [(p, q)] (prt 0)) b = gm S q b := rfl
  rw [e] at h0; clear r0 r1 hs h h1; grind
 ·have e : gm S (gq [(p, q)] (prt 1)) b = gm S p b := rfl
  rw [e] at h1; clear r0 r1 hs h h0; grind
 ·rw [jnX, sumN_2]; rfl
theorem two_X (h : Ker4 (gm S) p q r t) : ∃ u0 u1 u2 u3, Sol4 (gm S) p q r t b u0 u1 u2 u3 ∧ ∀ a, jnX S [(p, q), (r, t)] 4 a b = gm S a b + lin4 (gm S) p q r t a u0 u1 u2 u3 := by
 have hs := (slv_some (jnM_shp S [(p, q), (r, t)] 4) (two_iff (bb := jnB S [(p, q), (r, t)] 4 b) |>.2 h)).1
 obtain ⟨r0, r1, r2, r3⟩ := row2 (S := S) (p := p) (q := q) (r := r) (t := t) (v := gv (slvX (jnM S [(p, q), (r, t)] 4) (jnB S [(p, q), (r, t)] 4 b) 4))
 have h0 := hs 0 (by omega)
 have h1 := hs 1 (by omega)
 have h2 := hs 2 (by omega)
 have h3 := hs 3 (by omega)
 rw [r0, jnB_at (by omega)] at h0
 rw [r1, jnB_at (by omega)] at h1
 rw [r2, jnB_at (by omega)] at h2
 rw [r3, jnB_at (by omega)] at h3
 clear r0 r1 r2 r3 hs h
 refine ⟨gv (slvX (jnM S [(p, q), (r, t)] 4) (jnB S [(p, q), (r, t)] 4 b) 4) 0, gv (slvX (jnM S [(p, q), (r, t)] 4) (jnB S [(p, q), (r, t)] 4 b) 4) 1, gv (slvX (jnM S [(p, q), (r, t)] 4) (jnB S [(p, q), (r, t)] 4 b) 4) 2, gv (slvX (jnM S [(p, q), (r, t)] 4) (jnB S [(p, q), (r, t)] 4 b) 4) 3, ⟨?_, ?_, ?_, ?_⟩, fun a => ?_⟩
 ·rw [show gm S (gq [(p, q), (r, t)] (prt 0)) b = gm S q b from rfl] at h0; clear h1 h2 h3; grind
 ·rw [show gm S (gq [(p, q), (r, t)] (prt 1)) b = gm S p b from rfl] at h1; clear h0 h2 h3; grind
 ·rw [show gm S (gq [(p, q), (r, t)] (prt 2)) b = gm S t b from rfl] at h2; clear h1 h0 h3; grind
 ·rw [show gm S (gq [(p, q), (r, t)] (prt 3)) b = gm S r b from rfl] at h3; clear h1 h2 h0; grind
 ·rw [jnX, sumN_4]; rfl
end
section
variable {S : Nat → Nat → Qi} {p q r t a b : Nat}
theorem sol4_uniq (h : Ker4 S p q r t) {v0 v1 v2 v3 w0 w1 w2 w3 : Qi} (hv : Sol4 S p q r t b v0 v1 v2 v3) (hw : Sol4 S p q r t b w0 w1 w2 w3) : v0 = w0 ∧ v1 = w1 ∧ v2 = w2 ∧ v3 = w3 := by
 obtain ⟨a1, a2, a3, a4⟩ := hv
 obtain ⟨b1, b2, b3, b4⟩ := hw
 obtain ⟨c1, c2, c3, c4⟩ := h (v0 - w0) (v1 - w1) (v2 - w2) (v3 - w3) (by clear h a2 a3 a4 b2 b3 b4; unfold lin4 at *; grind) (by clear h a1 a3 a4 b1 b3 b4; unfold lin4 at *; grind) (by clear h a1 a2 a4 b1 b2 b4; unfold lin4 at *; grind) (by clear h a1 a2 a3 b1 b2 b3; unfold lin4 at *; grind)
 exact ⟨sub0 c1, sub0 c2, sub0 c3, sub0 c4⟩
theorem lin4_swap {u0 u1 u2 u3 : Qi} : lin4 S p q r t a u0 u1 u2 u3 = lin4 S r t p q a u2 u3 u0 u1 := by unfold lin4; grind
theorem lin4_turn {u0 u1 u2 u3 : Qi} : lin4 S p q r t a u0 u1 u2 u3 = lin4 S t r p q a u3 u2 u0 u1 := by unfold lin4; grind
theorem ker4_swap (h : Ker4 S p q r t) : Ker4 S r t p q := fun u0 u1 u2 u3 h0 h1 h2 h3 => by
 rw [lin4_swap] at h0 h1 h2 h3
 obtain ⟨a, b, c, d⟩ := h u2 u3 u0 u1 h2 h3 h0 h1
 exact ⟨c, d, a, b⟩
theorem ker4_turn (h : Ker4 S p q r t) : Ker4 S t r p q := fun u0 u1 u2 u3 h0 h1 h2 h3 => by
 have e : ∀ a, lin4 S t r p q a u0 u1 u2 u3 = lin4 S p q r t a u2 u3 u1 u0 := fun a => lin4_turn.symm
 rw [e] at h0 h1 h2 h3
 obtain ⟨a, b, c, d⟩ := h u2 u3 u1 u0 h2 h3 h1 h0
 exact ⟨d, c, a, b⟩
theorem ker4_turn' (h : Ker4 S t r p q) : Ker4 S p q r t := fun u0 u1 u2 u3 h0 h1 h2 h3 => by
 rw [lin4_turn] at h0 h1 h2 h3
 obtain ⟨a, b, c, d⟩ := h u3 u2 u0 u1 h3 h2 h0 h1
 exact ⟨c, d, b, a⟩
def S1 (S : Nat → Nat → Qi) (p q : Nat) (V : Nat → Qi × Qi) (a b : Nat) : Qi := S a b + (S a p * (V b).1 + S a q * (V b).2)
variable {V : Nat → Qi × Qi}
theorem seq_sol (hV : ∀ b, Sol2 S p q b (V b).1 (V b).2) {w2 w3 : Qi} (h : Sol2 (S1 S p q V) r t b w2 w3) : Sol4 S p q r t b ((V b).1 + ((V r).1 * w2 + (V t).1 * w3)) ((V b).2 + ((V r).2 * w2 + (V t).2 * w3)) w2 w3 := by
 obtain ⟨b1, b2⟩ := hV b
 obtain ⟨r1, r2⟩ := hV r
 obtain ⟨t1, t2⟩ := hV t
 obtain ⟨h1, h2⟩ := h
 unfold S1 at h1 h2
 generalize V b = vb at *
 generalize V r = vr at *
 generalize V t = vt at *
 clear hV
 refine ⟨?_, ?_, ?_, ?_⟩
 ·clear h1 h2 b2 r2 t2
  have e : vb.1 + (vr.1 * w2 + vt.1 * w3) = (S q b + (S q p * vb.1 + S q q * vb.2)) + ((S q r + (S q p * vr.1 + S q q * vr.2)) * w2 + (S q t + (S q p * vt.1 + S q q * vt.2)) * w3) := by rw [← b1, ← r1, ← t1]
  unfold lin4
  clear b1 r1 t1
  grind
 ·clear h1 h2 b1 r1 t1
  have e : vb.2 + (vr.2 * w2 + vt.2 * w3) = (S p b + (S p p * vb.1 + S p q * vb.2)) + ((S p r + (S p p * vr.1 + S p q * vr.2)) * w2 + (S p t + (S p p * vt.1 + S p q * vt.2)) * w3) := by rw [← b2, ← r2, ← t2]
  unfold lin4
  clear b2 r2 t2
  grind
 ·clear h2 b1 r1 t1 b2 r2 t2; unfold lin4; grind
 ·clear h1 b1 r1 t1 b2 r2 t2; unfold lin4; grind
theorem seq_val {w2 w3 : Qi} : S1 S p q V a b + (S1 S p q V a r * w2 + S1 S p q V a t * w3) = S a b + lin4 S p q r t a ((V b).1 + ((V r).1 * w2 + (V t).1 * w3)) ((V b).2 + ((V r).2 * w2 + (V t).2 * w3)) w2 w3 := by
 unfold S1 lin4; grind
theorem seq_ker (hV : ∀ b, Sol2 S p q b (V b).1 (V b).2) (hk : Ker2 S p q) : Ker4 S p q r t ↔ Ker2 (S1 S p q V) r t := by
 obtain ⟨r1, r2⟩ := hV r
 obtain ⟨t1, t2⟩ := hV t
 generalize hvr : V r = vr at *
 generalize hvt : V t = vt at *
 constructor
 ·intro h w2 w3 h1 h2
  have e : ∀ a, S1 S p q V a r * w2 + S1 S p q V a t * w3 = lin4 S p q r t a (vr.1 * w2 + vt.1 * w3) (vr.2 * w2 + vt.2 * w3) w2 w3 := fun a => by unfold S1 lin4; rw [hvr, hvt]; clear h h1 h2 r1 r2 t1 t2 hk hV; grind
  rw [e] at h1 h2
  have k := h (vr.1 * w2 + vt.1 * w3) (vr.2 * w2 + vt.2 * w3) w2 w3 (by
   have e1 : vr.1 * w2 + vt.1 * w3 = (S q r + (S q p * vr.1 + S q q * vr.2)) * w2 + (S q t + (S q p * vt.1 + S q q * vt.2)) * w3 := by rw [← r1, ← t1]
   unfold lin4; clear h h1 h2 r1 r2 t1 t2 hk hV e; grind) (by
   have e1 : vr.2 * w2 + vt.2 * w3 = (S p r + (S p p * vr.1 + S p q * vr.2)) * w2 + (S p t + (S p p * vt.1 + S p q * vt.2)) * w3 := by rw [← r2, ← t2]
   unfold lin4; clear h h1 h2 r1 r2 t1 t2 hk hV e; grind) h1 h2
  exact ⟨k.2.2.1, k.2.2.2⟩
 ·intro h u0 u1 u2 u3 h0 h1 h2 h3
  have k := hk (u0 - (vr.1 * u2 + vt.1 * u3)) (u1 - (vr.2 * u2 + vt.2 * u3)) (by
   have e1 : vr.1 * u2 + vt.1 * u3 = (S q r + (S q p * vr.1 + S q q * vr.2)) * u2 + (S q t + (S q p * vt.1 + S q q * vt.2)) * u3 := by rw [← r1, ← t1]
   unfold lin4 at h0; clear h h1 h2 h3 r1 r2 t1 t2 hk hV; grind) (by
   have e1 : vr.2 * u2 + vt.2 * u3 = (S p r + (S p p * vr.1 + S p q * vr.2)) * u2 + (S p t + (S p p * vt.1 + S p q * vt.2)) * u3 := by rw [← r2, ← t2]
   unfold lin4 at h1; clear h h0 h2 h3 r1 r2 t1 t2 hk hV; grind)
  have k0 := sub0 k.1
  have k1 := sub0 k.2
  have e : ∀ a, S1 S p q V a r * u2 + S1 S p q V a t * u3 = lin4 S p q r t a u0 u1 u2 u3 := fun a => by unfold S1 lin4; rw [hvr, hvt, k0, k1]; clear h h0 h1 h2 h3 r1 r2 t1 t2 hk hV k k0 k1; grind
  obtain ⟨m1, m2⟩ := h u2 u3 (by rw [e]; exact h2) (by rw [e]; exact h3)
  rw [m1, m2] at k0 k1
  exact ⟨by rw [k0]; grind, by rw [k1]; grind, m1, m2⟩
end
end
section
open Go Go.RowKit
def low (c a b : Nat) : Nat := c - (if a < c then 1 else 0) - (if b < c then 1 else 0)
def okP (N p q r t : Nat) : Bool :=
 decide ((lfG [p, q] N).length = N - 2) && decide (low r p q < N - 2) && decide (low t p q < N - 2) && decide (low r p q ≠ low t p q) && decide (qat (lfG [p, q] N) (low r p q) = r) && decide (qat (lfG [p, q] N) (low t p q) = t)
 && decide ((lfG [low r p q, low t p q] (N - 2)).map (qat (lfG [p, q] N)) = lfG [p, q, r, t] N) && decide ((lfG [p, q, r, t] N).length = N - 4) && decide (lfG [t, r, p, q] N = lfG [p, q, r, t] N) && decide (lfG [r, t, p, q] N = lfG [p, q, r, t] N)
def okA : Bool := (List.range 9).all fun N => (List.range N).all fun p => (List.range N).all fun q => (List.range N).all fun r => (List.range N).all fun t =>
 decide (p = q) || decide (p = r) || decide (p = t) || decide (q = r) || decide (q = t) || decide (r = t) || okP N p q r t
theorem okA_true : okA = true := by decide +kernel
structure Four (N p q r t : Nat) : Prop where
 hp : p < N
 hq : q < N
 hr : r < N
 ht : t < N
 pq : p ≠ q
 pr : p ≠ r
 pt : p ≠ t
 qr : q ≠ r
 qt : q ≠ t
 rt : r ≠ t
theorem okP_true {N p q r t : Nat} (h8 : N ≤ 8) (h : Four N p q r t) : okP N p q r t = true := by
 have a := okA_true
 simp only [okA, List.all_eq_true, List.mem_range, Bool.or_eq_true, decide_eq_true_eq] at a
 have b := a N (by omega) p h.hp q h.hq r h.hr t h.ht
 rcases b with (((((b | b) | b) | b) | b) | b) | b
 ·exact absurd b h.pq
 ·exact absurd b h.pr
 ·exact absurd b h.pt
 ·exact absurd b h.qr
 ·exact absurd b h.qt
 ·exact absurd b h.rt
 ·exact b
structure OkP (N p q r t : Nat) : Prop where
 len2 : (lfG [p, q] N).length = N - 2
 lr : low r p q < N - 2
 lt : low t p q < N - 2
 ne : low r p q ≠ low t p q
 gr : qat (lfG [p, q] N) (low r p q) = r
 gt : qat (lfG [p, q] N) (low t p q) = t
 lft : (lfG [low r p q, low t p q] (N - 2)).map (qat (lfG [p, q] N)) = lfG [p, q, r, t] N
 len4 : (lfG [p, q, r, t] N).length = N - 4
 trn : lfG [t, r, p, q] N = lfG [p, q, r, t] N
 swp : lfG [r, t, p, q] N = lfG [p, q, r, t] N
theorem okP_of {N p q r t : Nat} (h8 : N ≤ 8) (h : Four N p q r t) : OkP N p q r t := by
 have a := okP_true h8 h
 simp only [okP, Bool.and_eq_true, decide_eq_true_eq] at a
 obtain ⟨⟨⟨⟨⟨⟨⟨⟨⟨a1, a2⟩, a3⟩, a4⟩, a5⟩, a6⟩, a7⟩, a8⟩, a9⟩, a10⟩ := a
 exact ⟨a1, a2, a3, a4, a5, a6, a7, a8, a9, a10⟩
theorem Four.swap {N p q r t : Nat} (h : Four N p q r t) : Four N r t p q := ⟨h.hr, h.ht, h.hp, h.hq, h.rt, h.pr.symm, h.qr.symm, h.pt.symm, h.qt.symm, h.pq⟩
theorem Four.turn {N p q r t : Nat} (h : Four N p q r t) : Four N t r p q := ⟨h.ht, h.hr, h.hp, h.hq, h.rt.symm, h.pt.symm, h.qt.symm, h.pr.symm, h.qr.symm, h.pq⟩
theorem fresh_nat {n p : Nat} {l : List Nat} (hp : p < n) (h : p ∉ l) : freshE n ((p + 1 : Nat) : Int) (l.map fun (x : Nat) => ((x + 1 : Nat) : Int)) = 0 := by
 rw [freshE, if_neg (fun k => k ⟨by omega, by omega⟩), if_neg]
 simp only [List.any_map, List.any_eq_true, Function.comp, decide_eq_true_eq]
 rintro ⟨x, hx, e⟩
 exact h ((show x = p by omega) ▸ hx)
section
variable {z : List Qi} {S : List (List Qi)} {N p q r t : Nat} {ζ : Qi}
theorem jst_of {js : List (Int × Int)} {k : Nat} {a b : Nat} {l : List Nat} (hk : jat js k = (((a + 1 : Nat) : Int), ((b + 1 : Nat) : Int))) (hl : jfl (js.take k) = l.map fun (x : Nat) => ((x + 1 : Nat) : Int)) (ha : a < z.length) (hb : b < z.length) (hal : a ∉ l) (hbl : b ∉ l) (hab : a ≠ b) (hz : gv z a = gv z b) : jstE z js k = 0 := by
 have e2 : (l.map fun (x : Nat) => ((x + 1 : Nat) : Int)) ++ [((a + 1 : Nat) : Int)] = (l ++ [a]).map fun (x : Nat) => ((x + 1 : Nat) : Int) := by simp
 rw [jstE, hk, hl]
 simp only []
 rw [e2, fresh_nat ha hal, fresh_nat hb (by simp only [List.mem_append, List.mem_singleton]; rintro (k | k); exact hbl k; exact hab k.symm), p1n, p1n, if_pos hz]; rfl
theorem jd_one (hz : z.length = N) (hp : p < N) (hq : q < N) (hpq : p ≠ q) (hζ : ∀ i, i < N → gv z i = ζ) : jdE z (J1 p q) = 0 := firstE_none fun i hi => by
 obtain rfl : i = 0 := by simp at hi; omega
 exact jst_of (l := []) rfl rfl (by omega) (by omega) (by simp) (by simp) hpq (by rw [hζ p hp, hζ q hq])
theorem jd_two (hz : z.length = N) (h : Four N p q r t) (hζ : ∀ i, i < N → gv z i = ζ) : jdE z (J2 p q r t) = 0 := firstE_none fun i hi => by
 have c : i = 0 ∨ i = 1 := by simp at hi; omega
 rcases c with rfl | rfl
 ·exact jst_of (l := []) rfl rfl (by have := h.hp; omega) (by have := h.hq; omega) (by simp) (by simp) h.pq (by rw [hζ p h.hp, hζ q h.hq])
 ·exact jst_of (l := [p, q]) rfl rfl (by have := h.hr; omega) (by have := h.ht; omega) (by simp; exact ⟨h.pr.symm, h.qr.symm⟩) (by simp; exact ⟨h.pt.symm, h.qt.symm⟩) h.rt (by rw [hζ r h.hr, hζ t h.ht])
theorem first_iff {f : Nat → Int} {n : Nat} {P : Prop} (hn : 1 ≤ n) (h : ∀ i, f i = 0 ↔ P) : firstE f n = 0 ↔ P :=
 ⟨fun e => (h 0).1 (firstE_zero e 0 (by omega)), fun k => firstE_none fun i _ => (h i).2 k⟩
theorem jnF1 : jnF z (J1 p q) = lfG [p, q] z.length := by rw [jnF, jnL1]
theorem jnF2 : jnF z (J2 p q r t) = lfG [p, q, r, t] z.length := by rw [jnF, jnL2]
theorem e_one (hz : z.length = N) (h3 : 3 ≤ N) (hp : p < N) (hq : q < N) (hpq : p ≠ q) (hl : 1 ≤ (lfG [p, q] N).length) (hζ : ∀ i, i < N → gv z i = ζ) : (jnE z S (J1 p q) = 0 ↔ Ker2 (gm S) p q) ∧ (jnE z S (J1 p q) = 0 ∨ jnE z S (J1 p q) = 6) := by
 have hj : jeE z (J1 p q) = 0 := je_ok (jd_one hz hp hq hpq hζ) (by show ¬ (0 < 2 * 1 ∧ 2 * 1 = z.length); omega)
 have hs := jn_sol (S := S) hj (by simp)
 have hi : jslE z S (J1 p q) = 0 ↔ Ker2 (gm S) p q := by
  have e : jslE z S (J1 p q) = firstE (fun y => slvE (jnM S (jps (J1 p q)) 2) (jnB S (jps (J1 p q)) 2 ((jnF z (J1 p q)).getD y 0)) 2) (jnF z (J1 p q)).length := rfl
  rw [e, jnF1, hz]
  exact first_iff hl fun i => by rw [jps1]; exact one_iff
 rw [hs]
 by_cases c : jslE z S (J1 p q) = 0
 ·rw [if_pos c]; exact ⟨⟨fun _ => hi.1 c, fun _ => rfl⟩, .inl rfl⟩
 ·rw [if_neg c]; exact ⟨⟨fun h => by omega, fun h => absurd (hi.2 h) c⟩, .inr rfl⟩
theorem e_two (hz : z.length = N) (h5 : 5 ≤ N) (h : Four N p q r t) (hl : 1 ≤ (lfG [p, q, r, t] N).length) (hζ : ∀ i, i < N → gv z i = ζ) : (jnE z S (J2 p q r t) = 0 ↔ Ker4 (gm S) p q r t) ∧ (jnE z S (J2 p q r t) = 0 ∨ jnE z S (J2 p q r t) = 6) := by
 have hj : jeE z (J2 p q r t) = 0 := je_ok (jd_two hz h hζ) (by show ¬ (0 < 2 * 2 ∧ 2 * 2 = z.length); omega)
 have hs := jn_sol (S := S) hj (by simp)
 have hi : jslE z S (J2 p q r t) = 0 ↔ Ker4 (gm S) p q r t := by
  have e : jslE z S (J2 p q r t) = firstE (fun y => slvE (jnM S (jps (J2 p q r t)) 4) (jnB S (jps (J2 p q r t)) 4 ((jnF z (J2 p q r t)).getD y 0)) 4) (jnF z (J2 p q r t)).length := rfl
  rw [e, jnF2, hz]
  exact first_iff hl fun i => by rw [jps2]; exact two_iff
 rw [hs]
 by_cases c : jslE z S (J2 p q r t) = 0
 ·rw [if_pos c]; exact ⟨⟨fun _ => hi.1 c, fun _ => rfl⟩, .inl rfl⟩
 ·rw [if_neg c]; exact ⟨⟨fun h => by omega, fun h => absurd (hi.2 h) c⟩, .inr rfl⟩
theorem s_one (h : jnE z S (J1 p q) = 0) : jnS z S (J1 p q) = (tab (lfG [p, q] z.length).length fun x => tab (lfG [p, q] z.length).length fun y => jnX S [(p, q)] 2 (qat (lfG [p, q] z.length) x) (qat (lfG [p, q] z.length) y)) ∧ jnZ z S (J1 p q) = subZ z (lfG [p, q] z.length) := by
 have e : jnS0 z S (J1 p q) = tab (jnF z (J1 p q)).length fun x => tab (jnF z (J1 p q)).length fun y => jnX S (jps (J1 p q)) 2 (qat (jnF z (J1 p q)) x) (qat (jnF z (J1 p q)) y) := rfl
 constructor
 ·rw [jnS, okL, if_pos h, if_neg (by simp), e, jnF1, jps1]
 ·rw [jnZ, okL, if_pos h, if_neg (by simp), jnZ0, jnF1]
theorem s_two (h : jnE z S (J2 p q r t) = 0) : jnS z S (J2 p q r t) = (tab (lfG [p, q, r, t] z.length).length fun x => tab (lfG [p, q, r, t] z.length).length fun y => jnX S [(p, q), (r, t)] 4 (qat (lfG [p, q, r, t] z.length) x) (qat (lfG [p, q, r, t] z.length) y)) ∧ jnZ z S (J2 p q r t) = subZ z (lfG [p, q, r, t] z.length) := by
 have e : jnS0 z S (J2 p q r t) = tab (jnF z (J2 p q r t)).length fun x => tab (jnF z (J2 p q r t)).length fun y => jnX S (jps (J2 p q r t)) 4 (qat (jnF z (J2 p q r t)) x) (qat (jnF z (J2 p q r t)) y) := rfl
 constructor
 ·rw [jnS, okL, if_pos h, if_neg (by simp), e, jnF2, jps2]
 ·rw [jnZ, okL, if_pos h, if_neg (by simp), jnZ0, jnF2]
theorem bad_two {js : List (Int × Int)} (h : jnE z S js ≠ 0) : jnS z S js = [] ∧ jnZ z S js = [] := by rw [jnS, jnZ, okL, okL, if_neg h, if_neg h]; exact ⟨rfl, rfl⟩
theorem two_same {p' q' r' t' : Nat} (hz : z.length = N) (h5 : 5 ≤ N) (h : Four N p q r t) (h' : Four N p' q' r' t') (hl : 1 ≤ (lfG [p, q, r, t] N).length) (hL : lfG [p', q', r', t'] N = lfG [p, q, r, t] N) (hζ : ∀ i, i < N → gv z i = ζ)
  (hk : Ker4 (gm S) p' q' r' t' ↔ Ker4 (gm S) p q r t)
  (hv : Ker4 (gm S) p q r t → ∀ a b u0 u1 u2 u3, Sol4 (gm S) p q r t b u0 u1 u2 u3 → ∀ v0 v1 v2 v3, Sol4 (gm S) p' q' r' t' b v0 v1 v2 v3 → lin4 (gm S) p' q' r' t' a v0 v1 v2 v3 = lin4 (gm S) p q r t a u0 u1 u2 u3) :
  jnE z S (J2 p' q' r' t') = jnE z S (J2 p q r t) ∧ jnZ z S (J2 p' q' r' t') = jnZ z S (J2 p q r t) ∧ jnS z S (J2 p' q' r' t') = jnS z S (J2 p q r t) := by
 obtain ⟨i1, o1⟩ := e_two (S := S) hz h5 h hl hζ
 obtain ⟨i2, o2⟩ := e_two (S := S) hz h5 h' (by rw [hL]; exact hl) hζ
 by_cases c : Ker4 (gm S) p q r t
 ·have c' := hk.2 c
  have e1 := i1.2 c
  have e2 := i2.2 c'
  obtain ⟨s1, z1⟩ := s_two e1
  obtain ⟨s2, z2⟩ := s_two e2
  rw [hz] at s1 z1 s2 z2
  rw [hL] at s2 z2
  refine ⟨by rw [e1, e2], by rw [z1, z2], ?_⟩
  rw [s1, s2]
  refine tab_congr fun x _ => tab_congr fun y _ => ?_
  obtain ⟨u0, u1, u2, u3, hu, eu⟩ := two_X (b := qat (lfG [p, q, r, t] N) y) c
  obtain ⟨v0, v1, v2, v3, hv', ev⟩ := two_X (b := qat (lfG [p, q, r, t] N) y) c'
  rw [eu, ev, hv c _ _ _ _ _ _ hu _ _ _ _ hv']
 ·have e1 : jnE z S (J2 p q r t) = 6 := o1.resolve_left fun k => c (i1.1 k)
  have e2 : jnE z S (J2 p' q' r' t') = 6 := o2.resolve_left fun k => c (hk.1 (i2.1 k))
  obtain ⟨b1, b2⟩ := bad_two (show jnE z S (J2 p q r t) ≠ 0 by omega)
  obtain ⟨b3, b4⟩ := bad_two (show jnE z S (J2 p' q' r' t') ≠ 0 by omega)
  exact ⟨by rw [e1, e2], by rw [b2, b4], by rw [b1, b3]⟩
theorem ord_turn (hz : z.length = N) (h5 : 5 ≤ N) (h8 : N ≤ 8) (h : Four N p q r t) (hζ : ∀ i, i < N → gv z i = ζ) :
  jnE z S (J2 t r p q) = jnE z S (J2 p q r t) ∧ jnZ z S (J2 t r p q) = jnZ z S (J2 p q r t) ∧ jnS z S (J2 t r p q) = jnS z S (J2 p q r t) := by
 have o := okP_of h8 h
 refine two_same hz h5 h h.turn (by rw [o.len4]; omega) o.trn hζ ⟨ker4_turn', ker4_turn⟩ fun hk a b u0 u1 u2 u3 hu v0 v1 v2 v3 hv => ?_
 have e : ∀ a, lin4 (gm S) t r p q a v0 v1 v2 v3 = lin4 (gm S) p q r t a v2 v3 v1 v0 := fun a => lin4_turn.symm
 obtain ⟨a0, a1, a2, a3⟩ := hv
 rw [e] at a0 a1 a2 a3
 obtain ⟨k0, k1, k2, k3⟩ := sol4_uniq hk hu ⟨a2, a3, a1, a0⟩
 rw [e, k0, k1, k2, k3]
theorem ord_swap (hz : z.length = N) (h5 : 5 ≤ N) (h8 : N ≤ 8) (h : Four N p q r t) (hζ : ∀ i, i < N → gv z i = ζ) :
  jnE z S (J2 r t p q) = jnE z S (J2 p q r t) ∧ jnZ z S (J2 r t p q) = jnZ z S (J2 p q r t) ∧ jnS z S (J2 r t p q) = jnS z S (J2 p q r t) := by
 have o := okP_of h8 h
 refine two_same hz h5 h h.swap (by rw [o.len4]; omega) o.swp hζ ⟨ker4_swap, ker4_swap⟩ fun hk a b u0 u1 u2 u3 hu v0 v1 v2 v3 hv => ?_
 have e : ∀ a, lin4 (gm S) r t p q a v0 v1 v2 v3 = lin4 (gm S) p q r t a v2 v3 v0 v1 := fun a => lin4_swap
 obtain ⟨a0, a1, a2, a3⟩ := hv
 rw [e] at a0 a1 a2 a3
 obtain ⟨k0, k1, k2, k3⟩ := sol4_uniq hk hu ⟨a2, a3, a0, a1⟩
 rw [e, k0, k1, k2, k3]
theorem qat_map {l : List Nat} {f : Nat → Nat} {i : Nat} (h : i < l.length) : qat (l.map f) i = f (qat l i) := by simp [qat, List.getD, h]
theorem subZ_all {Q : List Nat} (hQ : ∀ x, x ∈ Q → x < N) (hζ : ∀ i, i < N → gv z i = ζ) : subZ z Q = tab Q.length fun _ => ζ := tab_congr fun i hi => hζ _ (qat_lt hQ hi)
theorem ord_seq (hz : z.length = N) (h5 : 5 ≤ N) (h8 : N ≤ 8) (h : Four N p q r t) (hζ : ∀ i, i < N → gv z i = ζ) (hE : jnE z S (J1 p q) = 0) :
  jnE (jnZ z S (J1 p q)) (jnS z S (J1 p q)) (J1 (low r p q) (low t p q)) = jnE z S (J2 p q r t) ∧ jnZ (jnZ z S (J1 p q)) (jnS z S (J1 p q)) (J1 (low r p q) (low t p q)) = jnZ z S (J2 p q r t) ∧ jnS (jnZ z S (J1 p q)) (jnS z S (J1 p q)) (J1 (low r p q) (low t p q)) = jnS z S (J2 p q r t)
  ∧ (jnZ z S (J1 p q)).length = N - 2 := by
 have o := okP_of h8 h
 obtain ⟨sS, sZ⟩ := s_one hE
 rw [hz] at sS sZ
 have hl2 := o.len2
 have hz1 : jnZ z S (J1 p q) = tab (N - 2) fun _ => ζ := by rw [sZ, subZ_all (fun x hx => lfG_lt hx) hζ, hl2]
 have hk := (e_one (S := S) hz (by omega) h.hp h.hq h.pq (by omega) hζ).1.1 hE
 have hsol : ∀ b, ∃ v : Qi × Qi, Sol2 (gm S) p q b v.1 v.2 ∧ ∀ a, jnX S [(p, q)] 2 a b = gm S a b + (gm S a p * v.1 + gm S a q * v.2) := fun b => by
  obtain ⟨v0, v1, a, b⟩ := one_X (b := b) hk; exact ⟨(v0, v1), a, b⟩
 obtain ⟨V, hV⟩ : ∃ V : Nat → Qi × Qi, ∀ b, Sol2 (gm S) p q b (V b).1 (V b).2 ∧ ∀ a, jnX S [(p, q)] 2 a b = gm S a b + (gm S a p * (V b).1 + gm S a q * (V b).2) := ⟨fun b => Classical.choose (hsol b), fun b => Classical.choose_spec (hsol b)⟩
 have hgm : ∀ i j, i < N - 2 → j < N - 2 → gm (jnS z S (J1 p q)) i j = S1 (gm S) p q V (qat (lfG [p, q] N) i) (qat (lfG [p, q] N) j) := fun i j hi hj => by
  rw [sS, gm_tab (by omega) (by omega), (hV _).2]; rfl
 generalize hzz : jnZ z S (J1 p q) = z1 at *
 generalize hss : jnS z S (J1 p q) = T at *
 have hz1l : z1.length = N - 2 := by rw [hz1, tab_len]
 have hζ1 : ∀ i, i < N - 2 → gv z1 i = ζ := fun i hi => by rw [hz1, gv_tab hi]
 have hll : (lfG [low r p q, low t p q] (N - 2)).length = N - 4 := by rw [← o.len4, ← o.lft, List.length_map]
 obtain ⟨i1, o1⟩ := e_one (S := T) hz1l (by omega) o.lr o.lt o.ne (by omega) hζ1
 obtain ⟨i2, o2⟩ := e_two (S := S) hz h5 h (by rw [o.len4]; omega) hζ
 have k1 : Ker2 (gm T) (low r p q) (low t p q) ↔ Ker2 (S1 (gm S) p q V) r t := by
  unfold Ker2
  rw [hgm _ _ o.lt o.lr, hgm _ _ o.lt o.lt, hgm _ _ o.lr o.lr, hgm _ _ o.lr o.lt, o.gr, o.gt]
 have k2 := seq_ker (r := r) (t := t) (fun b => (hV b).1) hk
 refine ⟨?_, ?_, ?_, hz1l⟩
 ·by_cases c : Ker4 (gm S) p q r t
  ·rw [i2.2 c, i1.2 (k1.2 (k2.1 c))]
  ·rw [o2.resolve_left fun k => c (i2.1 k), o1.resolve_left fun k => c (k2.2 (k1.1 (i1.1 k)))]
 ·by_cases c : Ker4 (gm S) p q r t
  ·obtain ⟨_, zz1⟩ := s_one (i1.2 (k1.2 (k2.1 c)))
   obtain ⟨_, zz2⟩ := s_two (i2.2 c)
   rw [zz1, zz2, hz, hz1l, subZ_all (fun x hx => lfG_lt hx) hζ1, subZ_all (fun x hx => lfG_lt hx) hζ, hll, o.len4]
  ·rw [(bad_two (fun k => c (i2.1 k))).2, (bad_two (fun k => c (k2.2 (k1.1 (i1.1 k))))).2]
 ·by_cases c : Ker4 (gm S) p q r t
  ·obtain ⟨ss1, _⟩ := s_one (i1.2 (k1.2 (k2.1 c)))
   obtain ⟨ss2, _⟩ := s_two (i2.2 c)
   rw [ss1, ss2, hz, hz1l, hll, o.len4]
   refine tab_congr fun x hx => tab_congr fun y hy => ?_
   have gx : qat (lfG [p, q, r, t] N) x = qat (lfG [p, q] N) (qat (lfG [low r p q, low t p q] (N - 2)) x) := by rw [← o.lft, qat_map (by omega)]
   have gy : qat (lfG [p, q, r, t] N) y = qat (lfG [p, q] N) (qat (lfG [low r p q, low t p q] (N - 2)) y) := by rw [← o.lft, qat_map (by omega)]
   have bx : qat (lfG [low r p q, low t p q] (N - 2)) x < N - 2 := qat_lt (fun x hx => lfG_lt hx) (by omega)
   have bY : qat (lfG [low r p q, low t p q] (N - 2)) y < N - 2 := qat_lt (fun x hx => lfG_lt hx) (by omega)
   generalize qat (lfG [low r p q, low t p q] (N - 2)) x = a' at *
   generalize qat (lfG [low r p q, low t p q] (N - 2)) y = b' at *
   rw [gx, gy]
   obtain ⟨w2, w3, hw, ew⟩ := one_X (b := b') (k1.2 (k2.1 c))
   obtain ⟨u0, u1, u2, u3, hu, eu⟩ := two_X (b := qat (lfG [p, q] N) b') c
   rw [ew, eu, hgm _ _ bx bY, hgm _ _ bx o.lr, hgm _ _ bx o.lt, o.gr, o.gt]
   have hw2 : Sol2 (S1 (gm S) p q V) r t (qat (lfG [p, q] N) b') w2 w3 := by
    obtain ⟨a1, a2⟩ := hw
    rw [hgm _ _ o.lt bY, hgm _ _ o.lt o.lr, hgm _ _ o.lt o.lt, o.gr, o.gt] at a1
    rw [hgm _ _ o.lr bY, hgm _ _ o.lr o.lr, hgm _ _ o.lr o.lt, o.gr, o.gt] at a2
    exact ⟨a1, a2⟩
   obtain ⟨e0, e1, e2, e3⟩ := sol4_uniq c hu (seq_sol (fun b => (hV b).1) hw2)
   rw [seq_val, e0, e1, e2, e3]
  ·rw [(bad_two (fun k => c (i2.1 k))).1, (bad_two (fun k => c (k2.2 (k1.1 (i1.1 k))))).1]
end
end
section
open Go Go.RowKit
def Gb (x : Qi) (N : Nat) : Prop := ∃ p q : Int, x = Qi.mk (p : Rat) (q : Rat) ∧ p.natAbs ≤ N ∧ q.natAbs ≤ N
theorem Gb.le {x : Qi} {N M : Nat} (h : Gb x N) (k : N ≤ M) : Gb x M := by
 obtain ⟨p, q, e, h1, h2⟩ := h; exact ⟨p, q, e, by omega, by omega⟩
theorem Gb.add {x y : Qi} {N M : Nat} (h : Gb x N) (k : Gb y M) : Gb (x + y) (N + M) := by
 obtain ⟨p, q, rfl, h1, h2⟩ := h; obtain ⟨r, s, rfl, k1, k2⟩ := k
 refine ⟨p + r, q + s, Qi.ext' ?_ ?_, by omega, by omega⟩
 ·show (p : Rat) + (r : Rat) = ((p + r : Int) : Rat); push_cast; rfl
 ·show (q : Rat) + (s : Rat) = ((q + s : Int) : Rat); push_cast; rfl
theorem Gb.neg {x : Qi} {N : Nat} (h : Gb x N) : Gb (-x) N := by
 obtain ⟨p, q, rfl, h1, h2⟩ := h
 refine ⟨-p, -q, Qi.ext' ?_ ?_, by omega, by omega⟩
 ·show -(p : Rat) = ((-p : Int) : Rat); push_cast; rfl
 ·show -(q : Rat) = ((-q : Int) : Rat); push_cast; rfl
theorem Gb.sub {x y : Qi} {N M : Nat} (h : Gb x N) (k : Gb y M) : Gb (x - y) (N + M) := by rw [Qi.sub_def]; exact h.add k.neg
theorem nat_mul {p q : Int} {N M : Nat} (h : p.natAbs ≤ N) (k : q.natAbs ≤ M) : (p * q).natAbs ≤ N * M := by rw [Int.natAbs_mul]; exact Nat.mul_le_mul h k
theorem Gb.mul {x y : Qi} {N M : Nat} (h : Gb x N) (k : Gb y M) : Gb (x * y) (2 * N * M) := by
 obtain ⟨p, q, rfl, h1, h2⟩ := h; obtain ⟨r, s, rfl, k1, k2⟩ := k
 have a1 := nat_mul h1 k1; have a2 := nat_mul h2 k2; have a3 := nat_mul h1 k2; have a4 := nat_mul h2 k1
 have e : 2 * N * M = N * M + N * M := by rw [Nat.mul_assoc, Nat.two_mul]
 refine ⟨p * r - q * s, p * s + q * r, Qi.ext' ?_ ?_, by omega, by omega⟩
 ·rw [Qi.mul_re]; show (p : Rat) * (r : Rat) - (q : Rat) * (s : Rat) = ((p * r - q * s : Int) : Rat); push_cast; rfl
 ·rw [Qi.mul_im]; show (p : Rat) * (s : Rat) + (q : Rat) * (r : Rat) = ((p * s + q * r : Int) : Rat); push_cast; rfl
theorem Gb.sum {f : Nat → Qi} {N : Nat} : ∀ {n : Nat}, (∀ k, k < n → Gb (f k) N) → Gb (sumN n f) (n * N)
 | 0, _ => ⟨0, 0, Qi.ext' rfl rfl, by simp, by simp⟩
 | n + 1, h => by
  rw [sumN, Nat.succ_mul]
  exact (Gb.sum fun k hk => h k (by omega)).add (h n (by omega))
theorem Gb.fit {x : Qi} {N L : Nat} (h : Gb x N) (hN : N < BB ^ L) (hL : 1 ≤ L) : FitC x L := by
 obtain ⟨p, q, rfl, h1, h2⟩ := h
 have e : Qi.mk (p : Rat) (q : Rat) = Qi.mk' p q 1 := Qi.ext' (by rw [Qi.mk_re]; show (p : Rat) = p / ((1 : Nat) : Rat); grind) (by rw [Qi.mk_im]; show (q : Rat) = q / ((1 : Nat) : Rat); grind)
 rw [e]
 exact ⟨Qi.Fit.mk (by decide) (by omega) (by omega) (Qi.one_lt hL)⟩
theorem sumN_first (n : Nat) (f : Nat → Qi) : sumN (n + 1) f = f 0 + sumN n fun k => f (k + 1) := by
 rw [Nat.add_comm n 1, sumN_app, sumN_one]
 exact congrArg _ (sumN_congr fun k _ => by rw [Nat.add_comm])
def fs : Nat → Nat → Nat
 | 0, _ => 1
 | n + 1, N => 2 * (n + 1) * N * fs n (4 * N * N)
theorem kerF_shift {F : Nat → Nat → Qi} {n : Nat} {x : Nat → Qi} : KerF F (n + 1) (n + 1) x ↔ (F 0 0 * x 0 + sumN n (fun k => F 0 (k + 1) * x (k + 1)) = 0) ∧ ∀ i, i < n → F (i + 1) 0 * x 0 + sumN n (fun k => F (i + 1) (k + 1) * x (k + 1)) = 0 := by
 constructor
 ·intro h
  exact ⟨by have := h 0 (by omega); rwa [sumN_first] at this, fun i hi => by have := h (i + 1) (by omega); rwa [sumN_first] at this⟩
 ·rintro ⟨h1, h2⟩ i hi
  rw [sumN_first]
  cases i with
  | zero => exact h1
  | succ i => exact h2 i (by omega)
theorem sumN_lin (n : Nat) (a b : Qi) (f g x : Nat → Qi) : sumN n (fun k => (a * f k - b * g k) * x k) = a * sumN n (fun k => f k * x k) - b * sumN n (fun k => g k * x k) := by
 induction n with
 | zero => simp only [sumN, q0]; grind
 | succ n ih => simp only [sumN, ih]; grind
theorem sumN_mulr (n : Nat) (a : Qi) (f x : Nat → Qi) : sumN n (fun k => f k * (x k * a)) = a * sumN n (fun k => f k * x k) := by
 induction n with
 | zero => simp only [sumN, q0]; grind
 | succ n ih => simp only [sumN, ih]; grind
theorem ff_step {F : Nat → Nat → Qi} {n N : Nat} (hp : F 0 0 ≠ 0) (hN : 1 ≤ N) (hF : ∀ i, i < n + 1 → ∀ j, j ≤ n + 1 → Gb (F i j) N) (hk : ∀ v, KerF F (n + 1) (n + 1) v → ∀ k, k < n + 1 → v k = 0)
  (ih : ∀ G : Nat → Nat → Qi, (∀ i, i < n → ∀ j, j ≤ n → Gb (G i j) (4 * N * N)) → (∀ v, KerF G n n v → ∀ k, k < n → v k = 0) → ∃ (y : Nat → Qi) (e : Qi), e ≠ 0 ∧ Gb e (fs n (4 * N * N)) ∧ (∀ k, k < n → Gb (y k) (fs n (4 * N * N))) ∧ ∀ i, i < n → sumN n (fun k => G i k * y k) = e * G i n) :
  ∃ (y : Nat → Qi) (e : Qi), e ≠ 0 ∧ Gb e (fs (n + 1) N) ∧ (∀ k, k < n + 1 → Gb (y k) (fs (n + 1) N)) ∧ ∀ i, i < n + 1 → sumN (n + 1) (fun k => F i k * y k) = e * F i (n + 1) := by
 obtain ⟨y, e, he, ge, gy, hy⟩ := ih (fun i j => F 0 0 * F (i + 1) (j + 1) - F (i + 1) 0 * F 0 (j + 1)) (fun i hi j hj => by
   have h1 := (hF 0 (by omega) 0 (by omega)).mul (hF (i + 1) (by omega) (j + 1) (by omega))
   have h2 := (hF (i + 1) (by omega) 0 (by omega)).mul (hF 0 (by omega) (j + 1) (by omega))
   exact (h1.sub h2).le (by rw [show 4 * N * N = 2 * N * N + 2 * N * N by rw [← Nat.add_mul]; congr 1; omega]; exact Nat.le_refl _)) (fun v hv k hkn => by
   have hz := hk (fun k => if k = 0 then -(sumN n fun k => F 0 (k + 1) * v k) else F 0 0 * v (k - 1)) (kerF_shift.2 ⟨by
    simp only [if_true, Nat.add_sub_cancel, if_neg (Nat.succ_ne_zero _)]
    have := sumN_mulr n (F 0 0) (fun k => F 0 (k + 1)) v
    simp only [Qi.mul_comm' _ (F 0 0)] at this ⊢
    rw [this]; grind, fun i hi => by
    simp only [if_true, Nat.add_sub_cancel, if_neg (Nat.succ_ne_zero _)]
    have := sumN_mulr n (F 0 0) (fun k => F (i + 1) (k + 1)) v
    simp only [Qi.mul_comm' _ (F 0 0)] at this ⊢
    rw [this]
    have h := hv i hi
    have h2 := sumN_lin n (F 0 0) (F (i + 1) 0) (fun k => F (i + 1) (k + 1)) (fun k => F 0 (k + 1)) v
    simp only [] at h
    rw [h2] at h
    grind⟩) (k + 1) (by omega)
   simp only [Nat.add_sub_cancel, if_neg (Nat.succ_ne_zero _)] at hz
   rcases mul_zero_or hz with h | h
   ·exact absurd h hp
   ·exact h)
 have hf1 : 1 ≤ fs n (4 * N * N) := by
  apply Decidable.byContradiction; intro h
  have h0 : fs n (4 * N * N) = 0 := by omega
  rw [h0] at ge
  obtain ⟨p, q, e1, p1, p2⟩ := ge
  have hp0 : p = 0 := by omega
  have hq0 : q = 0 := by omega
  exact he (by rw [e1, hp0, hq0]; exact Qi.ext' rfl rfl)
 have hG : fs (n + 1) N = (n + 1) * (2 * fs n (4 * N * N) * N) := by
  rw [fs]; simp only [Nat.mul_comm, Nat.mul_left_comm, Nat.mul_assoc]
 have hG1 : 2 * fs n (4 * N * N) * N ≤ fs (n + 1) N := by rw [hG]; exact Nat.le_mul_of_pos_left _ (by omega)
 refine ⟨fun k => if k = 0 then e * F 0 (n + 1) - sumN n (fun k => F 0 (k + 1) * y k) else y (k - 1) * F 0 0, e * F 0 0, fun h => ?_, ?_, fun k hkn => ?_, fun i hi => ?_⟩
 ·rcases mul_zero_or h with h | h
  ·exact he h
  ·exact hp h
 ·exact (ge.mul (hF 0 (by omega) 0 (by omega))).le hG1
 ·cases k with
  | zero =>
   simp only [if_true]
   have h1 := ge.mul (hF 0 (by omega) (n + 1) (by omega))
   have h2 : Gb (sumN n fun k => F 0 (k + 1) * y k) (n * (2 * N * fs n (4 * N * N))) := Gb.sum fun k hk => (hF 0 (by omega) (k + 1) (by omega)).mul (gy k hk)
   refine (h1.sub h2).le ?_
   have e3 : n * (2 * N * fs n (4 * N * N)) = n * (2 * fs n (4 * N * N) * N) := by simp only [Nat.mul_comm, Nat.mul_left_comm, Nat.mul_assoc]
   have e4 : (n + 1) * (2 * fs n (4 * N * N) * N) = n * (2 * fs n (4 * N * N) * N) + 2 * fs n (4 * N * N) * N := Nat.succ_mul _ _
   rw [hG, e3, e4, Nat.add_comm]; exact Nat.le_refl _
  | succ k =>
   simp only [Nat.add_sub_cancel, if_neg (Nat.succ_ne_zero _)]
   exact ((gy k (by omega)).mul (hF 0 (by omega) 0 (by omega))).le hG1
 ·rw [sumN_first]
  simp only [if_true, Nat.add_sub_cancel, if_neg (Nat.succ_ne_zero _)]
  rw [sumN_mulr n (F 0 0) (fun k => F i (k + 1)) y]
  cases i with
  | zero => grind
  | succ i =>
   have h := hy i (by omega)
   have h2 := sumN_lin n (F 0 0) (F (i + 1) 0) (fun k => F (i + 1) (k + 1)) (fun k => F 0 (k + 1)) y
   rw [h2] at h
   grind
theorem ff_all : ∀ (n N : Nat) (F : Nat → Nat → Qi), 1 ≤ N → (∀ i, i < n → ∀ j, j ≤ n → Gb (F i j) N) → (∀ v, KerF F n n v → ∀ k, k < n → v k = 0) →
  ∃ (y : Nat → Qi) (e : Qi), e ≠ 0 ∧ Gb e (fs n N) ∧ (∀ k, k < n → Gb (y k) (fs n N)) ∧ ∀ i, i < n → sumN n (fun k => F i k * y k) = e * F i n
 | 0, N, F, _, _, _ => ⟨fun _ => 0, 1, fun h => by have := congrArg Qi.re h; revert this; decide, ⟨1, 0, Qi.ext' rfl rfl, by simp [fs], by simp [fs]⟩, fun k hk => by omega, fun i hi => by omega⟩
 | n + 1, N, F, hN, hF, hk => by
  have hpz : ∃ p, p < n + 1 ∧ F p 0 ≠ 0 := by
   apply Classical.byContradiction; intro hno
   have hz : ∀ p, p < n + 1 → F p 0 = 0 := fun p hp => by
    apply Classical.byContradiction; intro h; exact hno ⟨p, hp, h⟩
   have := hk (fun k => if k = 0 then 1 else 0) (fun i hi => by
    rw [sumN_all0]
    intro k hk
    by_cases e : k = 0
    ·subst e; rw [hz i hi]; grind
    ·simp only [if_neg e]; grind) 0 (by omega)
   simp only [if_true] at this
   have := congrArg Qi.re this; revert this; decide
  obtain ⟨p, hp, hpz⟩ := hpz
  have hN4 : 1 ≤ 4 * N * N := Nat.mul_pos (by omega) (by omega)
  obtain ⟨y, e, he, ge, gy, hy⟩ := ff_step (F := fun i => F (tau p 0 i)) (n := n) (N := N) (by simpa [tau] using hpz) hN (fun i hi j hj => hF _ (tau_lt hp (by omega) hi) j hj)
   (fun v hv => hk v ((kerF_tau hp (by omega)).1 hv)) (fun G hG hGk => ff_all n (4 * N * N) G hN4 hG hGk)
  refine ⟨y, e, he, ge, gy, fun i hi => ?_⟩
  have := hy (tau p 0 i) (tau_lt hp (by omega) hi)
  simp only [tau_tau] at this
  exact this
theorem den_mul (x : Qi) : ((x.den : Int) : Rat) * x.re = (x.a : Rat) ∧ ((x.den : Int) : Rat) * x.im = (x.b : Rat) := by
 have h := Qi.nc x.den_pos
 have h2 : ((x.den : Int) : Rat) = (x.den : Rat) := by push_cast; rfl
 rw [h2]
 exact ⟨by rw [Qi.re_eq x]; grind, by rw [Qi.im_eq x]; grind⟩
theorem row_den {L : Nat} {x : Nat → Qi} : ∀ k, (∀ j, j < k → FitC (x j) L) → ∃ d : Nat, 0 < d ∧ d ≤ BB ^ (k * L) ∧ ∀ j, j < k → Gb (Qi.ofInt d * x j) (BB ^ (k * L))
 | 0, _ => ⟨1, by decide, Nat.pow_pos BB_pos, fun j hj => by omega⟩
 | k + 1, h => by
  obtain ⟨d, d0, dl, hd⟩ := row_den k fun j hj => h j (by omega)
  have hx := (h k (by omega)).fit
  have hm := den_mul (x k)
  have hpow : BB ^ ((k + 1) * L) = BB ^ (k * L) * BB ^ L := by rw [Nat.succ_mul, Nat.pow_add]
  refine ⟨d * (x k).den, Nat.mul_pos d0 (x k).den_pos, ?_, fun j hj => ?_⟩
  ·rw [hpow]; exact Nat.mul_le_mul dl (Nat.le_of_lt hx.2.2)
  ·by_cases e : j = k
   ·subst e
    refine ⟨d * (x j).a, d * (x j).b, Qi.ext' ?_ ?_, ?_, ?_⟩
    ·rw [Qi.mul_re]
     show (((d * (x j).den : Nat) : Int) : Rat) * (x j).re - 0 * (x j).im = ((d * (x j).a : Int) : Rat)
     have := hm.1; push_cast at *; grind
    ·rw [Qi.mul_im]
     show (((d * (x j).den : Nat) : Int) : Rat) * (x j).im + 0 * (x j).re = ((d * (x j).b : Int) : Rat)
     have := hm.2; push_cast at *; grind
    ·rw [hpow]; exact nat_mul (by simpa using dl) (Nat.le_of_lt hx.1)
    ·rw [hpow]; exact nat_mul (by simpa using dl) (Nat.le_of_lt hx.2.1)
   ·obtain ⟨p, q, e1, h1, h2⟩ := hd j (by omega)
    have er := congrArg Qi.re e1; have ei := congrArg Qi.im e1
    rw [Qi.mul_re] at er; rw [Qi.mul_im] at ei
    refine ⟨p * (x k).den, q * (x k).den, Qi.ext' ?_ ?_, ?_, ?_⟩
    ·rw [Qi.mul_re]
     have er : ((d : Int) : Rat) * (x j).re - 0 * (x j).im = (p : Rat) := er
     show (((d * (x k).den : Nat) : Int) : Rat) * (x j).re - 0 * (x j).im = ((p * (x k).den : Int) : Rat)
     push_cast at *; grind
    ·rw [Qi.mul_im]
     have ei : ((d : Int) : Rat) * (x j).im + 0 * (x j).re = (q : Rat) := ei
     show (((d * (x k).den : Nat) : Int) : Rat) * (x j).im + 0 * (x j).re = ((q * (x k).den : Int) : Rat)
     push_cast at *; grind
    ·rw [hpow]; exact nat_mul h1 (by simpa using Nat.le_of_lt hx.2.2)
    ·rw [hpow]; exact nat_mul h2 (by simpa using Nat.le_of_lt hx.2.2)
theorem ofNat_ne {d : Nat} (h : 0 < d) : Qi.ofInt d ≠ 0 := fun e => by
 have := congrArg Qi.re e
 have h2 : ((d : Int) : Rat) = ((0 : Int) : Rat) := this
 rw [Rat.intCast_inj] at h2; omega
end
section
open Go Go.RowKit
theorem slv_fitK {M : List (List Qi)} {b : List Qi} {n m L K : Nat} (h : Shp M n n) (hM : FitM M L) (hb : FitL b L) (hL : 1 ≤ L) (hn : n ≤ m) (hbig : fs n (BB ^ ((m + 1) * L)) < BB ^ K) (hK : 1 ≤ K) (hE : slvE M b n = 0) : FitL (slvX M b n) (4 * K + 2) := by
 obtain ⟨s1, s2⟩ := slv_some h hE
 have hrow : ∀ i, ∃ d : Nat, 0 < d ∧ ∀ j, j < n + 1 → Gb (Qi.ofInt d * (if j < n then gm M i j else gv b i)) (BB ^ ((m + 1) * L)) := fun i => by
  obtain ⟨d, d0, _, hd⟩ := row_den (L := L) (x := fun j => if j < n then gm M i j else gv b i) (n + 1) fun j _ => by
   show FitC (if j < n then gm M i j else gv b i) L
   split
   ·exact hM.get hL i j
   ·exact hb.get hL i
  exact ⟨d, d0, fun j hj => (hd j hj).le (Nat.pow_le_pow_right BB_pos (Nat.mul_le_mul_right _ (by omega)))⟩
 have hd : ∃ d : Nat → Nat, ∀ i, 0 < d i ∧ ∀ j, j < n + 1 → Gb (Qi.ofInt (d i) * (if j < n then gm M i j else gv b i)) (BB ^ ((m + 1) * L)) := ⟨fun i => Classical.choose (hrow i), fun i => Classical.choose_spec (hrow i)⟩
 obtain ⟨d, hd⟩ := hd
 have cancel : ∀ {i : Nat} {u : Qi}, Qi.ofInt (d i) * u = 0 → u = 0 := fun {i u} hu => by
  rcases mul_zero_or hu with k | k
  ·exact absurd k (ofNat_ne (hd i).1)
  ·exact k
 have hsum : ∀ (i : Nat) (v : Nat → Qi), sumN n (fun k => Qi.ofInt (d i) * (if k < n then gm M i k else gv b i) * v k) = Qi.ofInt (d i) * sumN n (fun k => gm M i k * v k) := fun i v => by
  rw [Qi.mul_comm', ← sumN_mul]
  exact sumN_congr fun k hk => by rw [if_pos hk]; grind
 have hN : 1 ≤ BB ^ ((m + 1) * L) := Nat.pow_pos BB_pos
 obtain ⟨y, e, he, ge, gy, hy⟩ := ff_all n (BB ^ ((m + 1) * L)) (fun i j => Qi.ofInt (d i) * (if j < n then gm M i j else gv b i)) hN (fun i _ j hj => (hd i).2 j (by omega)) (fun v hv => s2 v fun i hi => by
  have := hv i hi
  simp only [] at this
  rw [hsum] at this
  exact cancel this)
 have hsol : ∀ k, k < n → y k - e * gv (slvX M b n) k = 0 := s2 (fun k => y k - e * gv (slvX M b n) k) fun i hi => by
  have h1 := hy i hi
  rw [hsum, if_neg (by omega)] at h1
  have h2 := s1 i hi
  have h3 : sumN n (fun k => gm M i k * (y k - e * gv (slvX M b n) k)) = sumN n (fun k => gm M i k * y k) - e * sumN n (fun k => gm M i k * gv (slvX M b n) k) := by
   rw [← sumN_sub]; exact sumN_congr fun k _ => by grind
  rw [h3, h2]
  exact cancel (i := i) (by grind)
 intro x hx
 obtain ⟨k, hk, rfl⟩ := List.mem_iff_getElem.1 hx
 rw [slvX_len] at hk
 have hg : (slvX M b n)[k] = gv (slvX M b n) k := by simp [gv, List.getD, slvX_len, hk]
 rw [hg]
 have e1 : gv (slvX M b n) k = y k / e := (eq_div he (by have := hsol k hk; grind)).symm
 haveI f1 : FitC (y k) K := (gy k hk).fit hbig hK
 haveI f2 : FitC e K := ge.fit hbig hK
 rw [e1]
 exact (fitDiv (x := y k) (y := e)).le (by omega)
theorem fs_two (L : Nat) : fs 2 (BB ^ ((2 + 1) * L)) < BB ^ (9 * L + 1) := by
 have hN : 1 ≤ BB ^ ((2 + 1) * L) := Nat.pow_pos BB_pos
 have e : fs 2 (BB ^ ((2 + 1) * L)) = 32 * (BB ^ ((2 + 1) * L)) ^ 3 := by simp only [fs]; generalize BB ^ ((2 + 1) * L) = N; grind
 rw [e, ← Nat.pow_mul, show (2 + 1) * L * 3 = 9 * L by omega, Nat.pow_succ, Nat.mul_comm]
 exact Nat.mul_lt_mul_of_pos_left (by decide) (Nat.pow_pos BB_pos)
theorem jnS1_fit {z : List Qi} {S : List (List Qi)} {p q : Nat} (hf : FitM S 2) (hE : jnE z S (J1 p q) = 0) (hl : ∀ y, y < (jnF z (J1 p q)).length → slvE (jnM S [(p, q)] 2) (jnB S [(p, q)] 2 (qat (jnF z (J1 p q)) y)) 2 = 0) : FitM (jnS z S (J1 p q)) 400 := by
 obtain ⟨hS, _⟩ := s_one hE
 rw [hS]
 refine FitM.tab fun x y _ hy => ?_
 have h1 := slv_fitK (m := 2) (K := 37) (jnM_shp S [(p, q)] 2) (jnM_fit hf (by decide)) ((jnB_fit hf (by decide)).le (by decide)) (by decide) (Nat.le_refl 2) (fs_two 4) (by decide) (hl y (by rw [jnF1]; exact hy))
 rw [jnF1] at h1
 have hq := fun k => h1.get (by decide) k
 rw [jnX]
 haveI g0 : FitC (gm S (qat (lfG [p, q] z.length) x) (qat (lfG [p, q] z.length) y)) 2 := hf.get (by decide) _ _
 haveI g1 : FitC (sumN 2 fun k => gm S (qat (lfG [p, q] z.length) x) (gq [(p, q)] k) * gv (slvX (jnM S [(p, q)] 2) (jnB S [(p, q)] 2 (qat (lfG [p, q] z.length) y)) 2) k) (1 + 2 * (153 + 1)) := FitC.sum fun k _ => by
  haveI a1 := hq k
  haveI a2 : FitC (gm S (qat (lfG [p, q] z.length) x) (gq [(p, q)] k)) 2 := hf.get (by decide) _ _
  exact (fitMul).le (by decide)
 exact (fitAdd).le (by decide)
end
section
open Go Go.RowKit
theorem c_lower {x a b : Nat} (hab : a ≠ b) (hx : x < 1000) : Fun Tryz.prog 71 [NT .i64 (x + 1), NT .i64 (a + 1), NT .i64 (b + 1)] (NT .i64 (low x a b + 1)) := by
 refine Fun.intro Tryz.func71 rfl Tryz.ntmps71 rfl (fun cx => (ts (ro rfl (cX (cV 0)) (eZ (ts (rm rfl (ra rfl (eZ (cU (ts (rm rfl (rm rfl (ro rfl (gZ (Ht rfl) (Ht rfl)) (eZ (dX (Ht rfl) (fun h1 => ?_) (fun h1 => ?_))))))))))))))))
 ·have k1 : a < x := by simp only [decide_eq_true_eq] at h1; omega
  refine dQ (rm rfl (ro rfl (dG (Ht rfl) (cV 1) (by omega) (by show _ < 9223372036854775808; first | omega | (simp only [lim]; omega))) (ra rfl (eZ (cU (ts (rm rfl (rm rfl (ro rfl (gZ (Ht rfl) (Ht rfl)) (eZ (dX (Ht rfl) (fun h2 => ?_) (fun h2 => ?_))))))))))))
  ·have k2 : b < x := by simp only [decide_eq_true_eq] at h2; omega
   refine dQ (rm rfl (ro rfl (dG (Ht rfl) (cV 1) (by omega) (by show _ < 9223372036854775808; first | omega | (simp only [lim]; omega))) (ra rfl (eZ (ts (rm rfl (ra rfl (eZ (fG rfl (fZ (eY rfl) ?_))))))))))
   exact (nt_of (by rw [low]; simp only [k1, k2, if_true, if_false]; omega))
  ·have k2 : ¬ b < x := by simp only [decide_eq_false_iff_not] at h2; omega
   refine cY (ts (rm rfl (ra rfl (eZ (fG rfl (fZ (eY rfl) ?_))))))
   exact (nt_of (by rw [low]; simp only [k1, k2, if_true, if_false]; omega))
 ·have k1 : ¬ a < x := by simp only [decide_eq_false_iff_not] at h1; omega
  refine cY (cU (ts (rm rfl (rm rfl (ro rfl (gZ (Ht rfl) (Ht rfl)) (eZ (dX (Ht rfl) (fun h2 => ?_) (fun h2 => ?_))))))))
  ·have k2 : b < x := by simp only [decide_eq_true_eq] at h2; omega
   refine dQ (rm rfl (ro rfl (dG (Ht rfl) (cV 1) (by omega) (by show _ < 9223372036854775808; first | omega | (simp only [lim]; omega))) (ra rfl (eZ (ts (rm rfl (ra rfl (eZ (fG rfl (fZ (eY rfl) ?_))))))))))
   exact (nt_of (by rw [low]; simp only [k1, k2, if_true, if_false]; omega))
  ·have k2 : ¬ b < x := by simp only [decide_eq_false_iff_not] at h2; omega
   refine cY (ts (rm rfl (ra rfl (eZ (fG rfl (fZ (eY rfl) ?_))))))
   exact (nt_of (by rw [low]; simp only [k1, k2, if_true, if_false]; omega))
theorem hgJ {L n B : Nat} (hL : L ≤ 400) (hn : n ≤ 6) (h : 6 * grow 402 4 + 4 ≤ B) : ∀ k, 2 * k < n → 6 * grow (L + 2) (2 * k) + 4 ≤ B := fun k hk => Nat.le_trans (Nat.add_le_add_right (Nat.mul_le_mul_left 6 (Nat.le_trans (grow_monoL (show L + 2 ≤ 402 by omega) _) (grow_mono _ (show 2 * k ≤ 4 by omega)))) 4) h
theorem hxJ {L n B : Nat} (hL : L ≤ 400) (hn : n ≤ 6) (h : xgr (grow 402 4) 5 ≤ B) : ∀ k, 2 * k < n → xgr (grow (L + 2) (2 * k)) (2 * k + 1) ≤ B := fun k hk => Nat.le_trans (Nat.le_trans (xgr_monoL (Nat.le_trans (grow_monoL (show L + 2 ≤ 402 by omega) _) (grow_mono _ (show 2 * k ≤ 4 by omega))) _) (xgr_mono _ (show 2 * k + 1 ≤ 5 by omega))) h
theorem c_J8 {z : List Qi} {S : List (List Qi)} {js : List (Int × Int)} (hS : Shp S z.length z.length) (hf : FitM S 2) (hz : FitL z 2) (h8 : z.length ≤ 8) (hj : js.length ≤ 2) : Fun Tryz.prog 70 [NetT z S, JsT js] (TupT [NetT (jnZ z S js) (jnS z S js), IntT .i64 (jnE z S js)]) :=
 c_Join (L := 2) hS hf hz (by decide) (by decide) (by omega) (by omega) (fun k hk => Nat.le_trans (Nat.add_le_add_right (Nat.mul_le_mul_left 6 (grow_mono _ (show 2 * k ≤ 7 by omega))) 4) (by decide)) (fun k hk => Nat.le_trans (Nat.le_trans (xgr_monoL (grow_mono _ (show 2 * k ≤ 6 by omega)) _) (xgr_mono _ (show 2 * k + 1 ≤ 7 by omega))) (by decide))
theorem c_J6 {z : List Qi} {S : List (List Qi)} {js : List (Int × Int)} (hS : Shp S z.length z.length) (hf : FitM S 400) (hz : FitL z 400) (h6 : z.length ≤ 6) (hj : js.length ≤ 2) : Fun Tryz.prog 70 [NetT z S, JsT js] (TupT [NetT (jnZ z S js) (jnS z S js), IntT .i64 (jnE z S js)]) :=
 c_Join (L := 400) hS hf hz (by decide) (by decide) (by omega) (by omega) (hgJ (Nat.le_refl _) h6 (by decide)) (hxJ (Nat.le_refl _) h6 (by decide))
theorem k_one {z : List Qi} {S : List (List Qi)} {N p q r t : Nat} {ζ : Qi} (hS : Shp S z.length z.length) (hf : FitM S 2) (hz : FitL z 2) (hN : z.length = N) (h5 : 5 ≤ N) (h8 : N ≤ 8) (h : Four N p q r t) (hζ : ∀ i, i < N → gv z i = ζ) : Fun Tryz.prog 70 [NetT z S, SlT 2 [AggT [NT .i64 (p + 1), NT .i64 (q + 1)]]] (TupT [NetT (jnZ z S (J1 p q)) (jnS z S (J1 p q)), IntT .i64 (jnE z S (J1 p q))]) := c_J8 (js := J1 p q) hS hf hz (by omega) (by simp)
theorem k_two {z : List Qi} {S : List (List Qi)} {N p q r t : Nat} {ζ : Qi} (hS : Shp S z.length z.length) (hf : FitM S 2) (hz : FitL z 2) (hN : z.length = N) (h5 : 5 ≤ N) (h8 : N ≤ 8) (h : Four N p q r t) (hζ : ∀ i, i < N → gv z i = ζ) : Fun Tryz.prog 70 [NetT z S, SlT 2 [AggT [NT .i64 (p + 1), NT .i64 (q + 1)], AggT [NT .i64 (r + 1), NT .i64 (t + 1)]]] (TupT [NetT (jnZ z S (J2 p q r t)) (jnS z S (J2 p q r t)), IntT .i64 (jnE z S (J2 p q r t))]) := c_J8 (js := J2 p q r t) hS hf hz (by omega) (by simp)
theorem k_turn {z : List Qi} {S : List (List Qi)} {N p q r t : Nat} {ζ : Qi} (hS : Shp S z.length z.length) (hf : FitM S 2) (hz : FitL z 2) (hN : z.length = N) (h5 : 5 ≤ N) (h8 : N ≤ 8) (h : Four N p q r t) (hζ : ∀ i, i < N → gv z i = ζ) : Fun Tryz.prog 70 [NetT z S, SlT 2 [AggT [NT .i64 (t + 1), NT .i64 (r + 1)], AggT [NT .i64 (p + 1), NT .i64 (q + 1)]]] (TupT [NetT (jnZ z S (J2 p q r t)) (jnS z S (J2 p q r t)), IntT .i64 (jnE z S (J2 p q r t))]) := by
 obtain ⟨a, b, c⟩ := ord_turn (S := S) hN h5 h8 h hζ
 rw [← a, ← b, ← c]
 exact c_J8 (js := J2 t r p q) hS hf hz (by omega) (by simp)
theorem one_fits {z : List Qi} {S : List (List Qi)} {N p q r t : Nat} {ζ : Qi} (hS : Shp S z.length z.length) (hf : FitM S 2) (hz : FitL z 2) (hN : z.length = N) (h5 : 5 ≤ N) (h8 : N ≤ 8) (h : Four N p q r t) (hζ : ∀ i, i < N → gv z i = ζ) (hE : jnE z S (J1 p q) = 0) : FitM (jnS z S (J1 p q)) 400 ∧ FitL (jnZ z S (J1 p q)) 400 ∧ Shp (jnS z S (J1 p q)) (jnZ z S (J1 p q)).length (jnZ z S (J1 p q)).length := by
 have o := okP_of h8 h
 have hl2 := o.len2
 have hk := (e_one (S := S) hN (by omega) h.hp h.hq h.pq (by omega) hζ).1.1 hE
 exact ⟨jnS1_fit hf hE fun y _ => one_iff.2 hk, jnZ_fit hz (by decide) (by decide), (jn_shp hS).1⟩
theorem k_seq {z : List Qi} {S : List (List Qi)} {N p q r t : Nat} {ζ : Qi} (hS : Shp S z.length z.length) (hf : FitM S 2) (hz : FitL z 2) (hN : z.length = N) (h5 : 5 ≤ N) (h8 : N ≤ 8) (h : Four N p q r t) (hζ : ∀ i, i < N → gv z i = ζ) (hE : jnE z S (J1 p q) = 0) : Fun Tryz.prog 70 [NetT (jnZ z S (J1 p q)) (jnS z S (J1 p q)), SlT 2 [AggT [NT .i64 (low r p q + 1), NT .i64 (low t p q + 1)]]] (TupT [NetT (jnZ z S (J2 p q r t)) (jnS z S (J2 p q r t)), IntT .i64 (jnE z S (J2 p q r t))]) := by
 obtain ⟨f1, f2, f3⟩ := one_fits hS hf hz hN h5 h8 h hζ hE
 obtain ⟨a, b, c, d⟩ := ord_seq (S := S) hN h5 h8 h hζ hE
 rw [← a, ← b, ← c]
 exact c_J6 (js := J1 (low r p q) (low t p q)) f3 f1 f2 (by omega) (by simp)
theorem two_fits {z : List Qi} {S : List (List Qi)} {N p q r t : Nat} {ζ : Qi} (hS : Shp S z.length z.length) (hf : FitM S 2) (hz : FitL z 2) (hN : z.length = N) (h5 : 5 ≤ N) (h8 : N ≤ 8) (h : Four N p q r t) (hζ : ∀ i, i < N → gv z i = ζ) : FitM (jnS z S (J2 p q r t)) 900000000000 ∧ FitL (jnZ z S (J2 p q r t)) 900000000000 ∧ Shp (jnS z S (J2 p q r t)) (jnZ z S (J2 p q r t)).length (jnZ z S (J2 p q r t)).length ∧ (jnZ z S (J2 p q r t)).length ≤ 8 := by
 obtain ⟨a, b⟩ := jn_shp (js := J2 p q r t) hS
 exact ⟨jnS_fit (L := 2) (G := 400000000) hf (by decide) (fun _ => (by decide : xgr (grow (2 + 2) 4) 4 ≤ 400000000)) (fun m hm _ => by subst hm; exact (by decide : 2 + 4 * (2 * 400000000 + 2) ≤ 900000000000)), jnZ_fit hz (by decide) (by decide), a, by omega⟩
theorem k_eq2 {z : List Qi} {S : List (List Qi)} {N p q r t : Nat} {ζ : Qi} (hS : Shp S z.length z.length) (hf : FitM S 2) (hz : FitL z 2) (hN : z.length = N) (h5 : 5 ≤ N) (h8 : N ≤ 8) (h : Four N p q r t) (hζ : ∀ i, i < N → gv z i = ζ) : Fun Tryz.prog 36 [NetT (jnZ z S (J2 p q r t)) (jnS z S (J2 p q r t)), NetT (jnZ z S (J2 p q r t)) (jnS z S (J2 p q r t))] (BoolT true) := by
 obtain ⟨a, b, c, d⟩ := two_fits hS hf hz hN h5 h8 h hζ
 have h := c_netEqual (L := 900000000000) b b a a (by decide) (by decide) c c (by omega) (by omega)
 rw [netEq_refl] at h; exact h
theorem two_err {z : List Qi} {S : List (List Qi)} {N p q r t : Nat} {ζ : Qi} (hS : Shp S z.length z.length) (hf : FitM S 2) (hz : FitL z 2) (hN : z.length = N) (h5 : 5 ≤ N) (h8 : N ≤ 8) (h : Four N p q r t) (hζ : ∀ i, i < N → gv z i = ζ) : jnE z S (J2 p q r t) = 0 ∨ jnE z S (J2 p q r t) = 6 := (e_two (S := S) hN h5 h (by rw [(okP_of h8 h).len4]; omega) hζ).2
theorem k_seq2 {z : List Qi} {S : List (List Qi)} {N p q r t : Nat} {ζ : Qi} (hS : Shp S z.length z.length) (hf : FitM S 2) (hz : FitL z 2) (hN : z.length = N) (h5 : 5 ≤ N) (h8 : N ≤ 8) (h : Four N p q r t) (hζ : ∀ i, i < N → gv z i = ζ) (hE : jnE z S (J1 r t) = 0) : Fun Tryz.prog 70 [NetT (jnZ z S (J1 r t)) (jnS z S (J1 r t)), SlT 2 [AggT [NT .i64 (low p r t + 1), NT .i64 (low q r t + 1)]]] (TupT [NetT (jnZ z S (J2 p q r t)) (jnS z S (J2 p q r t)), IntT .i64 (jnE z S (J2 p q r t))]) := by
 obtain ⟨a, b, c⟩ := ord_swap (S := S) hN h5 h8 h hζ
 rw [← a, ← b, ← c]
 exact k_seq hS hf hz hN h5 h8 h.swap hζ hE
theorem al_all {a : Nat} {r : Rt} {i : Nat} (hi : i < ((plZ a [r]).map Rt.q).length) : gv ((plZ a [r]).map Rt.q) i = (imR r).q := by
 rw [List.length_map, plZ, tab_len] at hi
 rw [plZ, tab_map, gv_tab hi]; simp [pkR, Nat.mod_one]
theorem app_all {x y : List Qi} {ζ : Qi} (hx : ∀ i, i < x.length → gv x i = ζ) (hy : ∀ i, i < y.length → gv y i = ζ) {i : Nat} (hi : i < (x ++ y).length) : gv (x ++ y) i = ζ := by
 rw [List.length_append] at hi
 rcases Nat.lt_or_ge i x.length with h | h
 ·rw [show gv (x ++ y) i = gv x i by simp [gv, List.getD, List.getElem?_append_left h]]; exact hx i h
 ·rw [show gv (x ++ y) i = gv y (i - x.length) by simp [gv, List.getD, List.getElem?_append_right h]]; exact hy _ (by omega)
theorem c_NetworkOrder {a b l0 l1 l2 l3 : Nat} {zl sl zm sm : List Rt} {rr : Rt} (ha : a < 256) (hb : b < 256) (hl0 : l0 < 256) (hl1 : l1 < 256) (hl2 : l2 < 256) (hl3 : l3 < 256) : Fun Tryz.prog 11 [PartT a zl sl, PartT b zm sm, RatT rr, AggT [NT .u8 l0, NT .u8 l1, NT .u8 l2, NT .u8 l3]] (BoolT true) := by
 refine Fun.intro Tryz.func11 rfl Tryz.ntmps11 rfl (fun cx => ?_)
 obtain ⟨h1, h8, hsh, hp⟩ := netErr_ok (pl_err a [rr] sl)
 obtain ⟨h1b, h8b, hshb, hpb⟩ := netErr_ok (pl_err b [rr] sm)
 have hn : plN a ≤ 4 := by unfold plN; omega
 have hn2 : plN b ≤ 4 := by unfold plN; omega
 have hzl : ((plZ a [rr]).map Rt.q).length ≤ 4 := by rw [List.length_map, plZ, tab_len]; exact hn
 have hzl2 : ((plZ b [rr]).map Rt.q).length ≤ 4 := by rw [List.length_map, plZ, tab_len]; exact hn2
 have hA1 := c_alike (a := a) (zl := zl) (sl := sl) (r := rr) ha
 have hA2 := c_alike (a := b) (zl := zm) (sl := sm) (r := rr) hb
 have hg1 : ∀ i, i < ((plZ a [rr]).map Rt.q).length → gv ((plZ a [rr]).map Rt.q) i = (imR rr).q := fun i hi => al_all hi
 have hg2 : ∀ i, i < ((plZ b [rr]).map Rt.q).length → gv ((plZ b [rr]).map Rt.q) i = (imR rr).q := fun i hi => al_all hi
 obtain ⟨z1, hz1⟩ : ∃ z1, z1 = ((plZ a [rr]).map Rt.q) := ⟨_, rfl⟩
 obtain ⟨z2, hz2⟩ : ∃ z2, z2 = ((plZ b [rr]).map Rt.q) := ⟨_, rfl⟩
 obtain ⟨s1, hs1⟩ : ∃ s1, s1 = (rq (plS a sl)) := ⟨_, rfl⟩
 obtain ⟨s2, hs2⟩ : ∃ s2, s2 = (rq (plS b sm)) := ⟨_, rfl⟩
 have f1 : FitL z1 2 := by rw [hz1]; exact FitL.rt
 have f2 : FitL z2 2 := by rw [hz2]; exact FitL.rt
 have f3 : FitM s1 2 := by rw [hs1]; exact FitM.rt
 have f4 : FitM s2 2 := by rw [hs2]; exact FitM.rt
 rw [← hz1] at h1 h8 hsh hzl hg1
 rw [← hs1] at hsh
 rw [← hz2] at h1b h8b hshb hzl2 hg2
 rw [← hs2] at hshb
 rw [← hz1, ← hs1] at hA1
 rw [← hz2, ← hs2] at hA2
 have hk := stk_ok (x := z1.length) (y := z2.length) (by omega)
 obtain ⟨z3, hz3⟩ : ∃ z3, z3 = z1 ++ z2 := ⟨_, rfl⟩
 obtain ⟨s3, hs3⟩ : ∃ s3, s3 = sidM s1 s2 z1.length z2.length := ⟨_, rfl⟩
 have hcs : Fun Tryz.prog 35 [NetT z1 s1, NetT z2 s2] (TupT [NetT z3 s3, IntT .i64 0]) := by
  have h := c_Stack (z := z1) (zb := z2) hsh hshb (by omega) (by omega)
  rw [stkZ, stkS, hk] at h
  rw [hz3, hs3]; exact h
 have hN : z3.length = z1.length + z2.length := by rw [hz3, List.length_append]
 have hS : Shp s3 z3.length z3.length := by rw [hN, hs3]; exact sidM_shp _ _ _ _
 have hf : FitM s3 2 := by rw [hs3]; exact sidM_fit f3 f4 (by decide)
 have hz : FitL z3 2 := by rw [hz3]; exact fitL_app f1 f2
 have hζ : ∀ i, i < z3.length → gv z3 i = (imR rr).q := fun i hi => by
  rw [hz3] at hi ⊢; exact app_all hg1 hg2 hi
 refine ts (rn rfl (fK (Ht rfl)) fun B4 => (rn rfl (fK (Ht rfl)) fun B5 => (rn rfl (fK (Ht rfl)) fun B6 => (rn rfl (fK (Ht rfl)) fun B7 => (ro rfl (cX cW) (eZ (ts (ro rfl (eW Tryz.isAgg24 Tryz.sizeOf24 (Ht rfl) (i := 0) rfl rfl rfl) (ro rfl (eW A_91 Z_91 (Ht rfl) (i := 2) rfl rfl rfl) (ro rfl (cJ Tryz.call69 hA1 ⟨(Ht rfl), (Ht rfl), trivial⟩) (rm rfl (ro rfl (dU (Ht rfl) rfl) (ro rfl (dU (Ht rfl) rfl) (rn rfl (eG (Ts := [Is (.slice none 0 0), Is (.slice none 0 0)]) O_30 rfl (fun V => aW ⟨rfl, trivial⟩ (aW ⟨rfl, trivial⟩ (aG)))) fun B9 => ?_))))))))))))))
 refine gX Z_30 (Ht rfl) (Ht rfl) rfl (i := 4) rfl (aK rfl) rfl rfl (ra rfl (eZ (cU (T_keep [0, 1, 2, 3, 4] rfl (by decide) (dQ (ro rfl (eW Tryz.isAgg24 Tryz.sizeOf24 (Ht rfl) (i := 1) rfl rfl rfl) (ro rfl (eW A_91 Z_91 (Ht rfl) (i := 2) rfl rfl rfl) (ro rfl (cJ Tryz.call69 hA2 ⟨(Ht rfl), (Ht rfl), trivial⟩) (rm rfl (ro rfl (dU (Ht rfl) rfl) (ro rfl (dU (Ht rfl) rfl) (rn rfl (eG (Ts := [Is (.slice none 0 0), Is (.slice none 0 0)]) O_30 rfl (fun V => aW ⟨rfl, trivial⟩ (aW ⟨rfl, trivial⟩ (aG)))) fun B11 => ?_))))))))))))
 refine gX Z_30 (Ht rfl) (Ht rfl) rfl (i := 5) rfl (aK rfl) rfl rfl (ra rfl (eZ (cU (T_keep [0, 1, 2, 3, 4, 5] rfl (by decide) (dQ (ro rfl (eW A_30 Z_30 (Ht rfl) (i := 4) rfl rfl rfl) (ro rfl (eW A_30 Z_30 (Ht rfl) (i := 5) rfl rfl rfl) (ro rfl (cJ Tryz.call35 hcs ⟨(Ht rfl), (Ht rfl), trivial⟩) (rm rfl (ro rfl (dU (Ht rfl) rfl) (ro rfl (dU (Ht rfl) rfl) (rn rfl (eG (Ts := [Is (.slice none 0 0), Is (.slice none 0 0)]) O_30 rfl (fun V => aW ⟨rfl, trivial⟩ (aW ⟨rfl, trivial⟩ (aG)))) fun B13 => ?_))))))))))))
 refine gX Z_30 (Ht rfl) (Ht rfl) rfl (i := 6) rfl (aK rfl) rfl rfl (ra rfl (eZ (cU (cU (T_keep [0, 1, 2, 3, 4, 5, 6] rfl (by decide) (dQ (rm rfl (ro rfl (op_not (Ht rfl)) (rm rfl (fX rfl rfl (eU rfl rfl (Ht rfl) (fun h => cZ (Ht rfl))) (fX rfl rfl (eU rfl rfl (Ht rfl) (fun h => op_not (fV rfl h))) (ro rfl (op_or (Ht rfl) (fun h => (fV rfl h))) (rm rfl (fX rfl rfl (eU rfl rfl (Ht rfl) (fun h => cZ (Ht rfl))) (fX rfl rfl (eU rfl rfl (Ht rfl) (fun h => op_neq (fV rfl h) cW)) (ro rfl (op_or (Ht rfl) (fun h => (fV rfl h))) ?_))))))))))))))))
 refine eZ (T_condF (Ht rfl) (by rfl) ?_)
 refine cY (cU (ts (ro rfl (eW A_30 Z_30 (Ht rfl) (i := 6) rfl rfl rfl) (ro rfl (cJ Tryz.call37 c_Ports ⟨(Ht rfl), trivial⟩) (ro rfl (gZ (Ht rfl) (cV 5)) (eZ (dX (Ht rfl) (fun hP => ?_) (fun hP => ?_))))))))
 ·refine ts (ro rfl (cJ Tryz.call15 c_awake4 trivial) (ra rfl (eZ ?_)))
  exact fG rfl (eY rfl)
 ·have h5 : 5 ≤ z3.length := by simp only [decide_eq_false_iff_not] at hP; omega
  obtain ⟨l, hl⟩ : ∃ l, l = (l4 l0 l1 l2 l3) := ⟨_, rfl⟩
  have hF4 := c_four (n := z3.length) (a := l0) (b := l1) (c := l2) (d := l3) (by omega) (by omega) hl0 hl1 hl2 hl3
  rw [← hl] at hF4
  have i0 := fOut_in (n := z3.length) (l := l) (i := 0) (by omega)
  have i1 := fOut_in (n := z3.length) (l := l) (i := 1) (by omega)
  have i2 := fOut_in (n := z3.length) (l := l) (i := 2) (by omega)
  have i3 := fOut_in (n := z3.length) (l := l) (i := 3) (by omega)
  have n1 := fOut_ne (n := z3.length) (l := l) (i := 0) (j := 1) (by omega) (by omega)
  have n2 := fOut_ne (n := z3.length) (l := l) (i := 0) (j := 2) (by omega) (by omega)
  have n3 := fOut_ne (n := z3.length) (l := l) (i := 0) (j := 3) (by omega) (by omega)
  have n4 := fOut_ne (n := z3.length) (l := l) (i := 1) (j := 2) (by omega) (by omega)
  have n5 := fOut_ne (n := z3.length) (l := l) (i := 1) (j := 3) (by omega) (by omega)
  have n6 := fOut_ne (n := z3.length) (l := l) (i := 2) (j := 3) (by omega) (by omega)
  have hF5 : Fun Tryz.prog 38 [NT .i64 z3.length, AggT [NT .u8 l0, NT .u8 l1, NT .u8 l2, NT .u8 l3]] (AggT [NT .i64 (fOut z3.length l 0), NT .i64 (fOut z3.length l 1), NT .i64 (fOut z3.length l 2), NT .i64 (fOut z3.length l 3)]) := hF4
  obtain ⟨p, hp1⟩ : ∃ p, p + 1 = fOut z3.length l 0 := ⟨fOut z3.length l 0 - 1, by omega⟩
  obtain ⟨q, hq1⟩ : ∃ q, q + 1 = fOut z3.length l 1 := ⟨fOut z3.length l 1 - 1, by omega⟩
  obtain ⟨r, hr1⟩ : ∃ r, r + 1 = fOut z3.length l 2 := ⟨fOut z3.length l 2 - 1, by omega⟩
  obtain ⟨t, ht1⟩ : ∃ t, t + 1 = fOut z3.length l 3 := ⟨fOut z3.length l 3 - 1, by omega⟩
  rw [← hp1, ← hq1, ← hr1, ← ht1] at hF5
  have hF : Four z3.length p q r t := ⟨by omega, by omega, by omega, by omega, by omega, by omega, by omega, by omega, by omega, by omega⟩
  have hEA := two_err hS hf hz rfl h5 (by omega) hF hζ
  have kA := k_two hS hf hz rfl h5 (by omega) hF hζ
  have kB := k_turn hS hf hz rfl h5 (by omega) hF hζ
  have k1 := k_one hS hf hz rfl h5 (by omega) hF hζ
  have k2 := k_one hS hf hz rfl h5 (by omega) hF.swap hζ
  have kE := k_eq2 hS hf hz rfl h5 (by omega) hF hζ
  have kS1 := k_seq hS hf hz rfl h5 (by omega) hF hζ
  have kS2 := k_seq2 hS hf hz rfl h5 (by omega) hF hζ
  have w1 := c_lower (x := r) (a := p) (b := q) hF.pq (by have := hF.hr; omega)
  have w2 := c_lower (x := t) (a := p) (b := q) hF.pq (by have := hF.ht; omega)
  have w3 := c_lower (x := p) (a := r) (b := t) hF.rt (by have := hF.hp; omega)
  have w4 := c_lower (x := q) (a := r) (b := t) hF.rt (by have := hF.hq; omega)
  generalize jnZ z3 s3 (J2 p q r t) = ZA at *
  generalize jnS z3 s3 (J2 p q r t) = SA at *
  generalize jnE z3 s3 (J2 p q r t) = EA at *
  generalize jnZ z3 s3 (J1 p q) = Z1 at *
  generalize jnS z3 s3 (J1 p q) = S1 at *
  generalize jnE z3 s3 (J1 p q) = E1 at *
  generalize jnZ z3 s3 (J1 r t) = Z2 at *
  generalize jnS z3 s3 (J1 r t) = S2 at *
  generalize jnE z3 s3 (J1 r t) = E2 at *
  clear hF4
  refine cY (cU (fJ (m := 5) (dp 13 rfl (eW A_30 Z_30 (Ht rfl) (i := 6) rfl rfl rfl) (dq 60 0 rfl (cJ Tryz.call37 c_Ports ⟨(Ht rfl), trivial⟩) (dp 7 rfl (eW Tryz.isAgg63 Tryz.sizeOf63 (Ht rfl) (i := 3) rfl rfl rfl) (dqq 61 1 62 2 rfl (cJ Tryz.call38 hF5 ⟨(Ht rfl), (Ht rfl), trivial⟩) (C.D_new (Ei := []) rfl rfl rfl bW (eG (Ts := [Is (.int .i64 0), Is (.int .i64 0), Is (.int .i64 0), Is (.int .i64 0)]) Tryz.zeroValue67 rfl (fun V => aW ⟨rfl, trivial⟩ (aW ⟨rfl, trivial⟩ (aW ⟨rfl, trivial⟩ (aW ⟨rfl, trivial⟩ (aG)))))) ?_)))))))
  refine fW mixed rfl (by kernel_rfl) (aJ (aJ (aJ (aJ (C.F_new (fun B15 => aV (gX Tryz.sizeOf67 (Ht rfl) (Ht rfl) rfl (i := 7) rfl (aK rfl) rfl rfl (eZ (cU (T_keep [0, 1, 2, 3, 4, 5, 6, 7] rfl (by decide) (dQ (ro rfl (eW A_30 Z_30 (Ht rfl) (i := 6) rfl rfl rfl) (ro rfl (op_idxAB U_67 Z_3 (Ht rfl) (cV 0) rfl (by decide) rfl) (ro rfl (fQ A_3 Z_3 (Ht rfl) (i := 7) rfl rfl) (ro rfl (op_idxAB U_67 Z_3 (Ht rfl) (cV 1) rfl (by decide) rfl) ?_)))))))))))))))
  refine ro rfl (fQ A_3 Z_3 (Ht rfl) (i := 7) rfl rfl) (ro rfl (bld_120_0_1 (Ht rfl) (Ht rfl)) (ro rfl (op_idxAB U_67 Z_3 (Ht rfl) (cV 2) rfl (by decide) rfl) (ro rfl (fQ A_3 Z_3 (Ht rfl) (i := 7) rfl rfl) (ro rfl (op_idxAB U_67 Z_3 (Ht rfl) (cV 3) rfl (by decide) rfl) (ro rfl (fQ A_3 Z_3 (Ht rfl) (i := 7) rfl rfl) (ro rfl (bld_120_0_1 (Ht rfl) (Ht rfl)) (ro rfl (op_bslice (xs := [.tmp 70, .tmp 75]) U_59 Z_120 O_120 (cG (Ht rfl) (cG (Ht rfl) cK)) rfl rfl rfl) ?_)))))))
  refine ro rfl (cJ K_70 kA ⟨(Ht rfl), (Ht rfl), trivial⟩) (rm rfl (ro rfl (dU (Ht rfl) rfl) (ro rfl (dU (Ht rfl) rfl) (rn rfl (eG (Ts := [Is (.slice none 0 0), Is (.slice none 0 0)]) O_30 rfl (fun V => aW ⟨rfl, trivial⟩ (aW ⟨rfl, trivial⟩ (aG)))) fun B16 => (gX Z_30 (Ht rfl) (Ht rfl) rfl (i := 8) rfl (aK rfl) rfl rfl (ra rfl (eZ (cU (T_keep [0, 1, 2, 3, 4, 5, 6, 7, 8] rfl (by decide) (dQ (ro rfl (eW A_30 Z_30 (Ht rfl) (i := 6) rfl rfl rfl) (ro rfl (op_idxAB U_67 Z_3 (Ht rfl) (cV 3) rfl (by decide) rfl) ?_))))))))))))
  refine ro rfl (fQ A_3 Z_3 (Ht rfl) (i := 7) rfl rfl) (ro rfl (op_idxAB U_67 Z_3 (Ht rfl) (cV 2) rfl (by decide) rfl) (ro rfl (fQ A_3 Z_3 (Ht rfl) (i := 7) rfl rfl) (ro rfl (bld_120_0_1 (Ht rfl) (Ht rfl)) (ro rfl (op_idxAB U_67 Z_3 (Ht rfl) (cV 0) rfl (by decide) rfl) (ro rfl (fQ A_3 Z_3 (Ht rfl) (i := 7) rfl rfl) (ro rfl (op_idxAB U_67 Z_3 (Ht rfl) (cV 1) rfl (by decide) rfl) (ro rfl (fQ A_3 Z_3 (Ht rfl) (i := 7) rfl rfl) ?_)))))))
  refine ro rfl (bld_120_0_1 (Ht rfl) (Ht rfl)) (ro rfl (op_bslice (xs := [.tmp 86, .tmp 91]) U_59 Z_120 O_120 (cG (Ht rfl) (cG (Ht rfl) cK)) rfl rfl rfl) (ro rfl (cJ K_70 kB ⟨(Ht rfl), (Ht rfl), trivial⟩) (rm rfl (ro rfl (dU (Ht rfl) rfl) (ro rfl (dU (Ht rfl) rfl) (rn rfl (eG (Ts := [Is (.slice none 0 0), Is (.slice none 0 0)]) O_30 rfl (fun V => aW ⟨rfl, trivial⟩ (aW ⟨rfl, trivial⟩ (aG)))) fun B18 => (gX Z_30 (Ht rfl) (Ht rfl) rfl (i := 9) rfl (aK rfl) rfl rfl ?_)))))))
  refine ra rfl (eZ (cU (T_keep [0, 1, 2, 3, 4, 5, 6, 7, 8, 9] rfl (by decide) (ts (rm rfl (rm rfl (ro rfl (op_neq (Ht rfl) (Ht rfl)) (rm rfl (fX rfl rfl (S_whenU rfl rfl (Ht rfl) (fun h => cZ (Ht rfl))) (fX rfl rfl (S_whenU rfl rfl (Ht rfl) (fun h => op_eql (Has.wu rfl h) cW)) (fX rfl rfl (S_whenU rfl rfl (Ht rfl) (fun h => cZ (Has.wu rfl h))) (fX rfl rfl (S_when2 rfl rfl rfl (fun h h2 => eW A_30 Z_30 (Ht rfl) (i := 8) rfl rfl rfl)) (fX rfl rfl (S_when2 rfl rfl rfl (fun h h2 => eW A_30 Z_30 (Ht rfl) (i := 9) rfl rfl rfl)) ?_)))))))))))))
  refine fX rfl rfl (S_when2 rfl rfl rfl (fun h h2 => cJ Tryz.call36 kE ⟨(Has.wu rfl ⟨h, h2⟩), (Has.wu rfl ⟨h, h2⟩), trivial⟩)) (fX rfl rfl (S_when2 rfl rfl rfl (fun h h2 => op_not (Has.wu rfl ⟨h, h2⟩))) (fX rfl rfl (S_whenU rfl rfl (Ht rfl) (fun h => op_and (Has.wu rfl h) (fun h2 => (Has.wu rfl ⟨h, h2⟩)))) (ro rfl (op_or (Ht rfl) (fun h => (Has.wu rfl h))) (rm rfl (fX rfl rfl (S_whenU rfl rfl (Ht rfl) (fun h => cZ (Ht rfl))) (fX rfl rfl (S_whenU rfl rfl (Ht rfl) (fun h => op_neq (Has.wu rfl h) cW)) (fX rfl rfl (S_whenU rfl rfl (Ht rfl) (fun h => cZ (Has.wu rfl h))) ?_)))))))
  refine fX rfl rfl (S_when2 rfl rfl rfl (fun h h2 => cZ (Ht rfl))) (fX rfl rfl (S_when2 rfl rfl rfl (fun h h2 => op_neq (Has.wu rfl ⟨h, h2⟩) cW)) (fX rfl rfl (S_whenU rfl rfl (Ht rfl) (fun h => op_and (Has.wu rfl h) (fun h2 => (Has.wu rfl ⟨h, h2⟩)))) (ro rfl (op_or (Ht rfl) (fun h => (Has.wu rfl h))) (eZ (T_condF (Ht rfl) (by rcases hEA with h | h <;> simp [h]) ?_)))))
  refine cY (ts (ro rfl (eW A_30 Z_30 (Ht rfl) (i := 6) rfl rfl rfl) (ro rfl (op_idxAB U_67 Z_3 (Ht rfl) (cV 0) rfl (by decide) rfl) (ro rfl (fQ A_3 Z_3 (Ht rfl) (i := 7) rfl rfl) (ro rfl (op_idxAB U_67 Z_3 (Ht rfl) (cV 1) rfl (by decide) rfl) (ro rfl (fQ A_3 Z_3 (Ht rfl) (i := 7) rfl rfl) (ro rfl (bld_120_0_1 (Ht rfl) (Ht rfl)) (ro rfl (op_bslice (xs := [.tmp 123]) U_59 Z_120 O_120 (cG (Ht rfl) cK) rfl rfl rfl) ?_))))))))
  refine ro rfl (cJ K_70 k1 ⟨(Ht rfl), (Ht rfl), trivial⟩) (rm rfl (ro rfl (dU (Ht rfl) rfl) (ro rfl (dU (Ht rfl) rfl) (rn rfl (eG (Ts := [Is (.slice none 0 0), Is (.slice none 0 0)]) O_30 rfl (fun V => aW ⟨rfl, trivial⟩ (aW ⟨rfl, trivial⟩ (aG)))) fun B20 => (gX Z_30 (Ht rfl) (Ht rfl) rfl (i := 10) rfl (aK rfl) rfl rfl (ra rfl (eZ (cU (T_keep [0, 1, 2, 3, 4, 5, 6, 7, 8, 9, 10] rfl (by decide) (dQ (ro rfl (eW A_30 Z_30 (Ht rfl) (i := 6) rfl rfl rfl) ?_)))))))))))
  refine ro rfl (op_idxAB U_67 Z_3 (Ht rfl) (cV 2) rfl (by decide) rfl) (ro rfl (fQ A_3 Z_3 (Ht rfl) (i := 7) rfl rfl) (ro rfl (op_idxAB U_67 Z_3 (Ht rfl) (cV 3) rfl (by decide) rfl) (ro rfl (fQ A_3 Z_3 (Ht rfl) (i := 7) rfl rfl) (ro rfl (bld_120_0_1 (Ht rfl) (Ht rfl)) (ro rfl (op_bslice (xs := [.tmp 134]) U_59 Z_120 O_120 (cG (Ht rfl) cK) rfl rfl rfl) (ro rfl (cJ K_70 k2 ⟨(Ht rfl), (Ht rfl), trivial⟩) (rm rfl (ro rfl (dU (Ht rfl) rfl) ?_))))))))
  refine ro rfl (dU (Ht rfl) rfl) (rn rfl (eG (Ts := [Is (.slice none 0 0), Is (.slice none 0 0)]) O_30 rfl (fun V => aW ⟨rfl, trivial⟩ (aW ⟨rfl, trivial⟩ (aG)))) fun B22 => (gX Z_30 (Ht rfl) (Ht rfl) rfl (i := 11) rfl (aK rfl) rfl rfl (ra rfl (eZ (cU (T_keep [7, 8, 10, 11] rfl (by decide) (T_join (fun (uu : Unit) => True) (fun (uu : Unit) => [(15, PtrB B15 0), (16, PtrB B16 0), (17, IntT .i64 EA), (20, PtrB B20 0), (21, IntT .i64 E1), (22, PtrB B22 0), (23, IntT .i64 E2)]) (fun (uu : Unit) => [box B15 67 [NT .i64 (p + 1), NT .i64 (q + 1), NT .i64 (r + 1), NT .i64 (t + 1)], box B16 30 [NumsT ZA, NumM SA], box B20 30 [NumsT Z1, NumM S1], box B22 30 [NumsT Z2, NumM S2]]) ?_ (fun uu hTE1 => ?_))))))))
  ·refine ts (rm rfl (ro rfl (op_eql (Ht rfl) cW) (eZ (dX (Ht rfl) (fun hE => ?_) (fun hE => ?_)))))
   ·have hE0 : E1 = 0 := of_decide_eq_true hE
    refine cU (Y.D_start (m := 23) [] (cQ (Ei := [(20, _)]) rfl rfl (bQ (bJ rfl rfl) bX) rfl rfl (dZ rfl (eW A_30 Z_30 (Ht rfl) (i := 2) rfl rfl rfl)) (cQ (Ei := [(15, _)]) rfl rfl (bQ (bJ rfl rfl) bX) rfl rfl (dZ rfl (op_idxAB U_67 Z_3 (Ht rfl) (cV 2) rfl (by decide) rfl)) (cQ (Ei := [(143, _)]) rfl rfl (bQ (bZ 1 rfl rfl) bX) rfl rfl (dZ rfl (fQ A_3 Z_3 (Ht rfl) (i := 0) rfl rfl)) (cQ (Ei := [(15, _)]) rfl rfl (bQ (bJ rfl rfl) bX) rfl rfl (dZ rfl (op_idxAB U_67 Z_3 (Ht rfl) (cV 0) rfl (by decide) rfl)) ?_)))))
    refine cQ (Ei := [(145, _)]) rfl rfl (bQ (bZ 3 rfl rfl) bX) rfl rfl (dZ rfl (fQ A_3 Z_3 (Ht rfl) (i := 0) rfl rfl)) (cQ (Ei := [(15, _)]) rfl rfl (bQ (bJ rfl rfl) bX) rfl rfl (dZ rfl (op_idxAB U_67 Z_3 (Ht rfl) (cV 1) rfl (by decide) rfl)) (cQ (Ei := [(147, _)]) rfl rfl (bQ (bZ 5 rfl rfl) bX) rfl rfl (dZ rfl (fQ A_3 Z_3 (Ht rfl) (i := 0) rfl rfl)) (cQ (Ei := [(144, _), (146, _), (148, _)]) rfl rfl (bQ (bZ 2 rfl rfl) (bQ (bZ 4 rfl rfl) (bQ (bZ 6 rfl rfl) bX))) rfl rfl (dZ rfl (cJ Tryz.call71 w1 ⟨(Ht rfl), (Ht rfl), (Ht rfl), trivial⟩)) ?_)))
    refine cQ (Ei := [(15, _)]) rfl rfl (bQ (bJ rfl rfl) bX) rfl rfl (dZ rfl (op_idxAB U_67 Z_3 (Ht rfl) (cV 3) rfl (by decide) rfl)) (cQ (Ei := [(150, _)]) rfl rfl (bQ (bZ 8 rfl rfl) bX) rfl rfl (dZ rfl (fQ A_3 Z_3 (Ht rfl) (i := 0) rfl rfl)) (cQ (Ei := [(15, _)]) rfl rfl (bQ (bJ rfl rfl) bX) rfl rfl (dZ rfl (op_idxAB U_67 Z_3 (Ht rfl) (cV 0) rfl (by decide) rfl)) (cQ (Ei := [(152, _)]) rfl rfl (bQ (bZ 10 rfl rfl) bX) rfl rfl (dZ rfl (fQ A_3 Z_3 (Ht rfl) (i := 0) rfl rfl)) ?_)))
    refine cQ (Ei := [(15, _)]) rfl rfl (bQ (bJ rfl rfl) bX) rfl rfl (dZ rfl (op_idxAB U_67 Z_3 (Ht rfl) (cV 1) rfl (by decide) rfl)) (cQ (Ei := [(154, _)]) rfl rfl (bQ (bZ 12 rfl rfl) bX) rfl rfl (dZ rfl (fQ A_3 Z_3 (Ht rfl) (i := 0) rfl rfl)) (cQ (Ei := [(151, _), (153, _), (155, _)]) rfl rfl (bQ (bZ 9 rfl rfl) (bQ (bZ 11 rfl rfl) (bQ (bZ 13 rfl rfl) bX))) rfl rfl (dZ rfl (cJ Tryz.call71 w2 ⟨(Ht rfl), (Ht rfl), (Ht rfl), trivial⟩)) ?_))
    refine cQ (Ei := [(149, _), (156, _)]) rfl rfl (bQ (bZ 7 rfl rfl) (bQ (bZ 14 rfl rfl) bX)) rfl rfl (dZ rfl (bld_120_0_1 (Ht rfl) (Ht rfl))) (cQ (Ei := [(157, _)]) rfl rfl (bQ (bZ 15 rfl rfl) bX) rfl rfl (dZ rfl (op_bslice (xs := [.tmp 157]) U_59 Z_120 O_120 (cG (Ht rfl) cK) rfl rfl rfl)) (cQ (Ei := [(142, _), (158, _)]) rfl rfl (bQ (bZ 0 rfl rfl) (bQ (bZ 16 rfl rfl) bX)) rfl rfl (dZ rfl (cJ K_70 (kS1 hE0) ⟨(Ht rfl), (Ht rfl), trivial⟩)) ?_))
    refine cQ (Ei := [(159, _)]) rfl rfl (bQ (bZ 17 rfl rfl) bX) rfl rfl (dZ rfl (cZ (Ht rfl))) (cQ (Ei := [(141, _)]) rfl rfl (bQ (bZ 18 rfl rfl) bX) rfl rfl (dZ rfl (dU (Ht rfl) rfl)) (cQ (Ei := [(141, _)]) rfl rfl (bQ (bZ 18 rfl rfl) bX) rfl rfl (dZ rfl (dU (Ht rfl) rfl)) (Y.D_newp (Ei := []) (fun bb => box bb 30 [NumsT ZA, NumM SA]) 22 rfl rfl rfl bX rfl rfl (by kernel_rfl) (eG (Ts := [Is (.slice none 0 0), Is (.slice none 0 0)]) O_30 rfl (fun V => aW ⟨rfl, trivial⟩ (aW ⟨rfl, trivial⟩ (aG)))) ?_)))
    refine Y.D_putN (Ei := [(160, _)]) 21 rfl rfl rfl rfl rfl rfl (bQ (bZ 19 rfl rfl) bX) (fun bb => P_stA Z_30 (Ht rfl) (Ht rfl) rfl (i := 0) rfl (aK rfl) rfl rfl) (Y.D_done mixed rfl (by kernel_rfl) rfl (by simp [Y.okP]) rfl rfl (bU (bU (bU (bU (bU (bU (bU (bU (bU (bU (bU (bU (bU (bU (bU (bU (bU (bU (bU (bU (bU (Y.F_newp (fun B24 => Y.F_putN (Y.F_nil ?_)))))))))))))))))))))))))
    refine ra rfl (eZ (cU (T_keep [0, 1, 2, 3, 4] rfl (by decide) (dQ (rm rfl (ro rfl (op_eql (Ht rfl) cW) (rm rfl (fX rfl rfl (eU rfl rfl (Ht rfl) (fun h => cZ (Ht rfl))) (fX rfl rfl (eU rfl rfl (Ht rfl) (fun h => op_eql (fV rfl h) cW)) (ro rfl (op_and (Ht rfl) (fun h => (fV rfl h))) (rm rfl (fX rfl rfl (eU rfl rfl (Ht rfl) (fun h => eW A_30 Z_30 (Ht rfl) (i := 4) rfl rfl rfl)) (fX rfl rfl (eU rfl rfl (Ht rfl) (fun h => eW A_30 Z_30 (Ht rfl) (i := 1) rfl rfl rfl)) (fX rfl rfl (eU rfl rfl (Ht rfl) (fun h => cJ Tryz.call36 kE ⟨(fV rfl h), (fV rfl h), trivial⟩)) ?_))))))))))))))
    refine fX rfl rfl (eU rfl rfl (Ht rfl) (fun h => op_not (fV rfl h))) (ro rfl (op_and (Ht rfl) (fun h => (fV rfl h))) (rm rfl (fX rfl rfl (eU rfl rfl (Ht rfl) (fun h => cZ (Ht rfl))) (fX rfl rfl (eU rfl rfl (Ht rfl) (fun h => op_eql (fV rfl h) cW)) (fX rfl rfl (eU rfl rfl (Ht rfl) (fun h => cZ (Ht rfl))) (fX rfl rfl (eU rfl rfl (Ht rfl) (fun h => op_eql (fV rfl h) cW)) (fX rfl rfl (eU rfl rfl (Ht rfl) (fun h => op_bne U_4 (fV rfl h) (fV rfl h))) (ro rfl (op_or (Ht rfl) (fun h => (fV rfl h))) ?_))))))))
    refine eZ (T_condF (Ht rfl) (by rcases hEA with h | h <;> simp [h]) ?_)
    refine cY (T_keep [0, 1, 2, 3] rfl (by decide) (T_joined () trivial (aQ rfl (aQ rfl (aQ rfl (aQ rfl (aQ rfl (aQ rfl (aQ rfl aX))))))) (aU (box_of rfl) (aU (box_of rfl) (aU (box_of rfl) (aU (box_of rfl) aY))))))
   ·refine cY (T_keep [0, 1, 2, 3] rfl (by decide) (T_joined () trivial (aQ rfl (aQ rfl (aQ rfl (aQ rfl (aQ rfl (aQ rfl (aQ rfl aX))))))) (aU (box_of rfl) (aU (box_of rfl) (aU (box_of rfl) (aU (box_of rfl) aY))))))
  ·refine cU (T_join (fun (uu : Unit) => True) (fun (uu : Unit) => [(15, PtrB B15 0), (16, PtrB B16 0), (17, IntT .i64 EA), (20, PtrB B20 0), (21, IntT .i64 E1), (22, PtrB B22 0), (23, IntT .i64 E2)]) (fun (uu : Unit) => [box B15 67 [NT .i64 (p + 1), NT .i64 (q + 1), NT .i64 (r + 1), NT .i64 (t + 1)], box B16 30 [NumsT ZA, NumM SA], box B20 30 [NumsT Z1, NumM S1], box B22 30 [NumsT Z2, NumM S2]]) ?_ (fun uu hTE2 => ?_))
   ·refine ts (rm rfl (ro rfl (op_eql (Ht rfl) cW) (eZ (dX (Ht rfl) (fun hE => ?_) (fun hE => ?_)))))
    ·have hE0 : E2 = 0 := of_decide_eq_true hE
     refine cU (Y.D_start (m := 23) [] (cQ (Ei := [(22, _)]) rfl rfl (bQ (bJ rfl rfl) bX) rfl rfl (dZ rfl (eW A_30 Z_30 (Ht rfl) (i := 3) rfl rfl rfl)) (cQ (Ei := [(15, _)]) rfl rfl (bQ (bJ rfl rfl) bX) rfl rfl (dZ rfl (op_idxAB U_67 Z_3 (Ht rfl) (cV 0) rfl (by decide) rfl)) (cQ (Ei := [(185, _)]) rfl rfl (bQ (bZ 1 rfl rfl) bX) rfl rfl (dZ rfl (fQ A_3 Z_3 (Ht rfl) (i := 0) rfl rfl)) (cQ (Ei := [(15, _)]) rfl rfl (bQ (bJ rfl rfl) bX) rfl rfl (dZ rfl (op_idxAB U_67 Z_3 (Ht rfl) (cV 2) rfl (by decide) rfl)) ?_)))))
     refine cQ (Ei := [(187, _)]) rfl rfl (bQ (bZ 3 rfl rfl) bX) rfl rfl (dZ rfl (fQ A_3 Z_3 (Ht rfl) (i := 0) rfl rfl)) (cQ (Ei := [(15, _)]) rfl rfl (bQ (bJ rfl rfl) bX) rfl rfl (dZ rfl (op_idxAB U_67 Z_3 (Ht rfl) (cV 3) rfl (by decide) rfl)) (cQ (Ei := [(189, _)]) rfl rfl (bQ (bZ 5 rfl rfl) bX) rfl rfl (dZ rfl (fQ A_3 Z_3 (Ht rfl) (i := 0) rfl rfl)) (cQ (Ei := [(186, _), (188, _), (190, _)]) rfl rfl (bQ (bZ 2 rfl rfl) (bQ (bZ 4 rfl rfl) (bQ (bZ 6 rfl rfl) bX))) rfl rfl (dZ rfl (cJ Tryz.call71 w3 ⟨(Ht rfl), (Ht rfl), (Ht rfl), trivial⟩)) ?_)))
     refine cQ (Ei := [(15, _)]) rfl rfl (bQ (bJ rfl rfl) bX) rfl rfl (dZ rfl (op_idxAB U_67 Z_3 (Ht rfl) (cV 1) rfl (by decide) rfl)) (cQ (Ei := [(192, _)]) rfl rfl (bQ (bZ 8 rfl rfl) bX) rfl rfl (dZ rfl (fQ A_3 Z_3 (Ht rfl) (i := 0) rfl rfl)) (cQ (Ei := [(15, _)]) rfl rfl (bQ (bJ rfl rfl) bX) rfl rfl (dZ rfl (op_idxAB U_67 Z_3 (Ht rfl) (cV 2) rfl (by decide) rfl)) (cQ (Ei := [(194, _)]) rfl rfl (bQ (bZ 10 rfl rfl) bX) rfl rfl (dZ rfl (fQ A_3 Z_3 (Ht rfl) (i := 0) rfl rfl)) ?_)))
     refine cQ (Ei := [(15, _)]) rfl rfl (bQ (bJ rfl rfl) bX) rfl rfl (dZ rfl (op_idxAB U_67 Z_3 (Ht rfl) (cV 3) rfl (by decide) rfl)) (cQ (Ei := [(196, _)]) rfl rfl (bQ (bZ 12 rfl rfl) bX) rfl rfl (dZ rfl (fQ A_3 Z_3 (Ht rfl) (i := 0) rfl rfl)) (cQ (Ei := [(193, _), (195, _), (197, _)]) rfl rfl (bQ (bZ 9 rfl rfl) (bQ (bZ 11 rfl rfl) (bQ (bZ 13 rfl rfl) bX))) rfl rfl (dZ rfl (cJ Tryz.call71 w4 ⟨(Ht rfl), (Ht rfl), (Ht rfl), trivial⟩)) ?_))
     refine cQ (Ei := [(191, _), (198, _)]) rfl rfl (bQ (bZ 7 rfl rfl) (bQ (bZ 14 rfl rfl) bX)) rfl rfl (dZ rfl (bld_120_0_1 (Ht rfl) (Ht rfl))) (cQ (Ei := [(199, _)]) rfl rfl (bQ (bZ 15 rfl rfl) bX) rfl rfl (dZ rfl (op_bslice (xs := [.tmp 199]) U_59 Z_120 O_120 (cG (Ht rfl) cK) rfl rfl rfl)) (cQ (Ei := [(184, _), (200, _)]) rfl rfl (bQ (bZ 0 rfl rfl) (bQ (bZ 16 rfl rfl) bX)) rfl rfl (dZ rfl (cJ K_70 (kS2 hE0) ⟨(Ht rfl), (Ht rfl), trivial⟩)) ?_))
     refine cQ (Ei := [(201, _)]) rfl rfl (bQ (bZ 17 rfl rfl) bX) rfl rfl (dZ rfl (cZ (Ht rfl))) (cQ (Ei := [(183, _)]) rfl rfl (bQ (bZ 18 rfl rfl) bX) rfl rfl (dZ rfl (dU (Ht rfl) rfl)) (cQ (Ei := [(183, _)]) rfl rfl (bQ (bZ 18 rfl rfl) bX) rfl rfl (dZ rfl (dU (Ht rfl) rfl)) (Y.D_newp (Ei := []) (fun bb => box bb 30 [NumsT ZA, NumM SA]) 22 rfl rfl rfl bX rfl rfl (by kernel_rfl) (eG (Ts := [Is (.slice none 0 0), Is (.slice none 0 0)]) O_30 rfl (fun V => aW ⟨rfl, trivial⟩ (aW ⟨rfl, trivial⟩ (aG)))) ?_)))
     refine Y.D_putN (Ei := [(202, _)]) 21 rfl rfl rfl rfl rfl rfl (bQ (bZ 19 rfl rfl) bX) (fun bb => P_stA Z_30 (Ht rfl) (Ht rfl) rfl (i := 0) rfl (aK rfl) rfl rfl) (Y.D_done mixed rfl (by kernel_rfl) rfl (by simp [Y.okP]) rfl rfl (bU (bU (bU (bU (bU (bU (bU (bU (bU (bU (bU (bU (bU (bU (bU (bU (bU (bU (bU (bU (bU (Y.F_newp (fun B26 => Y.F_putN (Y.F_nil ?_)))))))))))))))))))))))))
     refine ra rfl (eZ (cU (T_keep [0, 1, 2, 3, 4] rfl (by decide) (dQ (rm rfl (ro rfl (op_eql (Ht rfl) cW) (rm rfl (fX rfl rfl (eU rfl rfl (Ht rfl) (fun h => cZ (Ht rfl))) (fX rfl rfl (eU rfl rfl (Ht rfl) (fun h => op_eql (fV rfl h) cW)) (ro rfl (op_and (Ht rfl) (fun h => (fV rfl h))) (rm rfl (fX rfl rfl (eU rfl rfl (Ht rfl) (fun h => eW A_30 Z_30 (Ht rfl) (i := 4) rfl rfl rfl)) (fX rfl rfl (eU rfl rfl (Ht rfl) (fun h => eW A_30 Z_30 (Ht rfl) (i := 1) rfl rfl rfl)) (fX rfl rfl (eU rfl rfl (Ht rfl) (fun h => cJ Tryz.call36 kE ⟨(fV rfl h), (fV rfl h), trivial⟩)) ?_))))))))))))))
     refine fX rfl rfl (eU rfl rfl (Ht rfl) (fun h => op_not (fV rfl h))) (ro rfl (op_and (Ht rfl) (fun h => (fV rfl h))) (rm rfl (fX rfl rfl (eU rfl rfl (Ht rfl) (fun h => cZ (Ht rfl))) (fX rfl rfl (eU rfl rfl (Ht rfl) (fun h => op_eql (fV rfl h) cW)) (fX rfl rfl (eU rfl rfl (Ht rfl) (fun h => cZ (Ht rfl))) (fX rfl rfl (eU rfl rfl (Ht rfl) (fun h => op_eql (fV rfl h) cW)) (fX rfl rfl (eU rfl rfl (Ht rfl) (fun h => op_bne U_4 (fV rfl h) (fV rfl h))) (ro rfl (op_or (Ht rfl) (fun h => (fV rfl h))) ?_))))))))
     refine eZ (T_condF (Ht rfl) (by rcases hEA with h | h <;> simp [h]) ?_)
     refine cY (T_keep [0, 1, 2, 3] rfl (by decide) (T_joined () trivial (aQ rfl (aQ rfl (aQ rfl (aQ rfl (aQ rfl (aQ rfl (aQ rfl aX))))))) (aU (box_of rfl) (aU (box_of rfl) (aU (box_of rfl) (aU (box_of rfl) aY))))))
    ·refine cY (T_keep [0, 1, 2, 3] rfl (by decide) (T_joined () trivial (aQ rfl (aQ rfl (aQ rfl (aQ rfl (aQ rfl (aQ rfl (aQ rfl aX))))))) (aU (box_of rfl) (aU (box_of rfl) (aU (box_of rfl) (aU (box_of rfl) aY))))))
   ·refine ts (ro rfl (cJ Tryz.call15 c_awake4 trivial) (ra rfl (eZ ?_)))
    exact fG rfl (eY rfl)
end
section
open Go Go.ChangeShapes Go.WideShapes Go.ChangeAt Go.RowKit Go.Deep
section
variable {H : Type} {enc : TypeId × Value → H} {W : World} {base : Nat} {sp : Nat → Bool} {held : Bool}
theorem s125 : S3 Tryz.prog 24 5 22 22 := ⟨⟨_, _, _, Tryz.underlying24, rfl, rfl, rfl, rfl, rfl, rfl⟩, by kernel_rfl, by kernel_rfl, by kernel_rfl, by kernel_rfl⟩
theorem trod_partT {b0 : Nat} {v : Value} {d : DataW H} {p : List MemPlace} (ho : Value.okWide Tryz.prog W .any b0 24 v) (h : DataW.Trod enc Tryz.prog W base sp held 24 v d p) : ∃ (a : Nat) (zl sl : List Rt), (AggT [NT .u8 a, RatsT zl, RatsT sl]).p v (hv W) ∧ a < 256 := by
 obtain ⟨cs, rfl, _⟩ := okWide_struct Tryz.underlying24 ho
 obtain ⟨n, hn⟩ := h
 obtain ⟨x0, x1, x2, m, y0, y1, y2, hcs, h0, h1, h2⟩ := s125.open hn
 obtain ⟨i, e0, _, w⟩ := DataW.trod_int V_5 h0
 obtain ⟨v1, z, e1, k1⟩ := open_rats h1
 obtain ⟨v2, s, e2, k2⟩ := open_rats h2
 simp only [List.cons.injEq, and_true] at e0 e1 e2
 subst e0 e1 e2
 have hw := wf_u8 w
 have e : ((i.toNat : Nat) : Int) = i := by omega
 have hi : ∀ V, (NT .u8 i.toNat).p (.int .u8 i) V := fun V => by rw [show NT .u8 i.toNat = IntT .u8 i from congrArg (IntT .u8) e]; rfl
 have hcs2 : cs.toList = [.int .u8 i, x1, x2] := hcs
 exact ⟨i.toNat, z, s, ⟨cs.toList, rfl, by rw [hcs2]; exact aW ⟨hi _, trivial⟩ (aW ⟨k1, (sl_cells k1).2⟩ (aW ⟨k2, (sl_cells k2).2⟩ aG))⟩, by omega⟩
end
end
section
open Go Go.ChangeShapes Go.WideShapes Go.ChangeAt Go.RowKit Go.Deep
section
variable {H : Type} {enc : TypeId × Value → H} {W : World} {base : Nat} {sp : Nat → Bool} {held : Bool}
theorem okWide_arr {P : Program} {w : World} {r : Reach} {base : Nat} {t : TypeId} {v : Value} {n : Nat} {e : TypeId} (ht : P.underlying t = some (.array n e)) (h : Value.okWide P w r base t v) : ∃ cs, v = .agg cs ∧ cs.size = P.cellsOf t := by
 simp only [Value.okWide, ht] at h
 obtain ⟨cs, h1, h2, _⟩ := h
 exact ⟨cs, h1, h2⟩
theorem u8_of {i : Int} (w : 0 ≤ i ∧ i < 256) : ∀ V, (NT .u8 i.toNat).p (.int .u8 i) V := fun V => by
 have e : ((i.toNat : Nat) : Int) = i := by omega
 rw [show NT .u8 i.toNat = IntT .u8 i from congrArg (IntT .u8) e]; rfl
theorem trod_a4T {b0 : Nat} {v : Value} {d : DataW H} {p : List MemPlace} (ho : Value.okWide Tryz.prog W .any b0 63 v) (h : DataW.Trod enc Tryz.prog W base sp held 63 v d p) :
  ∃ a b c e : Nat, (AggT [NT .u8 a, NT .u8 b, NT .u8 c, NT .u8 e]).p v (hv W) ∧ a < 256 ∧ b < 256 ∧ c < 256 ∧ e < 256 := by
 obtain ⟨cs, rfl, _⟩ := okWide_arr Tryz.underlying63 ho
 obtain ⟨n, hn⟩ := h
 obtain ⟨xs, m, _, _, hl, hx, he⟩ := DataW.trod_array Tryz.underlying63 hn
 have hc : Tryz.prog.cellsOf 63 = 4 := by kernel_rfl
 have hi : Tryz.prog.cellsOf 5 = 1 := by kernel_rfl
 rw [hc] at hl
 obtain ⟨cl, hcl⟩ : ∃ cl, cl = cs.toList := ⟨_, rfl⟩
 have e9 : (Value.agg cs).cells.toList = cl := hcl.symm
 rw [e9] at hl he
 match cl, hl with
 | [c0, c1, c2, c3], _ =>
  match xs, hx with
  | [y0, y1, y2, y3], _ =>
   have e0 := he 0 (by omega)
   have e1 := he 1 (by omega)
   have e2 := he 2 (by omega)
   have e3 := he 3 (by omega)
   rw [hi] at e0 e1 e2 e3
   obtain ⟨i0, q0, _, w0⟩ := DataW.trod_int V_5 (show DataW.trod enc Tryz.prog W base sp held m 5 [c0] = some y0 from e0)
   obtain ⟨i1, q1, _, w1⟩ := DataW.trod_int V_5 (show DataW.trod enc Tryz.prog W base sp held m 5 [c1] = some y1 from e1)
   obtain ⟨i2, q2, _, w2⟩ := DataW.trod_int V_5 (show DataW.trod enc Tryz.prog W base sp held m 5 [c2] = some y2 from e2)
   obtain ⟨i3, q3, _, w3⟩ := DataW.trod_int V_5 (show DataW.trod enc Tryz.prog W base sp held m 5 [c3] = some y3 from e3)
   simp only [List.cons.injEq, and_true] at q0 q1 q2 q3
   subst q0 q1 q2 q3
   have b0 := wf_u8 w0
   have b1 := wf_u8 w1
   have b2 := wf_u8 w2
   have b3 := wf_u8 w3
   exact ⟨i0.toNat, i1.toNat, i2.toNat, i3.toNat, ⟨cs.toList, rfl, by rw [← hcl]; exact aW ⟨u8_of ⟨by omega, by omega⟩ _, trivial⟩ (aW ⟨u8_of ⟨by omega, by omega⟩ _, trivial⟩ (aW ⟨u8_of ⟨by omega, by omega⟩ _, trivial⟩ (aW ⟨u8_of ⟨by omega, by omega⟩ _, trivial⟩ aG)))⟩, by omega, by omega, by omega, by omega⟩
end
end
end Go.Proofs.YteimkhgiekndjaaGreat
