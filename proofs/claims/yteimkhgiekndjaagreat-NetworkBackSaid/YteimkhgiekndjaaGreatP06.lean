/- What functions of the program compute, proved by walks over their code, and the plain mathematics of it; a part of the proof in the last text. -/
import Derived.Test.YteimkhgiekndjaaGreatP05
set_option linter.unusedVariables false
set_option linter.unusedSimpArgs false
set_option maxRecDepth 100000
set_option maxHeartbeats 4000000
namespace Go.Proofs.YteimkhgiekndjaaGreat
section
open Go Go.RowKit
theorem c_left0 {z : List Qi} {s : List (List Qi)} (hl : z.length ≤ 1000) : Fun Tryz.prog 112 [NetT z s, Is (.slice none 0 0)] (IntsT ((lfG [] z.length).map Nat.succ)) :=
 (c_leftG (z := z) (s := s) (G := []) hl (by simp)).arg fun vs V h => match vs, h with
  | [_, b], ⟨h1, h2, _⟩ => ⟨h1, nil_slT b V h2, trivial⟩
theorem c_sameF {L : Nat} (hL : L ≤ 1000000) (x : FQ L) : Fun Tryz.prog 109 [NumT x.1.1, NumT x.1.2] (BoolT (phR 1 x.1.1 x.1.2)) := by
 haveI := x.2.1; haveI := x.2.2
 exact (c_Same (x := x.1.1) (y := x.1.2) (L := L) (M := L) (by omega) (by omega)).imp (bool_of (phR_one _ _).symm)
theorem c_Single1 {x y : Qi} {L : Nat} (hx : FitC x L) (hy : FitC y L) (hL : L ≤ 1000000) : Fun Tryz.prog 118 [NumT x, NumT y] (BoolT (phR 4 x y)) := by
 haveI := hx; haveI := hy
 haveI h4 : FitC (Qi.ofInt 4) 2 := ⟨Qi.Fit.int (by decide) (by decide +kernel)⟩
 refine Fun.intro Tryz.func118 rfl Tryz.ntmps118 rfl (fun cx => (ts (rn rfl (fG (Ht rfl)) fun B2 => (rn rfl (fG (Ht rfl)) fun B3 => (ro rfl (cQ cV) (eX (cK (fZ (m := 4) (dp 2 rfl (eJ A_45 Z_45 (Ht rfl) (i := 0) rfl rfl rfl) (dp 3 rfl (eJ A_45 Z_45 (Ht rfl) (i := 1) rfl rfl rfl) (d0 rfl (cZ K_86 (c_Int (n := 4) (by decide) (by decide)) ⟨(cJ 4), trivial⟩) (dqq 6 1 7 2 rfl (cZ K_67 (c_Mul (x := y) (y := Qi.ofInt 4) (L := L) (M := 2) (by omega)) ⟨(Ht rfl), (Ht rfl), trivial⟩) (fV mixed rfl (by kernel_rfl) (aJ (aJ (aJ (aJ (aV ?_))))))))))))))))))
 refine ro rfl (cZ Tryz.call109 (c_Same (x := x) (y := y * Qi.ofInt 4) (L := L) (M := L + 2 + 1) (by omega) (by omega)) ⟨(Ht rfl), (Ht rfl), trivial⟩) (ra rfl (eX (fW rfl (fX (eU rfl) ?_))))
 exact (bool_of (phR_four _ _).symm)
theorem c_Mixed {z : List Qi} {S : List (List Qi)} {js : List (Int × Int)} {L : Nat} (hS : Shp S z.length z.length) (hf : FitM S L) (hfz : FitL z L) (hL : 1 ≤ L) (hLb : L ≤ 1000) (h8 : z.length ≤ 8) (hj : js.length ≤ 100) : Fun Tryz.prog 31 [NetT z S, JsT js] (TupT [NetT (xdZ z js) (xdS z S js), IntT .i64 (xdE z js)]) := by
 haveI g5 := hlf_fit
 haveI g6 := two_fit
 refine Fun.intro Tryz.func31 rfl Tryz.ntmps31 rfl (fun cx => (ts (rn rfl (fG (Ht rfl)) fun B2 => (rn rfl (eW (Ts := [Is (.slice none 0 0), Is (.slice none 0 0)]) O_30 rfl (fun V => aW ⟨rfl, trivial⟩ (aW ⟨rfl, trivial⟩ (aG)))) fun B4 => (ro rfl (cQ (cJ 0)) (eX (cK (ts (ro rfl (eJ A_30 Z_30 (Ht rfl) (i := 0) rfl rfl rfl) (rm rfl (ro rfl (cZ Tryz.call108 (c_paired (φ := phR 1) (z := z) (S := S) (js := js) (L := L) hfz hL (by omega) (by omega) hj) ⟨(Ht rfl), (Ht rfl), (Has.fn Tryz.call109 (fun x : FQ L => c_sameF (by omega) x)), trivial⟩) ?_)))))))))))
 refine ra rfl (eX (ts (rm rfl (ro rfl (op_neq (Ht rfl) cV) (eX (dQ (Ht rfl) (fun hc => ?_) (fun hc => ?_)))))))
 ·have h3 : xdE z js ≠ 0 := by simpa [xdE] using hc
  refine ts (ro rfl (OpTy.imp (bld_30_ ) net_nil) (rm rfl (gQ Z_30 (Ht rfl) (Ht rfl) rfl (i := 1) rfl (aK rfl) rfl rfl (ra rfl (eX (T_ret2 rfl (fX (fK A_30 Z_30 rfl (i := 1) rfl rfl) ?_) (eU rfl)))))))
  exact (fun v V h => by rw [xdZ, xdS, okL, okL, if_neg h3, if_neg h3]; exact h)
 ·have h3 : xdE z js = 0 := by simpa [xdE] using hc
  have hp : prtE z.length (jfl js) = 0 := mo_prt (φ := phR 1) h3
  have hJ := prt_jn hp
  have hjl := mo_le hp
  refine cU (ts (ro rfl (cZ Tryz.call110 (c_New (p := 1) (q := 0) (d := 2) (by decide) (by decide) (by decide) (by decide) (by decide) (by decide) (by decide)) ⟨(cJ 1), (cJ 0), (cJ 2), trivial⟩) (rm rfl (ro rfl (dK (Ht rfl) rfl) (ro rfl (dK (Ht rfl) rfl) (rn rfl (eW (Ts := [Is (.bool false), Is (.slice none 0 0), Is (.bool false), Is (.slice none 0 0), Is (.slice none 0 0)]) O_45 rfl (fun V => aW ⟨rfl, trivial⟩ (aW ⟨rfl, trivial⟩ (aW ⟨rfl, trivial⟩ (aW ⟨rfl, trivial⟩ (aW ⟨rfl, trivial⟩ (aG))))))) fun B7 => ?_))))))
  refine gQ Z_45 (Ht rfl) (Ht rfl) rfl (i := 2) rfl (aK rfl) rfl rfl (ra rfl (eX (cK (gJ (i := 2) (tt := 7) rfl rfl frz_ptr (cY (rn rfl (eW (Ts := [Is (.bool false), Is (.slice none 0 0), Is (.bool false), Is (.slice none 0 0), Is (.slice none 0 0)]) O_45 rfl (fun V => aW ⟨rfl, trivial⟩ (aW ⟨rfl, trivial⟩ (aW ⟨rfl, trivial⟩ (aW ⟨rfl, trivial⟩ (aW ⟨rfl, trivial⟩ (aG))))))) fun B9 => (eX (ts (ro rfl (eJ A_45 Z_45 (Ht rfl) (i := 3) rfl rfl rfl) ?_)))))))))
  refine ro rfl (op_iface mkif_45 (Ht rfl)) (ro rfl (dJ A_45 Z_45 (Ht rfl)) (ro rfl (op_invoke meth_45_Of K_302 (c_OfZ (y := hlf)) (Ht rfl) ⟨(Ht rfl), trivial⟩) (rn rfl (eW (Ts := [Is (.bool false), Is (.slice none 0 0), Is (.bool false), Is (.slice none 0 0), Is (.slice none 0 0)]) O_45 rfl (fun V => aW ⟨rfl, trivial⟩ (aW ⟨rfl, trivial⟩ (aW ⟨rfl, trivial⟩ (aW ⟨rfl, trivial⟩ (aW ⟨rfl, trivial⟩ (aG))))))) fun B10 => (gQ Z_45 (Ht rfl) (Ht rfl) rfl (i := 4) rfl (aK rfl) rfl rfl ?_))))
  refine eX (cK (gJ (i := 4) (tt := 10) rfl rfl frz_ptr (fZ (m := 5) (dp 2 rfl (eJ A_30 Z_30 (Ht rfl) (i := 0) rfl rfl rfl) (dp 2 rfl (eJ A_30 Z_30 (Ht rfl) (i := 0) rfl rfl rfl) (dq 39 1 rfl (cZ Tryz.call112 (c_left0 (z := z) (s := S) (by omega)) ⟨(Ht rfl), cV, trivial⟩) (C.D_new (Ei := [(38, _), (40, _)]) rfl rfl rfl (bV (bG 0 rfl rfl) (bV (bG 2 rfl rfl) bW)) (new_call0 Tryz.call111 (FunO.pack (c_partZ (z := z) (s := S) (Q := lfG [] z.length) (m := z.length) hS (fun x h => lfG_lt h) (all_len _) (by omega) (by omega))) ⟨(Ht rfl), (Ht rfl), trivial⟩) ?_)))))))
  refine C.D_new (Ei := []) rfl rfl rfl bW (eW (Ts := [Is (.slice none 0 0), Is (.slice none 0 0)]) O_30 rfl (fun V => aW ⟨rfl, trivial⟩ (aW ⟨rfl, trivial⟩ (aG)))) (fV mixed rfl (by kernel_rfl) (aJ (aJ (aJ (C.F_new (fun B41 => C.F_new (fun B11 => aV (gQ Z_30 (Ht rfl) (Ht rfl) rfl (i := 6) rfl (aK rfl) rfl rfl (eX (cK (cK (T_keep [5, 1, 6] rfl (by decide) ?_))))))))))))
  obtain ⟨⟨vZ, bS⟩, hQ⟩ := B41
  refine T_star (X := [SA.emp, rowO 45 5 (.slice (some ⟨vZ, 0, none⟩) z.length z.length) ((subZ z (lfG [] z.length)).map NumT), matO bS 27 45 5 (FRow NumT (subM S (lfG [] z.length)))]) (Y := [box B4 30 [Is (.slice none 0 0), Is (.slice none 0 0)], box B11 30 [Is (.slice (some ⟨vZ, 0, none⟩) z.length z.length), Is (.slice (some ⟨bS, 0, none⟩) z.length z.length)]]) (T_keep [1, 2, 3, 4] rfl (by decide) (T_conv 1 rfl (matO_of (congrArg (FRow NumT) (all_subM hS))) (T_openW 1 rfl (fun vs hvs => ?_))))
  have hvl : vs.length = z.length := by have h := hvs.len; rw [FRow, List.length_map, hS.1] at h; exact h
  refine cY (rm rfl (ro rfl (dG U_59 (Ht rfl) len_map) (ro rfl (cX (cJ 0)) (eX (eG ?_)))))
  refine T_loop (fun (k : Nat) => k ≤ js.length) (fun (k : Nat) => js.length - k) (fun (k : Nat) => [(4, PtrB B4 0), (7, PT (NumT hlf)), (10, PT (NumT hlf)), (11, PtrB B11 0), (42, JsT js), (43, NT .i64 js.length), (44, NT .i64 k)]) (fun (k : Nat) => [rowO 45 5 (.slice (some ⟨vZ, 0, none⟩) z.length z.length) ((moZ (fun x => x * Qi.ofInt 2) (fun x => x * hlf) z js k).map NumT), matW bS 27 45 5 vs vs (FRow NumT (moM mxF S js z.length k)), box B4 30 [Is (.slice none 0 0), Is (.slice none 0 0)], box B11 30 [Is (.slice (some ⟨vZ, 0, none⟩) z.length z.length), Is (.slice (some ⟨bS, 0, none⟩) z.length z.length)]]) 0 (Nat.zero_le _)
   (aQ rfl (aQ rfl (aQ rfl (aQ rfl (aQ rfl (aQ rfl (aQ rfl aX))))))) (aU (rowO_of (by rw [all_sub]; rfl)) (aU (matW_of rfl) (aU (box_of rfl) (aU (box_of rfl) aY)))) (fun k hk => ?_)
  refine ts (ro rfl (gX (Ht rfl) (Ht rfl)) (eX (cK (dQ (Ht rfl) (fun hd => ?_) (fun hd => ?_)))))
  ·have hkn : k < js.length := by simp only [decide_eq_true_eq] at hd; omega
   obtain ⟨hp1, hq1, hpq1⟩ := jp_ne hJ hkn
   have hmm := fun x hx => prt_in hp x hx
   have hm1 : (jat js k).1 ∈ jfl js := by rw [jfl, List.mem_flatMap]; exact ⟨jat js k, by rw [show jat js k = js[k] by simp [jat, List.getD, hkn]]; exact List.getElem_mem hkn, by simp⟩
   have hm2 : (jat js k).2 ∈ jfl js := by rw [jfl, List.mem_flatMap]; exact ⟨jat js k, by rw [show jat js k = js[k] by simp [jat, List.getD, hkn]]; exact List.getElem_mem hkn, by simp⟩
   have hb1 := hmm _ hm1
   have hb2 := hmm _ hm2
   obtain ⟨q1, hq1d⟩ : ∃ q1, q1 = jp1 js k := ⟨_, rfl⟩
   obtain ⟨q2, hq2d⟩ : ∃ q2, q2 = jp2 js k := ⟨_, rfl⟩
   have he1 : (jat js k).1 - 1 = (q1 : Int) := by rw [hq1d]; show _ = (((jat js k).1 - 1).toNat : Int); omega
   have he2 : (jat js k).2 - 1 = (q2 : Int) := by rw [hq2d]; show _ = (((jat js k).2 - 1).toNat : Int); omega
   rw [← hq1d, ← hq2d] at hpq1
   rw [← hq1d] at hp1
   rw [← hq2d] at hq1
   obtain ⟨G, hG⟩ : ∃ G, G = moG L k := ⟨_, rfl⟩
   obtain ⟨Ak, hAk⟩ : ∃ Ak, Ak = moM mxF S js z.length k := ⟨_, rfl⟩
   have hAs : Shp Ak z.length z.length := by rw [hAk]; exact moM_shp hS k
   have hAf : FitM Ak G := by rw [hAk, hG]; exact moM_fit mx_s1 mx_s2 mx_s3 mx_s4 hf hL k
   have hG4 : G ≤ 4096 * L + 23400 := by rw [hG]; exact moG_four (by omega)
   have hG1 : 1 ≤ G := by rw [hG]; exact Nat.le_trans hL (moG_ge L k)
   have hnx : moM mxF S js z.length (k + 1) = colM mxF.g1 mxF.g2 (rowM mxF.f1 mxF.f2 Ak q1 q2 z.length z.length) q1 q2 z.length z.length := by rw [hAk, hq1d, hq2d]; rfl
   have hzn : moZ (fun x => x * Qi.ofInt 2) (fun x => x * hlf) z js (k + 1) = ((moZ (fun x => x * Qi.ofInt 2) (fun x => x * hlf) z js k).set q1 ((fun x => x * Qi.ofInt 2) (gv (moZ (fun x => x * Qi.ofInt 2) (fun x => x * hlf) z js k) q1))).set q2 ((fun x => x * hlf) (gv (moZ (fun x => x * Qi.ofInt 2) (fun x => x * hlf) z js k) q1)) := by rw [hq1d, hq2d]; rfl
   have hZf : FitL (moZ (fun x => x * Qi.ofInt 2) (fun x => x * hlf) z js k) (4096 * (L + 8)) := moZ_fit4 mul2_z mulh_z hfz hL (by omega)
   have hZl : (moZ (fun x => x * Qi.ofInt 2) (fun x => x * hlf) z js k).length = z.length := moZ_len _ _ _ _ _
   obtain ⟨Zk, hZk⟩ : ∃ Zk, Zk = (moZ (fun x => x * Qi.ofInt 2) (fun x => x * hlf) z js k) := ⟨_, rfl⟩
   rw [← hZk] at hZf hZl hzn
   rw [← hZk, ← hAk]
   refine cU (cK (eG (ts (ro rfl (dZ U_59 Z_120 (Ht rfl) (Ht rfl) rfl (dY (dU (d := (0, 0)) hkn))) (ro rfl (dJ Tryz.isAgg120 Z_120 (Ht rfl)) (rn rfl (eW (Ts := [Is (.int .i64 0), Is (.int .i64 0)]) O_120 rfl (fun V => aW ⟨rfl, trivial⟩ (aW ⟨rfl, trivial⟩ (aG)))) fun B13 => (gQ Z_120 (Ht rfl) (Ht rfl) rfl (i := 4) rfl (aK rfl) rfl rfl (eX (cK (gJ (i := 4) (tt := 13) rfl rfl frz_ptr (fZ (m := 7) (dp 13 rfl (op_idxA U_120 Z_3 (Ht rfl) cV rfl (by decide) rfl) ?_))))))))))))
   refine dq 48 0 rfl (dJ A_3 Z_3 (Ht rfl)) (dq 49 1 rfl (op_sub (Ht rfl) cV (r := ((q1 : Nat) : Int)) ((w64 (z := (jat js k).1 - 1) (by omega)).trans (by omega))) ?_)
   refine dp 13 rfl (op_idxA U_120 Z_3 (Ht rfl) cV rfl (by decide) rfl) (dq 51 3 rfl (dJ A_3 Z_3 (Ht rfl)) (dq 52 4 rfl (op_sub (Ht rfl) cV (r := ((q2 : Nat) : Int)) ((w64 (z := (jat js k).2 - 1) (by omega)).trans (by omega))) ?_))
   refine dq 50 2 rfl (cQ (Ht rfl)) (fV mixed rfl (by kernel_rfl) (aJ (aJ (aJ (aJ (aJ (aJ (aJ (aV (ra rfl (eX (cK (ts (ro rfl (eZ fa_30_1 (Ht rfl) rfl) (ro rfl (eY A_28 Z_28 (Ht rfl) (i := 3) rfl rfl) (ro rfl (op_lenI U_28 (Ht rfl)) (ro rfl (cX (cJ 0)) (eX (eG (T_keep [0, 1, 2, 3] rfl (by decide) ?_))))))))))))))))))))
   refine T_loop (fun (r : Nat) => r ≤ z.length) (fun (r : Nat) => z.length - r) (fun (r : Nat) => [(4, PtrB B4 0), (7, PT (NumT hlf)), (10, PT (NumT hlf)), (11, PtrB B11 0), (14, NT .i64 q1), (15, NT .i64 q2), (42, JsT js), (43, NT .i64 js.length), (44, NT .i64 k), (56, NT .i64 z.length), (57, NT .i64 r)]) (fun (r : Nat) => [rowO 45 5 (.slice (some ⟨vZ, 0, none⟩) z.length z.length) (Zk.map NumT), matW bS 27 45 5 vs vs (FRow NumT (rowM mxF.f1 mxF.f2 Ak q1 q2 z.length r)), box B4 30 [Is (.slice none 0 0), Is (.slice none 0 0)], box B11 30 [Is (.slice (some ⟨vZ, 0, none⟩) z.length z.length), Is (.slice (some ⟨bS, 0, none⟩) z.length z.length)]]) 0 (Nat.zero_le _)
    (aQ rfl (aQ rfl (aQ rfl (aQ rfl (aQ rfl (aQ rfl (aQ rfl (aQ rfl (aQ rfl (aQ rfl (aQ rfl aX))))))))))) (aU (fun _ _ _ h => h) (aU (matW_of (congrArg (FRow NumT) (rowM_zero hAs))) (aU (box_of rfl) (aU (box_of rfl) aY)))) (fun r hr => ?_)
   refine ts (ro rfl (gX (Ht rfl) (Ht rfl)) (eX (cK (dQ (Ht rfl) (fun hd2 => ?_) (fun hd2 => ?_)))))
   ·have hrn : r < z.length := by simp only [decide_eq_true_eq] at hd2; omega
    obtain ⟨X, hX⟩ : ∃ X, X = rowM mxF.f1 mxF.f2 Ak q1 q2 z.length r := ⟨_, rfl⟩
    have hXs : Shp X z.length z.length := by rw [hX]; exact rowM_shp
    have hXf : FitM X (2 * G + 8) := by rw [hX]; exact (row_fit mx_s1 mx_s2 hAf hG1).le (by omega)
    have hnr := row_next (f := mxF.f1) (g := mxF.f2) hX hp1 hq1 hpq1 hrn
    haveI g1 : FitC (gm X q1 r) (2 * G + 8) := hXf.get (by omega) _ _
    haveI g2 : FitC (gm X q2 r) (2 * G + 8) := hXf.get (by omega) _ _
    rw [← hX]
    have hY : Shp (setM X q1 r (gm X q1 r - gm X q2 r)) z.length z.length := setM_shp hXs
    refine cU (cK (eG (ts (rm rfl (ra rfl (eX (cK (Y.D_start (m := 19) [] (bY (Ei := [(11, _)]) rfl rfl (bQ (bJ rfl rfl) bX) rfl rfl (dX rfl (eZ fa_30_1 (Ht rfl) rfl)) (bY (Ei := [(60, _)]) rfl rfl (bQ (bZ 0 rfl rfl) bX) rfl rfl (dX rfl (eY A_28 Z_28 (Ht rfl) (i := 3) rfl rfl)) (bY (Ei := [(14, _)]) rfl rfl (bQ (bJ rfl rfl) bX) rfl rfl (dX rfl (cX (Ht rfl))) (bY (Ei := [(61, _), (62, _)]) rfl rfl (bQ (bZ 1 rfl rfl) (bQ (bZ 2 rfl rfl) bX)) rfl rfl (dX rfl (fY U_28 Z_27 (Ht rfl) (Ht rfl) rfl (by omega) (by rw [Nat.mul_one, Nat.zero_add]))) ?_))))))))))))
    refine bY (Ei := [(63, _)]) rfl rfl (bQ (bZ 3 rfl rfl) bX) rfl rfl (dX rfl (op_ldHW A_27 Z_27 (Ht rfl) (j := 1) rfl (by omega))) (bY (Ei := [(16, _)]) rfl rfl (bQ (bJ rfl rfl) bX) rfl rfl (dX rfl (cX (Ht rfl))) (bY (Ei := [(64, _), (65, _)]) rfl rfl (bQ (bZ 4 rfl rfl) (bQ (bZ 5 rfl rfl) bX)) rfl rfl (dX rfl (op_idxW U_27 Z_45 (Ht rfl) (Ht rfl) rfl (j := 1) rfl (w3a hvl hXs) (w3b hXs hp1) (w3c hXs hp1 hrn))) (bY (Ei := [(66, _)]) rfl rfl (bQ (bZ 6 rfl rfl) bX) rfl rfl (dX rfl (op_ldW A_45 Z_45 (Ht rfl) (j := 1) rfl (w3a hvl hXs) (w3b hXs hp1) (w3c hXs hp1 hrn))) ?_)))
    refine bY (Ei := [(11, _)]) rfl rfl (bQ (bJ rfl rfl) bX) rfl rfl (dX rfl (eZ fa_30_1 (Ht rfl) rfl)) (bY (Ei := [(68, _)]) rfl rfl (bQ (bZ 8 rfl rfl) bX) rfl rfl (dX rfl (eY A_28 Z_28 (Ht rfl) (i := 3) rfl rfl)) (bY (Ei := [(15, _)]) rfl rfl (bQ (bJ rfl rfl) bX) rfl rfl (dX rfl (cX (Ht rfl))) (bY (Ei := [(69, _), (70, _)]) rfl rfl (bQ (bZ 9 rfl rfl) (bQ (bZ 10 rfl rfl) bX)) rfl rfl (dX rfl (fY U_28 Z_27 (Ht rfl) (Ht rfl) rfl (by omega) (by rw [Nat.mul_one, Nat.zero_add]))) ?_)))
    refine bY (Ei := [(71, _)]) rfl rfl (bQ (bZ 11 rfl rfl) bX) rfl rfl (dX rfl (op_ldHW A_27 Z_27 (Ht rfl) (j := 1) rfl (by omega))) (bY (Ei := [(16, _)]) rfl rfl (bQ (bJ rfl rfl) bX) rfl rfl (dX rfl (cX (Ht rfl))) (bY (Ei := [(72, _), (73, _)]) rfl rfl (bQ (bZ 12 rfl rfl) (bQ (bZ 13 rfl rfl) bX)) rfl rfl (dX rfl (op_idxW U_27 Z_45 (Ht rfl) (Ht rfl) rfl (j := 1) rfl (w3a hvl hXs) (w3b hXs hq1) (w3c hXs hq1 hrn))) (bY (Ei := [(74, _)]) rfl rfl (bQ (bZ 14 rfl rfl) bX) rfl rfl (dX rfl (op_ldW A_45 Z_45 (Ht rfl) (j := 1) rfl (w3a hvl hXs) (w3b hXs hq1) (w3c hXs hq1 hrn))) ?_)))
    refine Y.D_newp (Ei := []) (fun bb => box bb 45 [BoolT (decide ((gm X q1 r).a < 0)), NatT (gm X q1 r).a.natAbs, BoolT (decide ((gm X q1 r).b < 0)), NatT (gm X q1 r).b.natAbs, NatT (du (gm X q1 r))]) 18 rfl rfl rfl bX rfl rfl (by kernel_rfl) (eW (Ts := [Is (.bool false), Is (.slice none 0 0), Is (.bool false), Is (.slice none 0 0), Is (.slice none 0 0)]) O_45 rfl (fun V => aW ⟨rfl, trivial⟩ (aW ⟨rfl, trivial⟩ (aW ⟨rfl, trivial⟩ (aW ⟨rfl, trivial⟩ (aW ⟨rfl, trivial⟩ (aG))))))) (Y.D_new (Ei := []) rfl rfl rfl bX rfl rfl (eW (Ts := [Is (.bool false), Is (.slice none 0 0), Is (.bool false), Is (.slice none 0 0), Is (.slice none 0 0)]) O_45 rfl (fun V => aW ⟨rfl, trivial⟩ (aW ⟨rfl, trivial⟩ (aW ⟨rfl, trivial⟩ (aW ⟨rfl, trivial⟩ (aW ⟨rfl, trivial⟩ (aG))))))) ?_)
    refine Y.D_putN (Ei := [(67, _)]) 16 rfl rfl rfl rfl rfl rfl (bQ (bZ 7 rfl rfl) bX) (fun bb => P_stA Z_45 (Ht rfl) (Ht rfl) rfl (i := 0) rfl (aK rfl) rfl rfl) (Y.D_done mixed rfl (by kernel_rfl) rfl (by simp [Y.okP]) rfl rfl (bU (bU (bU (bU (bU (bU (bU (bU (bU (bU (bU (bU (bU (bU (bU (bU (Y.F_newp (fun B17 => Y.F_new (fun B18 => Y.F_putN (Y.F_nil ?_)))))))))))))))))))))
    refine gQ Z_45 (Ht rfl) (Ht rfl) rfl (i := 5) rfl (aK rfl) rfl rfl (eX (gJ (i := 4) (tt := 17) rfl rfl frz_ptr (gJ (i := 5) (tt := 18) rfl rfl frz_ptr (T_keep [0, 1, 2, 3] rfl (by decide) (W.D_start (m := 25) (fun b => cond b ([rowO 45 5 (.slice (some ⟨vZ, 0, none⟩) z.length z.length) (Zk.map NumT), matW bS 27 45 5 vs vs (FRow NumT (X.set q1 ((X.getD q1 []).set r (gm X q1 r - gm X q2 r)))), box B4 30 [Is (.slice none 0 0), Is (.slice none 0 0)], box B11 30 [Is (.slice (some ⟨vZ, 0, none⟩) z.length z.length), Is (.slice (some ⟨bS, 0, none⟩) z.length z.length)]]) _) 24 ?_)))))
    refine W.D_step (Ei := [(11, _)]) rfl rfl (W.Srcs.cons (W.Src.pre rfl rfl) W.Srcs.nil) rfl (by kernel_rfl) (dX rfl (eZ fa_30_1 (Ht rfl) rfl)) (W.D_step (Ei := [(76, _)]) rfl rfl (W.Srcs.cons (W.Src.op 0 rfl rfl) W.Srcs.nil) rfl (by kernel_rfl) (dX rfl (eY A_28 Z_28 (Ht rfl) (i := 3) rfl rfl)) (W.D_step (Ei := [(14, _)]) rfl rfl (W.Srcs.cons (W.Src.pre rfl rfl) W.Srcs.nil) rfl (by kernel_rfl) (dX rfl (cX (Ht rfl))) (W.D_step (Ei := [(77, _), (78, _)]) rfl rfl (W.Srcs.cons (W.Src.op 1 rfl rfl) (W.Srcs.cons (W.Src.op 2 rfl rfl) W.Srcs.nil)) rfl (by kernel_rfl) (dX rfl (fY U_28 Z_27 (Ht rfl) (Ht rfl) rfl (by omega) (by rw [Nat.mul_one, Nat.zero_add]))) ?_)))
    refine W.D_step (Ei := [(79, _)]) rfl rfl (W.Srcs.cons (W.Src.op 3 rfl rfl) W.Srcs.nil) rfl (by kernel_rfl) (dX rfl (op_ldHW A_27 Z_27 (Ht rfl) (j := 1) rfl (by omega))) (W.D_step (Ei := [(16, _)]) rfl rfl (W.Srcs.cons (W.Src.pre rfl rfl) W.Srcs.nil) rfl (by kernel_rfl) (dX rfl (cX (Ht rfl))) (W.D_step (Ei := [(11, _)]) rfl rfl (W.Srcs.cons (W.Src.pre rfl rfl) W.Srcs.nil) rfl (by kernel_rfl) (dX rfl (eZ fa_30_1 (Ht rfl) rfl)) (W.D_step (Ei := [(82, _)]) rfl rfl (W.Srcs.cons (W.Src.op 6 rfl rfl) W.Srcs.nil) rfl (by kernel_rfl) (dX rfl (eY A_28 Z_28 (Ht rfl) (i := 3) rfl rfl)) ?_)))
    refine W.D_step (Ei := [(15, _)]) rfl rfl (W.Srcs.cons (W.Src.pre rfl rfl) W.Srcs.nil) rfl (by kernel_rfl) (dX rfl (cX (Ht rfl))) (W.D_step (Ei := [(83, _), (84, _)]) rfl rfl (W.Srcs.cons (W.Src.op 7 rfl rfl) (W.Srcs.cons (W.Src.op 8 rfl rfl) W.Srcs.nil)) rfl (by kernel_rfl) (dX rfl (fY U_28 Z_27 (Ht rfl) (Ht rfl) rfl (by omega) (by rw [Nat.mul_one, Nat.zero_add]))) ?_)
    refine W.D_step (Ei := [(85, _)]) rfl rfl (W.Srcs.cons (W.Src.op 9 rfl rfl) W.Srcs.nil) rfl (by kernel_rfl) (dX rfl (op_ldHW A_27 Z_27 (Ht rfl) (j := 1) rfl (by omega))) (W.D_pure (Ei := [(16, _)]) rfl rfl (W.Srcs.cons (W.Src.pre rfl rfl) W.Srcs.nil) rfl (fun _ => dX rfl (cX (Ht rfl))) (W.D_step (Ei := [(17, _)]) rfl rfl (W.Srcs.cons (W.Src.pre rfl rfl) W.Srcs.nil) rfl (by kernel_rfl) (dX rfl (dJ A_45 Z_45 (Ht rfl))) (W.D_step (Ei := [(88, _)]) rfl rfl (W.Srcs.cons (W.Src.op 12 rfl rfl) W.Srcs.nil) rfl (by kernel_rfl) (dX rfl (op_iface mkif_45 (Ht rfl))) ?_)))
    refine W.D_step (Ei := [(18, _)]) rfl rfl (W.Srcs.cons (W.Src.pre rfl rfl) W.Srcs.nil) rfl (by kernel_rfl) (dX rfl (dJ A_45 Z_45 (Ht rfl))) (W.D_step (Ei := [(89, _), (90, _)]) rfl rfl (W.Srcs.cons (W.Src.op 13 rfl rfl) (W.Srcs.cons (W.Src.op 14 rfl rfl) W.Srcs.nil)) rfl (by kernel_rfl) (dX rfl (op_invoke meth_45_Sub K_66 (c_Sub (x := (gm X q1 r)) (y := (gm X q2 r)) (L := 2 * G + 8) (M := 2 * G + 8) (by omega)) (Ht rfl) ⟨(Ht rfl), trivial⟩)) (W.D_step (Ei := [(17, _)]) rfl rfl (W.Srcs.cons (W.Src.pre rfl rfl) W.Srcs.nil) rfl (by kernel_rfl) (dX rfl (dJ A_45 Z_45 (Ht rfl))) ?_))
    refine W.D_step (Ei := [(92, _)]) rfl rfl (W.Srcs.cons (W.Src.op 16 rfl rfl) W.Srcs.nil) rfl (by kernel_rfl) (dX rfl (op_iface mkif_45 (Ht rfl))) (W.D_step (Ei := [(18, _)]) rfl rfl (W.Srcs.cons (W.Src.pre rfl rfl) W.Srcs.nil) rfl (by kernel_rfl) (dX rfl (dJ A_45 Z_45 (Ht rfl))) (W.D_step (Ei := [(93, _), (94, _)]) rfl rfl (W.Srcs.cons (W.Src.op 17 rfl rfl) (W.Srcs.cons (W.Src.op 18 rfl rfl) W.Srcs.nil)) rfl (by kernel_rfl) (dX rfl (op_invoke meth_45_Add K_68 (c_Add (x := (gm X q1 r)) (y := (gm X q2 r)) (L := 2 * G + 8) (M := 2 * G + 8) (by omega)) (Ht rfl) ⟨(Ht rfl), trivial⟩)) ?_))
    refine W.D_step (Ei := [(95, _)]) rfl rfl (W.Srcs.cons (W.Src.op 19 rfl rfl) W.Srcs.nil) rfl (by kernel_rfl) (dX rfl (op_iface mkif_45 (Ht rfl))) (W.D_step (Ei := [(10, _)]) rfl rfl (W.Srcs.cons (W.Src.pre rfl rfl) W.Srcs.nil) rfl (by kernel_rfl) (dX rfl (dJ A_45 Z_45 (Ht rfl))) (W.D_step (Ei := [(96, _), (97, _)]) rfl rfl (W.Srcs.cons (W.Src.op 20 rfl rfl) (W.Srcs.cons (W.Src.op 21 rfl rfl) W.Srcs.nil)) rfl (by kernel_rfl) (dX rfl (op_invoke meth_45_Mul K_67 (c_Mul (x := ((gm X q1 r) + (gm X q2 r))) (y := hlf) (L := 2 * G + 8 + (2 * G + 8) + 1) (M := 2) (by omega)) (Ht rfl) ⟨(Ht rfl), trivial⟩)) ?_))
    refine W.D_step (Ei := [(80, _), (81, _)]) rfl rfl (W.Srcs.cons (W.Src.op 4 rfl rfl) (W.Srcs.cons (W.Src.op 5 rfl rfl) W.Srcs.nil)) rfl (by kernel_rfl) (dX rfl (op_idxW U_27 Z_45 (Ht rfl) (Ht rfl) rfl (j := 1) rfl (w3a hvl hXs) (w3b hXs hp1) (w3c hXs hp1 hrn))) (W.D_put (Ei := [(99, _), (91, _)]) rfl rfl (W.Srcs.cons (W.Src.op 23 rfl rfl) (W.Srcs.cons (W.Src.op 15 rfl rfl) W.Srcs.nil)) rfl ((P_at (j := 1) (P_stW (F := NumT) Z_45 (Ht rfl) (Ht rfl) (El.ag rfl) (w3a hvl hXs) (w3b hXs hp1) (w3c hXs hp1 hrn)) rfl rfl)) (W.D_done mixed rfl (by kernel_rfl) rfl (W.F_val (W.F_val (W.F_val (W.F_val (W.F_val (W.F_val (W.F_val (W.F_val (W.F_val (W.F_val (W.F_val (W.F_val (W.F_val (W.F_val (W.F_val (W.F_val (W.F_val (W.F_val (W.F_val (W.F_val (W.F_val (W.F_val (W.F_val (W.F_val (W.F_put (W.F_nil ?_))))))))))))))))))))))))))))
    refine ro rfl (op_idxW U_27 Z_45 (Ht rfl) (Ht rfl) rfl (j := 1) rfl (w3a hvl hY) (w3b hY hq1) (w3c hY hq1 hrn)) (R_stW (F := NumT) Z_45 (Ht rfl) (Ht rfl) (j := 1) rfl (El.ag rfl) (w3a hvl hY) (w3b hY hq1) (w3c hY hq1 hrn) rfl (eX (T_blk (cY (ro rfl (dV (Ht rfl) (cJ 1) (by show _ < 9223372036854775808; first | omega | (simp only [lim]; omega))) (rm rfl (eX (T_keep [0, 1, 2, 3] rfl (by decide) (fU (r + 1) hrn (by omega) (aQ rfl (aQ rfl (aQ rfl (aQ rfl (aQ rfl (aQ rfl (aQ rfl (aQ rfl (aQ rfl (aQ rfl (aQ rfl aX))))))))))) (aU (fun _ _ _ h => h) (aU (matW_of (congrArg (FRow NumT) hnr)) (aU (box_of rfl) (aU (box_of rfl) aY)))))))))))))
   ·obtain rfl : r = z.length := by simp only [decide_eq_false_iff_not] at hd2; omega
    obtain ⟨Bk, hBk⟩ : ∃ Bk, Bk = rowM mxF.f1 mxF.f2 Ak q1 q2 z.length z.length := ⟨_, rfl⟩
    have hBs : Shp Bk z.length z.length := by rw [hBk]; exact rowM_shp
    have hBf : FitM Bk (2 * G + 8) := by rw [hBk]; exact row_fit mx_s1 mx_s2 hAf hG1
    rw [← hBk] at hnx ⊢
    refine gV rfl (cK (ts (ro rfl (eZ fa_30_1 (Ht rfl) rfl) (ro rfl (eY A_28 Z_28 (Ht rfl) (i := 3) rfl rfl) (ro rfl (op_lenI U_28 (Ht rfl)) (ro rfl (cX (cJ 0)) (eX (eG (T_keep [0, 1, 2, 3] rfl (by decide) ?_)))))))))
    refine T_loop (fun (r : Nat) => r ≤ z.length) (fun (r : Nat) => z.length - r) (fun (r : Nat) => [(4, PtrB B4 0), (7, PT (NumT hlf)), (10, PT (NumT hlf)), (11, PtrB B11 0), (14, NT .i64 q1), (15, NT .i64 q2), (42, JsT js), (43, NT .i64 js.length), (44, NT .i64 k), (104, NT .i64 z.length), (105, NT .i64 r)]) (fun (r : Nat) => [rowO 45 5 (.slice (some ⟨vZ, 0, none⟩) z.length z.length) (Zk.map NumT), matW bS 27 45 5 vs vs (FRow NumT (colM mxF.g1 mxF.g2 Bk q1 q2 z.length r)), box B4 30 [Is (.slice none 0 0), Is (.slice none 0 0)], box B11 30 [Is (.slice (some ⟨vZ, 0, none⟩) z.length z.length), Is (.slice (some ⟨bS, 0, none⟩) z.length z.length)]]) 0 (Nat.zero_le _)
     (aQ rfl (aQ rfl (aQ rfl (aQ rfl (aQ rfl (aQ rfl (aQ rfl (aQ rfl (aQ rfl (aQ rfl (aQ rfl aX))))))))))) (aU (fun _ _ _ h => h) (aU (matW_of (congrArg (FRow NumT) (colM_zero hBs))) (aU (box_of rfl) (aU (box_of rfl) aY)))) (fun r hr => ?_)
    refine ts (ro rfl (gX (Ht rfl) (Ht rfl)) (eX (cK (dQ (Ht rfl) (fun hd2 => ?_) (fun hd2 => ?_)))))
    ·have hrn : r < z.length := by simp only [decide_eq_true_eq] at hd2; omega
     obtain ⟨X, hX⟩ : ∃ X, X = colM mxF.g1 mxF.g2 Bk q1 q2 z.length r := ⟨_, rfl⟩
     have hXs : Shp X z.length z.length := by rw [hX]; exact colM_shp
     have hXf : FitM X (4 * G + 24) := by rw [hX]; exact (col_fit mx_s3 mx_s4 hBf (by omega)).le (by omega)
     have hnr := col_next (f := mxF.g1) (g := mxF.g2) hX hp1 hq1 hpq1 hrn
     haveI g1 : FitC (gm X r q1) (4 * G + 24) := hXf.get (by omega) _ _
     haveI g2 : FitC (gm X r q2) (4 * G + 24) := hXf.get (by omega) _ _
     rw [← hX]
     have hY : Shp (setM X r q1 ((gm X r q1 - gm X r q2) * hlf)) z.length z.length := setM_shp hXs
     refine cU (cK (eG (ts (rm rfl (ra rfl (eX (cK (Y.D_start (m := 19) [] (bY (Ei := [(11, _)]) rfl rfl (bQ (bJ rfl rfl) bX) rfl rfl (dX rfl (eZ fa_30_1 (Ht rfl) rfl)) (bY (Ei := [(108, _)]) rfl rfl (bQ (bZ 0 rfl rfl) bX) rfl rfl (dX rfl (eY A_28 Z_28 (Ht rfl) (i := 3) rfl rfl)) (bY (Ei := [(19, _)]) rfl rfl (bQ (bJ rfl rfl) bX) rfl rfl (dX rfl (cX (Ht rfl))) (bY (Ei := [(109, _), (110, _)]) rfl rfl (bQ (bZ 1 rfl rfl) (bQ (bZ 2 rfl rfl) bX)) rfl rfl (dX rfl (fY U_28 Z_27 (Ht rfl) (Ht rfl) rfl (by omega) (by rw [Nat.mul_one, Nat.zero_add]))) ?_))))))))))))
     refine bY (Ei := [(111, _)]) rfl rfl (bQ (bZ 3 rfl rfl) bX) rfl rfl (dX rfl (op_ldHW A_27 Z_27 (Ht rfl) (j := 1) rfl (by omega))) (bY (Ei := [(14, _)]) rfl rfl (bQ (bJ rfl rfl) bX) rfl rfl (dX rfl (cX (Ht rfl))) (bY (Ei := [(112, _), (113, _)]) rfl rfl (bQ (bZ 4 rfl rfl) (bQ (bZ 5 rfl rfl) bX)) rfl rfl (dX rfl (op_idxW U_27 Z_45 (Ht rfl) (Ht rfl) rfl (j := 1) rfl (w3a hvl hXs) (w3b hXs hrn) (w3c hXs hrn hp1))) (bY (Ei := [(114, _)]) rfl rfl (bQ (bZ 6 rfl rfl) bX) rfl rfl (dX rfl (op_ldW A_45 Z_45 (Ht rfl) (j := 1) rfl (w3a hvl hXs) (w3b hXs hrn) (w3c hXs hrn hp1))) ?_)))
     refine bY (Ei := [(11, _)]) rfl rfl (bQ (bJ rfl rfl) bX) rfl rfl (dX rfl (eZ fa_30_1 (Ht rfl) rfl)) (bY (Ei := [(116, _)]) rfl rfl (bQ (bZ 8 rfl rfl) bX) rfl rfl (dX rfl (eY A_28 Z_28 (Ht rfl) (i := 3) rfl rfl)) (bY (Ei := [(19, _)]) rfl rfl (bQ (bJ rfl rfl) bX) rfl rfl (dX rfl (cX (Ht rfl))) (bY (Ei := [(117, _), (118, _)]) rfl rfl (bQ (bZ 9 rfl rfl) (bQ (bZ 10 rfl rfl) bX)) rfl rfl (dX rfl (fY U_28 Z_27 (Ht rfl) (Ht rfl) rfl (by omega) (by rw [Nat.mul_one, Nat.zero_add]))) ?_)))
     refine bY (Ei := [(119, _)]) rfl rfl (bQ (bZ 11 rfl rfl) bX) rfl rfl (dX rfl (op_ldHW A_27 Z_27 (Ht rfl) (j := 1) rfl (by omega))) (bY (Ei := [(15, _)]) rfl rfl (bQ (bJ rfl rfl) bX) rfl rfl (dX rfl (cX (Ht rfl))) (bY (Ei := [(120, _), (121, _)]) rfl rfl (bQ (bZ 12 rfl rfl) (bQ (bZ 13 rfl rfl) bX)) rfl rfl (dX rfl (op_idxW U_27 Z_45 (Ht rfl) (Ht rfl) rfl (j := 1) rfl (w3a hvl hXs) (w3b hXs hrn) (w3c hXs hrn hq1))) (bY (Ei := [(122, _)]) rfl rfl (bQ (bZ 14 rfl rfl) bX) rfl rfl (dX rfl (op_ldW A_45 Z_45 (Ht rfl) (j := 1) rfl (w3a hvl hXs) (w3b hXs hrn) (w3c hXs hrn hq1))) ?_)))
     refine Y.D_newp (Ei := []) (fun bb => box bb 45 [BoolT (decide ((gm X r q1).a < 0)), NatT (gm X r q1).a.natAbs, BoolT (decide ((gm X r q1).b < 0)), NatT (gm X r q1).b.natAbs, NatT (du (gm X r q1))]) 18 rfl rfl rfl bX rfl rfl (by kernel_rfl) (eW (Ts := [Is (.bool false), Is (.slice none 0 0), Is (.bool false), Is (.slice none 0 0), Is (.slice none 0 0)]) O_45 rfl (fun V => aW ⟨rfl, trivial⟩ (aW ⟨rfl, trivial⟩ (aW ⟨rfl, trivial⟩ (aW ⟨rfl, trivial⟩ (aW ⟨rfl, trivial⟩ (aG))))))) (Y.D_new (Ei := []) rfl rfl rfl bX rfl rfl (eW (Ts := [Is (.bool false), Is (.slice none 0 0), Is (.bool false), Is (.slice none 0 0), Is (.slice none 0 0)]) O_45 rfl (fun V => aW ⟨rfl, trivial⟩ (aW ⟨rfl, trivial⟩ (aW ⟨rfl, trivial⟩ (aW ⟨rfl, trivial⟩ (aW ⟨rfl, trivial⟩ (aG))))))) ?_)
     refine Y.D_putN (Ei := [(115, _)]) 16 rfl rfl rfl rfl rfl rfl (bQ (bZ 7 rfl rfl) bX) (fun bb => P_stA Z_45 (Ht rfl) (Ht rfl) rfl (i := 0) rfl (aK rfl) rfl rfl) (Y.D_done mixed rfl (by kernel_rfl) rfl (by simp [Y.okP]) rfl rfl (bU (bU (bU (bU (bU (bU (bU (bU (bU (bU (bU (bU (bU (bU (bU (bU (Y.F_newp (fun B20 => Y.F_new (fun B21 => Y.F_putN (Y.F_nil ?_)))))))))))))))))))))
     refine gQ Z_45 (Ht rfl) (Ht rfl) rfl (i := 5) rfl (aK rfl) rfl rfl (eX (gJ (i := 4) (tt := 20) rfl rfl frz_ptr (gJ (i := 5) (tt := 21) rfl rfl frz_ptr (T_keep [0, 1, 2, 3] rfl (by decide) (W.D_start (m := 25) (fun b => cond b ([rowO 45 5 (.slice (some ⟨vZ, 0, none⟩) z.length z.length) (Zk.map NumT), matW bS 27 45 5 vs vs (FRow NumT (X.set r ((X.getD r []).set q1 ((gm X r q1 - gm X r q2) * hlf)))), box B4 30 [Is (.slice none 0 0), Is (.slice none 0 0)], box B11 30 [Is (.slice (some ⟨vZ, 0, none⟩) z.length z.length), Is (.slice (some ⟨bS, 0, none⟩) z.length z.length)]]) _) 24 ?_)))))
     refine W.D_step (Ei := [(11, _)]) rfl rfl (W.Srcs.cons (W.Src.pre rfl rfl) W.Srcs.nil) rfl (by kernel_rfl) (dX rfl (eZ fa_30_1 (Ht rfl) rfl)) (W.D_step (Ei := [(124, _)]) rfl rfl (W.Srcs.cons (W.Src.op 0 rfl rfl) W.Srcs.nil) rfl (by kernel_rfl) (dX rfl (eY A_28 Z_28 (Ht rfl) (i := 3) rfl rfl)) (W.D_step (Ei := [(19, _)]) rfl rfl (W.Srcs.cons (W.Src.pre rfl rfl) W.Srcs.nil) rfl (by kernel_rfl) (dX rfl (cX (Ht rfl))) (W.D_step (Ei := [(125, _), (126, _)]) rfl rfl (W.Srcs.cons (W.Src.op 1 rfl rfl) (W.Srcs.cons (W.Src.op 2 rfl rfl) W.Srcs.nil)) rfl (by kernel_rfl) (dX rfl (fY U_28 Z_27 (Ht rfl) (Ht rfl) rfl (by omega) (by rw [Nat.mul_one, Nat.zero_add]))) ?_)))
     refine W.D_step (Ei := [(127, _)]) rfl rfl (W.Srcs.cons (W.Src.op 3 rfl rfl) W.Srcs.nil) rfl (by kernel_rfl) (dX rfl (op_ldHW A_27 Z_27 (Ht rfl) (j := 1) rfl (by omega))) (W.D_step (Ei := [(14, _)]) rfl rfl (W.Srcs.cons (W.Src.pre rfl rfl) W.Srcs.nil) rfl (by kernel_rfl) (dX rfl (cX (Ht rfl))) (W.D_step (Ei := [(11, _)]) rfl rfl (W.Srcs.cons (W.Src.pre rfl rfl) W.Srcs.nil) rfl (by kernel_rfl) (dX rfl (eZ fa_30_1 (Ht rfl) rfl)) (W.D_step (Ei := [(130, _)]) rfl rfl (W.Srcs.cons (W.Src.op 6 rfl rfl) W.Srcs.nil) rfl (by kernel_rfl) (dX rfl (eY A_28 Z_28 (Ht rfl) (i := 3) rfl rfl)) ?_)))
     refine W.D_step (Ei := [(19, _)]) rfl rfl (W.Srcs.cons (W.Src.pre rfl rfl) W.Srcs.nil) rfl (by kernel_rfl) (dX rfl (cX (Ht rfl))) (W.D_step (Ei := [(131, _), (132, _)]) rfl rfl (W.Srcs.cons (W.Src.op 7 rfl rfl) (W.Srcs.cons (W.Src.op 8 rfl rfl) W.Srcs.nil)) rfl (by kernel_rfl) (dX rfl (fY U_28 Z_27 (Ht rfl) (Ht rfl) rfl (by omega) (by rw [Nat.mul_one, Nat.zero_add]))) ?_)
     refine W.D_step (Ei := [(133, _)]) rfl rfl (W.Srcs.cons (W.Src.op 9 rfl rfl) W.Srcs.nil) rfl (by kernel_rfl) (dX rfl (op_ldHW A_27 Z_27 (Ht rfl) (j := 1) rfl (by omega))) (W.D_pure (Ei := [(15, _)]) rfl rfl (W.Srcs.cons (W.Src.pre rfl rfl) W.Srcs.nil) rfl (fun _ => dX rfl (cX (Ht rfl))) (W.D_step (Ei := [(20, _)]) rfl rfl (W.Srcs.cons (W.Src.pre rfl rfl) W.Srcs.nil) rfl (by kernel_rfl) (dX rfl (dJ A_45 Z_45 (Ht rfl))) (W.D_step (Ei := [(136, _)]) rfl rfl (W.Srcs.cons (W.Src.op 12 rfl rfl) W.Srcs.nil) rfl (by kernel_rfl) (dX rfl (op_iface mkif_45 (Ht rfl))) ?_)))
     refine W.D_step (Ei := [(21, _)]) rfl rfl (W.Srcs.cons (W.Src.pre rfl rfl) W.Srcs.nil) rfl (by kernel_rfl) (dX rfl (dJ A_45 Z_45 (Ht rfl))) (W.D_step (Ei := [(137, _), (138, _)]) rfl rfl (W.Srcs.cons (W.Src.op 13 rfl rfl) (W.Srcs.cons (W.Src.op 14 rfl rfl) W.Srcs.nil)) rfl (by kernel_rfl) (dX rfl (op_invoke meth_45_Sub K_66 (c_Sub (x := (gm X r q1)) (y := (gm X r q2)) (L := 4 * G + 24) (M := 4 * G + 24) (by omega)) (Ht rfl) ⟨(Ht rfl), trivial⟩)) (W.D_step (Ei := [(139, _)]) rfl rfl (W.Srcs.cons (W.Src.op 15 rfl rfl) W.Srcs.nil) rfl (by kernel_rfl) (dX rfl (op_iface mkif_45 (Ht rfl))) ?_))
     refine W.D_step (Ei := [(10, _)]) rfl rfl (W.Srcs.cons (W.Src.pre rfl rfl) W.Srcs.nil) rfl (by kernel_rfl) (dX rfl (dJ A_45 Z_45 (Ht rfl))) (W.D_step (Ei := [(140, _), (141, _)]) rfl rfl (W.Srcs.cons (W.Src.op 16 rfl rfl) (W.Srcs.cons (W.Src.op 17 rfl rfl) W.Srcs.nil)) rfl (by kernel_rfl) (dX rfl (op_invoke meth_45_Mul K_67 (c_Mul (x := ((gm X r q1) - (gm X r q2))) (y := hlf) (L := 4 * G + 24 + (4 * G + 24) + 1) (M := 2) (by omega)) (Ht rfl) ⟨(Ht rfl), trivial⟩)) (W.D_step (Ei := [(20, _)]) rfl rfl (W.Srcs.cons (W.Src.pre rfl rfl) W.Srcs.nil) rfl (by kernel_rfl) (dX rfl (dJ A_45 Z_45 (Ht rfl))) ?_))
     refine W.D_step (Ei := [(143, _)]) rfl rfl (W.Srcs.cons (W.Src.op 19 rfl rfl) W.Srcs.nil) rfl (by kernel_rfl) (dX rfl (op_iface mkif_45 (Ht rfl))) (W.D_step (Ei := [(21, _)]) rfl rfl (W.Srcs.cons (W.Src.pre rfl rfl) W.Srcs.nil) rfl (by kernel_rfl) (dX rfl (dJ A_45 Z_45 (Ht rfl))) (W.D_step (Ei := [(144, _), (145, _)]) rfl rfl (W.Srcs.cons (W.Src.op 20 rfl rfl) (W.Srcs.cons (W.Src.op 21 rfl rfl) W.Srcs.nil)) rfl (by kernel_rfl) (dX rfl (op_invoke meth_45_Add K_68 (c_Add (x := (gm X r q1)) (y := (gm X r q2)) (L := 4 * G + 24) (M := 4 * G + 24) (by omega)) (Ht rfl) ⟨(Ht rfl), trivial⟩)) ?_))
     refine W.D_step (Ei := [(128, _), (129, _)]) rfl rfl (W.Srcs.cons (W.Src.op 4 rfl rfl) (W.Srcs.cons (W.Src.op 5 rfl rfl) W.Srcs.nil)) rfl (by kernel_rfl) (dX rfl (op_idxW U_27 Z_45 (Ht rfl) (Ht rfl) rfl (j := 1) rfl (w3a hvl hXs) (w3b hXs hrn) (w3c hXs hrn hp1))) (W.D_put (Ei := [(147, _), (142, _)]) rfl rfl (W.Srcs.cons (W.Src.op 23 rfl rfl) (W.Srcs.cons (W.Src.op 18 rfl rfl) W.Srcs.nil)) rfl ((P_at (j := 1) (P_stW (F := NumT) Z_45 (Ht rfl) (Ht rfl) (El.ag rfl) (w3a hvl hXs) (w3b hXs hrn) (w3c hXs hrn hp1)) rfl rfl)) (W.D_done mixed rfl (by kernel_rfl) rfl (W.F_val (W.F_val (W.F_val (W.F_val (W.F_val (W.F_val (W.F_val (W.F_val (W.F_val (W.F_val (W.F_val (W.F_val (W.F_val (W.F_val (W.F_val (W.F_val (W.F_val (W.F_val (W.F_val (W.F_val (W.F_val (W.F_val (W.F_val (W.F_val (W.F_put (W.F_nil ?_))))))))))))))))))))))))))))
     refine ro rfl (op_idxW U_27 Z_45 (Ht rfl) (Ht rfl) rfl (j := 1) rfl (w3a hvl hY) (w3b hY hrn) (w3c hY hrn hq1)) (R_stW (F := NumT) Z_45 (Ht rfl) (Ht rfl) (j := 1) rfl (El.ag rfl) (w3a hvl hY) (w3b hY hrn) (w3c hY hrn hq1) rfl (eX (T_blk (cY (ro rfl (dV (Ht rfl) (cJ 1) (by show _ < 9223372036854775808; first | omega | (simp only [lim]; omega))) (rm rfl (eX (T_keep [0, 1, 2, 3] rfl (by decide) (fU (r + 1) hrn (by omega) (aQ rfl (aQ rfl (aQ rfl (aQ rfl (aQ rfl (aQ rfl (aQ rfl (aQ rfl (aQ rfl (aQ rfl (aQ rfl aX))))))))))) (aU (fun _ _ _ h => h) (aU (matW_of (congrArg (FRow NumT) hnr)) (aU (box_of rfl) (aU (box_of rfl) aY)))))))))))))
    ·obtain rfl : r = z.length := by simp only [decide_eq_false_iff_not] at hd2; omega
     rw [← hnx]
     haveI g7 : FitC (gv Zk q1) (4096 * (L + 8)) := hZf.get (by omega) _
     refine gV rfl (ts (ro rfl (eZ fa_30_0 (Ht rfl) rfl) (ro rfl (op_ldBp A_27 Z_27 (Ht rfl) (i := 3) rfl rfl) (rm rfl (ro rfl (op_idxO U_27 Z_45 (Ht rfl) (Ht rfl) rfl (i := 0) rfl (by rw [List.length_map]; omega) rfl) ?_)))))
     refine ro rfl (op_ldO A_45 Z_45 (Ht rfl) (i := 0) rfl rfl (dY (dU (d := Qi.zero) (by omega)))) (rn rfl (eW (Ts := [Is (.bool false), Is (.slice none 0 0), Is (.bool false), Is (.slice none 0 0), Is (.slice none 0 0)]) O_45 rfl (fun V => aW ⟨rfl, trivial⟩ (aW ⟨rfl, trivial⟩ (aW ⟨rfl, trivial⟩ (aW ⟨rfl, trivial⟩ (aW ⟨rfl, trivial⟩ (aG))))))) fun B22 => (gQ Z_45 (Ht rfl) (Ht rfl) rfl (i := 4) rfl (aK rfl) rfl rfl (eX (gJ (i := 4) (tt := 22) rfl rfl frz_ptr ?_))))
     refine T_keep [0, 1, 2, 3] rfl (by decide) (W.D_start (m := 14) (fun b => cond b ([rowO 45 5 (.slice (some ⟨vZ, 0, none⟩) z.length z.length) ((Zk.map NumT).set q1 (NumT (gv Zk q1 * Qi.ofInt 2))), matW bS 27 45 5 vs vs (FRow NumT (moM mxF S js z.length (k + 1))), box B4 30 [Is (.slice none 0 0), Is (.slice none 0 0)], box B11 30 [Is (.slice (some ⟨vZ, 0, none⟩) z.length z.length), Is (.slice (some ⟨bS, 0, none⟩) z.length z.length)]]) _) 13 (W.D_step (Ei := [(11, _)]) rfl rfl (W.Srcs.cons (W.Src.pre rfl rfl) W.Srcs.nil) rfl (by kernel_rfl) (dX rfl (eZ fa_30_0 (Ht rfl) rfl)) (W.D_step (Ei := [(155, _)]) rfl rfl (W.Srcs.cons (W.Src.op 0 rfl rfl) W.Srcs.nil) rfl (by kernel_rfl) (dX rfl (op_ldBp A_27 Z_27 (Ht rfl) (i := 3) rfl rfl)) ?_)))
     refine W.D_step (Ei := [(14, _)]) rfl rfl (W.Srcs.cons (W.Src.pre rfl rfl) W.Srcs.nil) rfl (by kernel_rfl) (dX rfl (cX (Ht rfl))) (W.D_pure (Ei := [(11, _)]) rfl rfl (W.Srcs.cons (W.Src.pre rfl rfl) W.Srcs.nil) rfl (fun _ => dX rfl (eZ fa_30_0 (Ht rfl) rfl)) (W.D_both (T := Is (.slice (some ⟨vZ, 0, none⟩) z.length z.length)) (Ei := [(158, _)]) rfl rfl (W.Srcs.cons (W.Src.op 3 rfl rfl) W.Srcs.nil) rfl (fun b => by cases b <;> exact dX rfl (op_ldBp A_27 Z_27 (Ht rfl) (i := 3) rfl rfl)) (W.D_pure (Ei := [(15, _)]) rfl rfl (W.Srcs.cons (W.Src.pre rfl rfl) W.Srcs.nil) rfl (fun _ => dX rfl (cX (Ht rfl))) ?_)))
     refine W.D_step (Ei := [(22, _)]) rfl rfl (W.Srcs.cons (W.Src.pre rfl rfl) W.Srcs.nil) rfl (by kernel_rfl) (dX rfl (dJ A_45 Z_45 (Ht rfl))) (W.D_step (Ei := []) rfl rfl W.Srcs.nil rfl (by kernel_rfl) (dX rfl (cZ K_86 (c_Int (n := 2) (by decide) (by decide)) ⟨(cJ 2), trivial⟩)) (W.D_step (Ei := [(161, _), (162, _)]) rfl rfl (W.Srcs.cons (W.Src.op 6 rfl rfl) (W.Srcs.cons (W.Src.op 7 rfl rfl) W.Srcs.nil)) rfl (by kernel_rfl) (dX rfl (cZ K_67 (c_Mul (x := gv Zk q1) (y := Qi.ofInt 2) (L := 4096 * (L + 8)) (M := 2) (by omega)) ⟨(Ht rfl), (Ht rfl), trivial⟩)) ?_))
     refine W.D_step (Ei := [(22, _)]) rfl rfl (W.Srcs.cons (W.Src.pre rfl rfl) W.Srcs.nil) rfl (by kernel_rfl) (dX rfl (dJ A_45 Z_45 (Ht rfl))) (W.D_step (Ei := [(7, _)]) rfl rfl (W.Srcs.cons (W.Src.pre rfl rfl) W.Srcs.nil) rfl (by kernel_rfl) (dX rfl (dJ A_45 Z_45 (Ht rfl))) (W.D_step (Ei := [(164, _), (165, _)]) rfl rfl (W.Srcs.cons (W.Src.op 9 rfl rfl) (W.Srcs.cons (W.Src.op 10 rfl rfl) W.Srcs.nil)) rfl (by kernel_rfl) (dX rfl (cZ K_67 (c_Mul (x := gv Zk q1) (y := hlf) (L := 4096 * (L + 8)) (M := 2) (by omega)) ⟨(Ht rfl), (Ht rfl), trivial⟩)) ?_))
     refine W.D_step (Ei := [(156, _), (157, _)]) rfl rfl (W.Srcs.cons (W.Src.op 1 rfl rfl) (W.Srcs.cons (W.Src.op 2 rfl rfl) W.Srcs.nil)) rfl (by kernel_rfl) (dX rfl (op_idxO U_27 Z_45 (Ht rfl) (Ht rfl) rfl (i := 0) rfl (by rw [List.length_map]; omega) rfl)) ?_
     refine W.D_put (Ei := [(167, _), (163, _)]) rfl rfl (W.Srcs.cons (W.Src.op 12 rfl rfl) (W.Srcs.cons (W.Src.op 8 rfl rfl) W.Srcs.nil)) rfl (P_stO Z_45 (Ht rfl) (Ht rfl) (El.ag rfl) (i := 0) rfl rfl (by rw [List.length_map]; omega)) ?_
     refine W.D_done mixed rfl (by kernel_rfl) rfl (W.F_val (W.F_val (W.F_val (W.F_val (W.F_val (W.F_val (W.F_val (W.F_val (W.F_val (W.F_val (W.F_val (W.F_val (W.F_val (W.F_put (W.F_nil (ro rfl (op_idxO U_27 Z_45 (Ht rfl) (Ht rfl) rfl (i := 0) rfl (by rw [List.length_set, List.length_map]; omega) rfl) ?_))))))))))))))))
     refine R_stO Z_45 (Ht rfl) (Ht rfl) (El.ag rfl) (i := 0) rfl rfl (by rw [List.length_set, List.length_map]; omega) rfl ?_
     refine eX (T_blk (cY (ro rfl (dV (Ht rfl) (cJ 1) (by show _ < 9223372036854775808; first | omega | (simp only [lim]; omega))) (rm rfl (eX (T_keep [0, 1, 2, 3] rfl (by decide) (fU (k + 1) hkn (by omega) (aQ rfl (aQ rfl (aQ rfl (aQ rfl (aQ rfl (aQ rfl (aQ rfl aX))))))) (aU (rowO_of (by rw [hzn]; exact set_two (l := Zk) (a := gv Zk q1 * Qi.ofInt 2) (b := gv Zk q1 * hlf) (F := NumT))) (aU (fun _ _ _ h => h) (aU (box_of rfl) (aU (box_of rfl) aY)))))))))))
  ·obtain rfl : k = js.length := by simp only [decide_eq_false_iff_not] at hd; omega
   refine gV rfl (cK (T_conv 1 rfl (matW_close (by rw [hvl, FRow, List.length_map, (moM_shp hS js.length).1])) ?_))
   refine T_frzcell 3 0 0 rfl rfl rfl (by decide) (T_frzcellG 3 1 1 rfl rfl rfl (by decide) (frzM (q := fun _ => True) (M := moM mxF S js z.length js.length) (moM_shp hS js.length).1.symm) (cY (ro rfl (eJ A_30 Z_30 (Ht rfl) (i := 3) rfl rfl rfl) (gQ Z_30 (Ht rfl) (Ht rfl) rfl (i := 2) rfl (aK rfl) rfl rfl (ro rfl (cQ (cJ 0)) (eX (T_ret2 rfl (fX (fK A_30 Z_30 rfl (i := 2) rfl rfl) ?_) (fX (eU rfl) ?_))))))))
   ·exact (fun v V h => by rw [xdZ, xdS, okL, okL, if_pos h3, if_pos h3]; exact h)
   ·exact (int_of h3.symm)
theorem c_Single {z : List Qi} {S : List (List Qi)} {js : List (Int × Int)} {L : Nat} (hS : Shp S z.length z.length) (hf : FitM S L) (hfz : FitL z L) (hL : 1 ≤ L) (hLb : L ≤ 1000) (h8 : z.length ≤ 8) (hj : js.length ≤ 100) : Fun Tryz.prog 33 [NetT z S, JsT js] (TupT [NetT (xsZ z js) (xsS z S js), IntT .i64 (xsE z js)]) := by
 haveI g5 := hlf_fit
 haveI g6 := two_fit
 refine Fun.intro Tryz.func33 rfl Tryz.ntmps33 rfl (fun cx => (ts (rn rfl (fG (Ht rfl)) fun B2 => (rn rfl (eW (Ts := [Is (.slice none 0 0), Is (.slice none 0 0)]) O_30 rfl (fun V => aW ⟨rfl, trivial⟩ (aW ⟨rfl, trivial⟩ (aG)))) fun B4 => (ro rfl (cQ (cJ 0)) (eX (ts (ro rfl (cQ (Has.fn (γ := FQ L) (Ts := fun x => [NumT x.1.1, NumT x.1.2]) (U := fun x => BoolT (phR 4 x.1.1 x.1.2)) Tryz.call118 (fun x : FQ L => c_Single1 (x := x.1.1) (y := x.1.2) x.2.1 x.2.2 (by omega)))) (eX (cK (ts (ro rfl (eJ A_30 Z_30 (Ht rfl) (i := 0) rfl rfl rfl) ?_))))))))))))
 refine rm rfl (rm rfl (ro rfl (cZ Tryz.call108 (c_paired (φ := phR 4) (z := z) (S := S) (js := js) (L := L) hfz hL (by omega) (by omega) hj) ⟨(Ht rfl), (Ht rfl), (Ht rfl), trivial⟩) (ra rfl (eX (ts (rm rfl (ro rfl (op_neq (Ht rfl) cV) (eX (dQ (Ht rfl) (fun hc => ?_) (fun hc => ?_))))))))))
 ·have h3 : xsE z js ≠ 0 := by simpa [xsE] using hc
  refine ts (ro rfl (OpTy.imp (bld_30_ ) net_nil) (rm rfl (gQ Z_30 (Ht rfl) (Ht rfl) rfl (i := 1) rfl (aK rfl) rfl rfl (ra rfl (eX (T_ret2 rfl (fX (fK A_30 Z_30 rfl (i := 1) rfl rfl) ?_) (eU rfl)))))))
  exact (fun v V h => by rw [xsZ, xsS, okL, okL, if_neg h3, if_neg h3]; exact h)
 ·have h3 : xsE z js = 0 := by simpa [xsE] using hc
  have hp : prtE z.length (jfl js) = 0 := mo_prt (φ := phR 4) h3
  have hJ := prt_jn hp
  have hjl := mo_le hp
  refine cU (ts (ro rfl (cZ Tryz.call110 (c_New (p := 1) (q := 0) (d := 2) (by decide) (by decide) (by decide) (by decide) (by decide) (by decide) (by decide)) ⟨(cJ 1), (cJ 0), (cJ 2), trivial⟩) (rm rfl (ro rfl (dK (Ht rfl) rfl) (ro rfl (dK (Ht rfl) rfl) (rn rfl (eW (Ts := [Is (.bool false), Is (.slice none 0 0), Is (.bool false), Is (.slice none 0 0), Is (.slice none 0 0)]) O_45 rfl (fun V => aW ⟨rfl, trivial⟩ (aW ⟨rfl, trivial⟩ (aW ⟨rfl, trivial⟩ (aW ⟨rfl, trivial⟩ (aW ⟨rfl, trivial⟩ (aG))))))) fun B8 => ?_))))))
  refine gQ Z_45 (Ht rfl) (Ht rfl) rfl (i := 2) rfl (aK rfl) rfl rfl (ra rfl (eX (cK (gJ (i := 2) (tt := 8) rfl rfl frz_ptr (cY (rn rfl (eW (Ts := [Is (.bool false), Is (.slice none 0 0), Is (.bool false), Is (.slice none 0 0), Is (.slice none 0 0)]) O_45 rfl (fun V => aW ⟨rfl, trivial⟩ (aW ⟨rfl, trivial⟩ (aW ⟨rfl, trivial⟩ (aW ⟨rfl, trivial⟩ (aW ⟨rfl, trivial⟩ (aG))))))) fun B10 => (eX (ts (ro rfl (eJ A_45 Z_45 (Ht rfl) (i := 3) rfl rfl rfl) ?_)))))))))
  refine ro rfl (op_iface mkif_45 (Ht rfl)) (ro rfl (dJ A_45 Z_45 (Ht rfl)) (ro rfl (op_invoke meth_45_Of K_302 (c_OfZ (y := hlf)) (Ht rfl) ⟨(Ht rfl), trivial⟩) (rn rfl (eW (Ts := [Is (.bool false), Is (.slice none 0 0), Is (.bool false), Is (.slice none 0 0), Is (.slice none 0 0)]) O_45 rfl (fun V => aW ⟨rfl, trivial⟩ (aW ⟨rfl, trivial⟩ (aW ⟨rfl, trivial⟩ (aW ⟨rfl, trivial⟩ (aW ⟨rfl, trivial⟩ (aG))))))) fun B11 => (gQ Z_45 (Ht rfl) (Ht rfl) rfl (i := 4) rfl (aK rfl) rfl rfl ?_))))
  refine eX (cK (gJ (i := 4) (tt := 11) rfl rfl frz_ptr (fZ (m := 5) (dp 2 rfl (eJ A_30 Z_30 (Ht rfl) (i := 0) rfl rfl rfl) (dp 2 rfl (eJ A_30 Z_30 (Ht rfl) (i := 0) rfl rfl rfl) (dq 41 1 rfl (cZ Tryz.call112 (c_left0 (z := z) (s := S) (by omega)) ⟨(Ht rfl), cV, trivial⟩) (C.D_new (Ei := [(40, _), (42, _)]) rfl rfl rfl (bV (bG 0 rfl rfl) (bV (bG 2 rfl rfl) bW)) (new_call0 Tryz.call111 (FunO.pack (c_partZ (z := z) (s := S) (Q := lfG [] z.length) (m := z.length) hS (fun x h => lfG_lt h) (all_len _) (by omega) (by omega))) ⟨(Ht rfl), (Ht rfl), trivial⟩) ?_)))))))
  refine C.D_new (Ei := []) rfl rfl rfl bW (eW (Ts := [Is (.slice none 0 0), Is (.slice none 0 0)]) O_30 rfl (fun V => aW ⟨rfl, trivial⟩ (aW ⟨rfl, trivial⟩ (aG)))) (fV mixed rfl (by kernel_rfl) (aJ (aJ (aJ (C.F_new (fun B43 => C.F_new (fun B12 => aV (gQ Z_30 (Ht rfl) (Ht rfl) rfl (i := 6) rfl (aK rfl) rfl rfl (eX (cK (cK (T_keep [5, 1, 6] rfl (by decide) ?_))))))))))))
  obtain ⟨⟨vZ, bS⟩, hQ⟩ := B43
  refine T_star (X := [SA.emp, rowO 45 5 (.slice (some ⟨vZ, 0, none⟩) z.length z.length) ((subZ z (lfG [] z.length)).map NumT), matO bS 27 45 5 (FRow NumT (subM S (lfG [] z.length)))]) (Y := [box B4 30 [Is (.slice none 0 0), Is (.slice none 0 0)], box B12 30 [Is (.slice (some ⟨vZ, 0, none⟩) z.length z.length), Is (.slice (some ⟨bS, 0, none⟩) z.length z.length)]]) (T_keep [1, 2, 3, 4] rfl (by decide) (T_conv 1 rfl (matO_of (congrArg (FRow NumT) (all_subM hS))) (T_openW 1 rfl (fun vs hvs => ?_))))
  have hvl : vs.length = z.length := by have h := hvs.len; rw [FRow, List.length_map, hS.1] at h; exact h
  refine cY (rm rfl (ro rfl (dG U_59 (Ht rfl) len_map) (ro rfl (cX (cJ 0)) (eX (eG ?_)))))
  refine T_loop (fun (k : Nat) => k ≤ js.length) (fun (k : Nat) => js.length - k) (fun (k : Nat) => [(4, PtrB B4 0), (8, PT (NumT hlf)), (11, PT (NumT hlf)), (12, PtrB B12 0), (44, JsT js), (45, NT .i64 js.length), (46, NT .i64 k)]) (fun (k : Nat) => [rowO 45 5 (.slice (some ⟨vZ, 0, none⟩) z.length z.length) ((moZ (fun x => x * hlf) (fun x => x * hlf) z js k).map NumT), matW bS 27 45 5 vs vs (FRow NumT (moM sgF S js z.length k)), box B4 30 [Is (.slice none 0 0), Is (.slice none 0 0)], box B12 30 [Is (.slice (some ⟨vZ, 0, none⟩) z.length z.length), Is (.slice (some ⟨bS, 0, none⟩) z.length z.length)]]) 0 (Nat.zero_le _)
   (aQ rfl (aQ rfl (aQ rfl (aQ rfl (aQ rfl (aQ rfl (aQ rfl aX))))))) (aU (rowO_of (by rw [all_sub]; rfl)) (aU (matW_of rfl) (aU (box_of rfl) (aU (box_of rfl) aY)))) (fun k hk => ?_)
  refine ts (ro rfl (gX (Ht rfl) (Ht rfl)) (eX (cK (dQ (Ht rfl) (fun hd => ?_) (fun hd => ?_)))))
  ·have hkn : k < js.length := by simp only [decide_eq_true_eq] at hd; omega
   obtain ⟨hp1, hq1, hpq1⟩ := jp_ne hJ hkn
   have hmm := fun x hx => prt_in hp x hx
   have hm1 : (jat js k).1 ∈ jfl js := by rw [jfl, List.mem_flatMap]; exact ⟨jat js k, by rw [show jat js k = js[k] by simp [jat, List.getD, hkn]]; exact List.getElem_mem hkn, by simp⟩
   have hm2 : (jat js k).2 ∈ jfl js := by rw [jfl, List.mem_flatMap]; exact ⟨jat js k, by rw [show jat js k = js[k] by simp [jat, List.getD, hkn]]; exact List.getElem_mem hkn, by simp⟩
   have hb1 := hmm _ hm1
   have hb2 := hmm _ hm2
   obtain ⟨q1, hq1d⟩ : ∃ q1, q1 = jp1 js k := ⟨_, rfl⟩
   obtain ⟨q2, hq2d⟩ : ∃ q2, q2 = jp2 js k := ⟨_, rfl⟩
   have he1 : (jat js k).1 - 1 = (q1 : Int) := by rw [hq1d]; show _ = (((jat js k).1 - 1).toNat : Int); omega
   have he2 : (jat js k).2 - 1 = (q2 : Int) := by rw [hq2d]; show _ = (((jat js k).2 - 1).toNat : Int); omega
   rw [← hq1d, ← hq2d] at hpq1
   rw [← hq1d] at hp1
   rw [← hq2d] at hq1
   obtain ⟨G, hG⟩ : ∃ G, G = moG L k := ⟨_, rfl⟩
   obtain ⟨Ak, hAk⟩ : ∃ Ak, Ak = moM sgF S js z.length k := ⟨_, rfl⟩
   have hAs : Shp Ak z.length z.length := by rw [hAk]; exact moM_shp hS k
   have hAf : FitM Ak G := by rw [hAk, hG]; exact moM_fit sg_s1 sg_s2 sg_s3 sg_s4 hf hL k
   have hG4 : G ≤ 4096 * L + 23400 := by rw [hG]; exact moG_four (by omega)
   have hG1 : 1 ≤ G := by rw [hG]; exact Nat.le_trans hL (moG_ge L k)
   have hnx : moM sgF S js z.length (k + 1) = colM sgF.g1 sgF.g2 (rowM sgF.f1 sgF.f2 Ak q1 q2 z.length z.length) q1 q2 z.length z.length := by rw [hAk, hq1d, hq2d]; rfl
   have hzn : moZ (fun x => x * hlf) (fun x => x * hlf) z js (k + 1) = ((moZ (fun x => x * hlf) (fun x => x * hlf) z js k).set q1 ((fun x => x * hlf) (gv (moZ (fun x => x * hlf) (fun x => x * hlf) z js k) q1))).set q2 ((fun x => x * hlf) (gv (moZ (fun x => x * hlf) (fun x => x * hlf) z js k) q1)) := by rw [hq1d, hq2d]; rfl
   have hZf : FitL (moZ (fun x => x * hlf) (fun x => x * hlf) z js k) (4096 * (L + 8)) := moZ_fit4 mulh_z mulh_z hfz hL (by omega)
   have hZl : (moZ (fun x => x * hlf) (fun x => x * hlf) z js k).length = z.length := moZ_len _ _ _ _ _
   obtain ⟨Zk, hZk⟩ : ∃ Zk, Zk = (moZ (fun x => x * hlf) (fun x => x * hlf) z js k) := ⟨_, rfl⟩
   rw [← hZk] at hZf hZl hzn
   rw [← hZk, ← hAk]
   refine cU (cK (eG (ts (ro rfl (dZ U_59 Z_120 (Ht rfl) (Ht rfl) rfl (dY (dU (d := (0, 0)) hkn))) (ro rfl (dJ Tryz.isAgg120 Z_120 (Ht rfl)) (rn rfl (eW (Ts := [Is (.int .i64 0), Is (.int .i64 0)]) O_120 rfl (fun V => aW ⟨rfl, trivial⟩ (aW ⟨rfl, trivial⟩ (aG)))) fun B14 => (gQ Z_120 (Ht rfl) (Ht rfl) rfl (i := 4) rfl (aK rfl) rfl rfl (eX (cK (gJ (i := 4) (tt := 14) rfl rfl frz_ptr (fZ (m := 7) (dp 14 rfl (op_idxA U_120 Z_3 (Ht rfl) cV rfl (by decide) rfl) ?_))))))))))))
   refine dq 50 0 rfl (dJ A_3 Z_3 (Ht rfl)) (dq 51 1 rfl (op_sub (Ht rfl) cV (r := ((q1 : Nat) : Int)) ((w64 (z := (jat js k).1 - 1) (by omega)).trans (by omega))) ?_)
   refine dp 14 rfl (op_idxA U_120 Z_3 (Ht rfl) cV rfl (by decide) rfl) (dq 53 3 rfl (dJ A_3 Z_3 (Ht rfl)) (dq 54 4 rfl (op_sub (Ht rfl) cV (r := ((q2 : Nat) : Int)) ((w64 (z := (jat js k).2 - 1) (by omega)).trans (by omega))) ?_))
   refine dq 52 2 rfl (cQ (Ht rfl)) (fV mixed rfl (by kernel_rfl) (aJ (aJ (aJ (aJ (aJ (aJ (aJ (aV (ra rfl (eX (cK (ts (ro rfl (eZ fa_30_1 (Ht rfl) rfl) (ro rfl (eY A_28 Z_28 (Ht rfl) (i := 3) rfl rfl) (ro rfl (op_lenI U_28 (Ht rfl)) (ro rfl (cX (cJ 0)) (eX (eG (T_keep [0, 1, 2, 3] rfl (by decide) ?_))))))))))))))))))))
   refine T_loop (fun (r : Nat) => r ≤ z.length) (fun (r : Nat) => z.length - r) (fun (r : Nat) => [(4, PtrB B4 0), (8, PT (NumT hlf)), (11, PT (NumT hlf)), (12, PtrB B12 0), (15, NT .i64 q1), (16, NT .i64 q2), (44, JsT js), (45, NT .i64 js.length), (46, NT .i64 k), (58, NT .i64 z.length), (59, NT .i64 r)]) (fun (r : Nat) => [rowO 45 5 (.slice (some ⟨vZ, 0, none⟩) z.length z.length) (Zk.map NumT), matW bS 27 45 5 vs vs (FRow NumT (rowM sgF.f1 sgF.f2 Ak q1 q2 z.length r)), box B4 30 [Is (.slice none 0 0), Is (.slice none 0 0)], box B12 30 [Is (.slice (some ⟨vZ, 0, none⟩) z.length z.length), Is (.slice (some ⟨bS, 0, none⟩) z.length z.length)]]) 0 (Nat.zero_le _)
    (aQ rfl (aQ rfl (aQ rfl (aQ rfl (aQ rfl (aQ rfl (aQ rfl (aQ rfl (aQ rfl (aQ rfl (aQ rfl aX))))))))))) (aU (fun _ _ _ h => h) (aU (matW_of (congrArg (FRow NumT) (rowM_zero hAs))) (aU (box_of rfl) (aU (box_of rfl) aY)))) (fun r hr => ?_)
   refine ts (ro rfl (gX (Ht rfl) (Ht rfl)) (eX (cK (dQ (Ht rfl) (fun hd2 => ?_) (fun hd2 => ?_)))))
   ·have hrn : r < z.length := by simp only [decide_eq_true_eq] at hd2; omega
    obtain ⟨X, hX⟩ : ∃ X, X = rowM sgF.f1 sgF.f2 Ak q1 q2 z.length r := ⟨_, rfl⟩
    have hXs : Shp X z.length z.length := by rw [hX]; exact rowM_shp
    have hXf : FitM X (2 * G + 8) := by rw [hX]; exact (row_fit sg_s1 sg_s2 hAf hG1).le (by omega)
    have hnr := row_next (f := sgF.f1) (g := sgF.f2) hX hp1 hq1 hpq1 hrn
    haveI g1 : FitC (gm X q1 r) (2 * G + 8) := hXf.get (by omega) _ _
    haveI g2 : FitC (gm X q2 r) (2 * G + 8) := hXf.get (by omega) _ _
    rw [← hX]
    have hY : Shp (setM X q1 r (gm X q1 r * hlf + gm X q2 r)) z.length z.length := setM_shp hXs
    refine cU (cK (eG (ts (rm rfl (ra rfl (eX (cK (Y.D_start (m := 19) [] (bY (Ei := [(12, _)]) rfl rfl (bQ (bJ rfl rfl) bX) rfl rfl (dX rfl (eZ fa_30_1 (Ht rfl) rfl)) (bY (Ei := [(62, _)]) rfl rfl (bQ (bZ 0 rfl rfl) bX) rfl rfl (dX rfl (eY A_28 Z_28 (Ht rfl) (i := 3) rfl rfl)) (bY (Ei := [(15, _)]) rfl rfl (bQ (bJ rfl rfl) bX) rfl rfl (dX rfl (cX (Ht rfl))) (bY (Ei := [(63, _), (64, _)]) rfl rfl (bQ (bZ 1 rfl rfl) (bQ (bZ 2 rfl rfl) bX)) rfl rfl (dX rfl (fY U_28 Z_27 (Ht rfl) (Ht rfl) rfl (by omega) (by rw [Nat.mul_one, Nat.zero_add]))) ?_))))))))))))
    refine bY (Ei := [(65, _)]) rfl rfl (bQ (bZ 3 rfl rfl) bX) rfl rfl (dX rfl (op_ldHW A_27 Z_27 (Ht rfl) (j := 1) rfl (by omega))) (bY (Ei := [(17, _)]) rfl rfl (bQ (bJ rfl rfl) bX) rfl rfl (dX rfl (cX (Ht rfl))) (bY (Ei := [(66, _), (67, _)]) rfl rfl (bQ (bZ 4 rfl rfl) (bQ (bZ 5 rfl rfl) bX)) rfl rfl (dX rfl (op_idxW U_27 Z_45 (Ht rfl) (Ht rfl) rfl (j := 1) rfl (w3a hvl hXs) (w3b hXs hp1) (w3c hXs hp1 hrn))) (bY (Ei := [(68, _)]) rfl rfl (bQ (bZ 6 rfl rfl) bX) rfl rfl (dX rfl (op_ldW A_45 Z_45 (Ht rfl) (j := 1) rfl (w3a hvl hXs) (w3b hXs hp1) (w3c hXs hp1 hrn))) ?_)))
    refine bY (Ei := [(12, _)]) rfl rfl (bQ (bJ rfl rfl) bX) rfl rfl (dX rfl (eZ fa_30_1 (Ht rfl) rfl)) (bY (Ei := [(70, _)]) rfl rfl (bQ (bZ 8 rfl rfl) bX) rfl rfl (dX rfl (eY A_28 Z_28 (Ht rfl) (i := 3) rfl rfl)) (bY (Ei := [(16, _)]) rfl rfl (bQ (bJ rfl rfl) bX) rfl rfl (dX rfl (cX (Ht rfl))) (bY (Ei := [(71, _), (72, _)]) rfl rfl (bQ (bZ 9 rfl rfl) (bQ (bZ 10 rfl rfl) bX)) rfl rfl (dX rfl (fY U_28 Z_27 (Ht rfl) (Ht rfl) rfl (by omega) (by rw [Nat.mul_one, Nat.zero_add]))) ?_)))
    refine bY (Ei := [(73, _)]) rfl rfl (bQ (bZ 11 rfl rfl) bX) rfl rfl (dX rfl (op_ldHW A_27 Z_27 (Ht rfl) (j := 1) rfl (by omega))) (bY (Ei := [(17, _)]) rfl rfl (bQ (bJ rfl rfl) bX) rfl rfl (dX rfl (cX (Ht rfl))) (bY (Ei := [(74, _), (75, _)]) rfl rfl (bQ (bZ 12 rfl rfl) (bQ (bZ 13 rfl rfl) bX)) rfl rfl (dX rfl (op_idxW U_27 Z_45 (Ht rfl) (Ht rfl) rfl (j := 1) rfl (w3a hvl hXs) (w3b hXs hq1) (w3c hXs hq1 hrn))) (bY (Ei := [(76, _)]) rfl rfl (bQ (bZ 14 rfl rfl) bX) rfl rfl (dX rfl (op_ldW A_45 Z_45 (Ht rfl) (j := 1) rfl (w3a hvl hXs) (w3b hXs hq1) (w3c hXs hq1 hrn))) ?_)))
    refine Y.D_newp (Ei := []) (fun bb => box bb 45 [BoolT (decide ((gm X q1 r).a < 0)), NatT (gm X q1 r).a.natAbs, BoolT (decide ((gm X q1 r).b < 0)), NatT (gm X q1 r).b.natAbs, NatT (du (gm X q1 r))]) 18 rfl rfl rfl bX rfl rfl (by kernel_rfl) (eW (Ts := [Is (.bool false), Is (.slice none 0 0), Is (.bool false), Is (.slice none 0 0), Is (.slice none 0 0)]) O_45 rfl (fun V => aW ⟨rfl, trivial⟩ (aW ⟨rfl, trivial⟩ (aW ⟨rfl, trivial⟩ (aW ⟨rfl, trivial⟩ (aW ⟨rfl, trivial⟩ (aG))))))) (Y.D_new (Ei := []) rfl rfl rfl bX rfl rfl (eW (Ts := [Is (.bool false), Is (.slice none 0 0), Is (.bool false), Is (.slice none 0 0), Is (.slice none 0 0)]) O_45 rfl (fun V => aW ⟨rfl, trivial⟩ (aW ⟨rfl, trivial⟩ (aW ⟨rfl, trivial⟩ (aW ⟨rfl, trivial⟩ (aW ⟨rfl, trivial⟩ (aG))))))) ?_)
    refine Y.D_putN (Ei := [(69, _)]) 16 rfl rfl rfl rfl rfl rfl (bQ (bZ 7 rfl rfl) bX) (fun bb => P_stA Z_45 (Ht rfl) (Ht rfl) rfl (i := 0) rfl (aK rfl) rfl rfl) (Y.D_done mixed rfl (by kernel_rfl) rfl (by simp [Y.okP]) rfl rfl (bU (bU (bU (bU (bU (bU (bU (bU (bU (bU (bU (bU (bU (bU (bU (bU (Y.F_newp (fun B18 => Y.F_new (fun B19 => Y.F_putN (Y.F_nil ?_)))))))))))))))))))))
    refine gQ Z_45 (Ht rfl) (Ht rfl) rfl (i := 5) rfl (aK rfl) rfl rfl (eX (gJ (i := 4) (tt := 18) rfl rfl frz_ptr (gJ (i := 5) (tt := 19) rfl rfl frz_ptr (T_keep [0, 1, 2, 3] rfl (by decide) (W.D_start (m := 28) (fun b => cond b ([rowO 45 5 (.slice (some ⟨vZ, 0, none⟩) z.length z.length) (Zk.map NumT), matW bS 27 45 5 vs vs (FRow NumT (X.set q1 ((X.getD q1 []).set r (gm X q1 r * hlf + gm X q2 r)))), box B4 30 [Is (.slice none 0 0), Is (.slice none 0 0)], box B12 30 [Is (.slice (some ⟨vZ, 0, none⟩) z.length z.length), Is (.slice (some ⟨bS, 0, none⟩) z.length z.length)]]) _) 27 ?_)))))
    refine W.D_step (Ei := [(12, _)]) rfl rfl (W.Srcs.cons (W.Src.pre rfl rfl) W.Srcs.nil) rfl (by kernel_rfl) (dX rfl (eZ fa_30_1 (Ht rfl) rfl)) (W.D_step (Ei := [(78, _)]) rfl rfl (W.Srcs.cons (W.Src.op 0 rfl rfl) W.Srcs.nil) rfl (by kernel_rfl) (dX rfl (eY A_28 Z_28 (Ht rfl) (i := 3) rfl rfl)) (W.D_step (Ei := [(15, _)]) rfl rfl (W.Srcs.cons (W.Src.pre rfl rfl) W.Srcs.nil) rfl (by kernel_rfl) (dX rfl (cX (Ht rfl))) (W.D_step (Ei := [(79, _), (80, _)]) rfl rfl (W.Srcs.cons (W.Src.op 1 rfl rfl) (W.Srcs.cons (W.Src.op 2 rfl rfl) W.Srcs.nil)) rfl (by kernel_rfl) (dX rfl (fY U_28 Z_27 (Ht rfl) (Ht rfl) rfl (by omega) (by rw [Nat.mul_one, Nat.zero_add]))) ?_)))
    refine W.D_step (Ei := [(81, _)]) rfl rfl (W.Srcs.cons (W.Src.op 3 rfl rfl) W.Srcs.nil) rfl (by kernel_rfl) (dX rfl (op_ldHW A_27 Z_27 (Ht rfl) (j := 1) rfl (by omega))) (W.D_step (Ei := [(17, _)]) rfl rfl (W.Srcs.cons (W.Src.pre rfl rfl) W.Srcs.nil) rfl (by kernel_rfl) (dX rfl (cX (Ht rfl))) (W.D_step (Ei := [(12, _)]) rfl rfl (W.Srcs.cons (W.Src.pre rfl rfl) W.Srcs.nil) rfl (by kernel_rfl) (dX rfl (eZ fa_30_1 (Ht rfl) rfl)) (W.D_step (Ei := [(84, _)]) rfl rfl (W.Srcs.cons (W.Src.op 6 rfl rfl) W.Srcs.nil) rfl (by kernel_rfl) (dX rfl (eY A_28 Z_28 (Ht rfl) (i := 3) rfl rfl)) ?_)))
    refine W.D_step (Ei := [(16, _)]) rfl rfl (W.Srcs.cons (W.Src.pre rfl rfl) W.Srcs.nil) rfl (by kernel_rfl) (dX rfl (cX (Ht rfl))) (W.D_step (Ei := [(85, _), (86, _)]) rfl rfl (W.Srcs.cons (W.Src.op 7 rfl rfl) (W.Srcs.cons (W.Src.op 8 rfl rfl) W.Srcs.nil)) rfl (by kernel_rfl) (dX rfl (fY U_28 Z_27 (Ht rfl) (Ht rfl) rfl (by omega) (by rw [Nat.mul_one, Nat.zero_add]))) ?_)
    refine W.D_step (Ei := [(87, _)]) rfl rfl (W.Srcs.cons (W.Src.op 9 rfl rfl) W.Srcs.nil) rfl (by kernel_rfl) (dX rfl (op_ldHW A_27 Z_27 (Ht rfl) (j := 1) rfl (by omega))) (W.D_pure (Ei := [(17, _)]) rfl rfl (W.Srcs.cons (W.Src.pre rfl rfl) W.Srcs.nil) rfl (fun _ => dX rfl (cX (Ht rfl))) (W.D_step (Ei := [(18, _)]) rfl rfl (W.Srcs.cons (W.Src.pre rfl rfl) W.Srcs.nil) rfl (by kernel_rfl) (dX rfl (dJ A_45 Z_45 (Ht rfl))) (W.D_step (Ei := [(90, _)]) rfl rfl (W.Srcs.cons (W.Src.op 12 rfl rfl) W.Srcs.nil) rfl (by kernel_rfl) (dX rfl (op_iface mkif_45 (Ht rfl))) ?_)))
    refine W.D_step (Ei := [(11, _)]) rfl rfl (W.Srcs.cons (W.Src.pre rfl rfl) W.Srcs.nil) rfl (by kernel_rfl) (dX rfl (dJ A_45 Z_45 (Ht rfl))) (W.D_step (Ei := [(91, _), (92, _)]) rfl rfl (W.Srcs.cons (W.Src.op 13 rfl rfl) (W.Srcs.cons (W.Src.op 14 rfl rfl) W.Srcs.nil)) rfl (by kernel_rfl) (dX rfl (op_invoke meth_45_Mul K_67 (c_Mul (x := (gm X q1 r)) (y := hlf) (L := 2 * G + 8) (M := 2) (by omega)) (Ht rfl) ⟨(Ht rfl), trivial⟩)) (W.D_step (Ei := [(93, _)]) rfl rfl (W.Srcs.cons (W.Src.op 15 rfl rfl) W.Srcs.nil) rfl (by kernel_rfl) (dX rfl (op_iface mkif_45 (Ht rfl))) ?_))
    refine W.D_step (Ei := [(19, _)]) rfl rfl (W.Srcs.cons (W.Src.pre rfl rfl) W.Srcs.nil) rfl (by kernel_rfl) (dX rfl (dJ A_45 Z_45 (Ht rfl))) (W.D_step (Ei := [(94, _), (95, _)]) rfl rfl (W.Srcs.cons (W.Src.op 16 rfl rfl) (W.Srcs.cons (W.Src.op 17 rfl rfl) W.Srcs.nil)) rfl (by kernel_rfl) (dX rfl (op_invoke meth_45_Add K_68 (c_Add (x := ((gm X q1 r) * hlf)) (y := (gm X q2 r)) (L := 2 * G + 8 + 2 + 1) (M := 2 * G + 8) (by omega)) (Ht rfl) ⟨(Ht rfl), trivial⟩)) (W.D_step (Ei := [(19, _)]) rfl rfl (W.Srcs.cons (W.Src.pre rfl rfl) W.Srcs.nil) rfl (by kernel_rfl) (dX rfl (dJ A_45 Z_45 (Ht rfl))) ?_))
    refine W.D_step (Ei := [(97, _)]) rfl rfl (W.Srcs.cons (W.Src.op 19 rfl rfl) W.Srcs.nil) rfl (by kernel_rfl) (dX rfl (op_iface mkif_45 (Ht rfl))) (W.D_step (Ei := [(18, _)]) rfl rfl (W.Srcs.cons (W.Src.pre rfl rfl) W.Srcs.nil) rfl (by kernel_rfl) (dX rfl (dJ A_45 Z_45 (Ht rfl))) (W.D_step (Ei := [(99, _)]) rfl rfl (W.Srcs.cons (W.Src.op 21 rfl rfl) W.Srcs.nil) rfl (by kernel_rfl) (dX rfl (op_iface mkif_45 (Ht rfl))) (W.D_step (Ei := [(11, _)]) rfl rfl (W.Srcs.cons (W.Src.pre rfl rfl) W.Srcs.nil) rfl (by kernel_rfl) (dX rfl (dJ A_45 Z_45 (Ht rfl))) ?_)))
    refine W.D_step (Ei := [(100, _), (101, _)]) rfl rfl (W.Srcs.cons (W.Src.op 22 rfl rfl) (W.Srcs.cons (W.Src.op 23 rfl rfl) W.Srcs.nil)) rfl (by kernel_rfl) (dX rfl (op_invoke meth_45_Mul K_67 (c_Mul (x := (gm X q1 r)) (y := hlf) (L := 2 * G + 8) (M := 2) (by omega)) (Ht rfl) ⟨(Ht rfl), trivial⟩)) (W.D_step (Ei := [(98, _), (102, _)]) rfl rfl (W.Srcs.cons (W.Src.op 20 rfl rfl) (W.Srcs.cons (W.Src.op 24 rfl rfl) W.Srcs.nil)) rfl (by kernel_rfl) (dX rfl (op_invoke meth_45_Sub K_66 (c_Sub (x := (gm X q2 r)) (y := ((gm X q1 r) * hlf)) (L := 2 * G + 8) (M := 2 * G + 8 + 2 + 1) (by omega)) (Ht rfl) ⟨(Ht rfl), trivial⟩)) ?_)
    refine W.D_step (Ei := [(82, _), (83, _)]) rfl rfl (W.Srcs.cons (W.Src.op 4 rfl rfl) (W.Srcs.cons (W.Src.op 5 rfl rfl) W.Srcs.nil)) rfl (by kernel_rfl) (dX rfl (op_idxW U_27 Z_45 (Ht rfl) (Ht rfl) rfl (j := 1) rfl (w3a hvl hXs) (w3b hXs hp1) (w3c hXs hp1 hrn))) (W.D_put (Ei := [(104, _), (96, _)]) rfl rfl (W.Srcs.cons (W.Src.op 26 rfl rfl) (W.Srcs.cons (W.Src.op 18 rfl rfl) W.Srcs.nil)) rfl ((P_at (j := 1) (P_stW (F := NumT) Z_45 (Ht rfl) (Ht rfl) (El.ag rfl) (w3a hvl hXs) (w3b hXs hp1) (w3c hXs hp1 hrn)) rfl rfl)) (W.D_done mixed rfl (by kernel_rfl) rfl (W.F_val (W.F_val (W.F_val (W.F_val (W.F_val (W.F_val (W.F_val (W.F_val (W.F_val (W.F_val (W.F_val (W.F_val (W.F_val (W.F_val (W.F_val (W.F_val (W.F_val (W.F_val (W.F_val (W.F_val (W.F_val (W.F_val (W.F_val (W.F_val (W.F_val (W.F_val (W.F_val (W.F_put (W.F_nil ?_)))))))))))))))))))))))))))))))
    refine ro rfl (op_idxW U_27 Z_45 (Ht rfl) (Ht rfl) rfl (j := 1) rfl (w3a hvl hY) (w3b hY hq1) (w3c hY hq1 hrn)) (R_stW (F := NumT) Z_45 (Ht rfl) (Ht rfl) (j := 1) rfl (El.ag rfl) (w3a hvl hY) (w3b hY hq1) (w3c hY hq1 hrn) rfl (eX (T_blk (cY (ro rfl (dV (Ht rfl) (cJ 1) (by show _ < 9223372036854775808; first | omega | (simp only [lim]; omega))) (rm rfl (eX (T_keep [0, 1, 2, 3] rfl (by decide) (fU (r + 1) hrn (by omega) (aQ rfl (aQ rfl (aQ rfl (aQ rfl (aQ rfl (aQ rfl (aQ rfl (aQ rfl (aQ rfl (aQ rfl (aQ rfl aX))))))))))) (aU (fun _ _ _ h => h) (aU (matW_of (congrArg (FRow NumT) hnr)) (aU (box_of rfl) (aU (box_of rfl) aY)))))))))))))
   ·obtain rfl : r = z.length := by simp only [decide_eq_false_iff_not] at hd2; omega
    obtain ⟨Bk, hBk⟩ : ∃ Bk, Bk = rowM sgF.f1 sgF.f2 Ak q1 q2 z.length z.length := ⟨_, rfl⟩
    have hBs : Shp Bk z.length z.length := by rw [hBk]; exact rowM_shp
    have hBf : FitM Bk (2 * G + 8) := by rw [hBk]; exact row_fit sg_s1 sg_s2 hAf hG1
    rw [← hBk] at hnx ⊢
    refine gV rfl (cK (ts (ro rfl (eZ fa_30_1 (Ht rfl) rfl) (ro rfl (eY A_28 Z_28 (Ht rfl) (i := 3) rfl rfl) (ro rfl (op_lenI U_28 (Ht rfl)) (ro rfl (cX (cJ 0)) (eX (eG (T_keep [0, 1, 2, 3] rfl (by decide) ?_)))))))))
    refine T_loop (fun (r : Nat) => r ≤ z.length) (fun (r : Nat) => z.length - r) (fun (r : Nat) => [(4, PtrB B4 0), (8, PT (NumT hlf)), (11, PT (NumT hlf)), (12, PtrB B12 0), (15, NT .i64 q1), (16, NT .i64 q2), (44, JsT js), (45, NT .i64 js.length), (46, NT .i64 k), (109, NT .i64 z.length), (110, NT .i64 r)]) (fun (r : Nat) => [rowO 45 5 (.slice (some ⟨vZ, 0, none⟩) z.length z.length) (Zk.map NumT), matW bS 27 45 5 vs vs (FRow NumT (colM sgF.g1 sgF.g2 Bk q1 q2 z.length r)), box B4 30 [Is (.slice none 0 0), Is (.slice none 0 0)], box B12 30 [Is (.slice (some ⟨vZ, 0, none⟩) z.length z.length), Is (.slice (some ⟨bS, 0, none⟩) z.length z.length)]]) 0 (Nat.zero_le _)
     (aQ rfl (aQ rfl (aQ rfl (aQ rfl (aQ rfl (aQ rfl (aQ rfl (aQ rfl (aQ rfl (aQ rfl (aQ rfl aX))))))))))) (aU (fun _ _ _ h => h) (aU (matW_of (congrArg (FRow NumT) (colM_zero hBs))) (aU (box_of rfl) (aU (box_of rfl) aY)))) (fun r hr => ?_)
    refine ts (ro rfl (gX (Ht rfl) (Ht rfl)) (eX (cK (dQ (Ht rfl) (fun hd2 => ?_) (fun hd2 => ?_)))))
    ·have hrn : r < z.length := by simp only [decide_eq_true_eq] at hd2; omega
     obtain ⟨X, hX⟩ : ∃ X, X = colM sgF.g1 sgF.g2 Bk q1 q2 z.length r := ⟨_, rfl⟩
     have hXs : Shp X z.length z.length := by rw [hX]; exact colM_shp
     have hXf : FitM X (4 * G + 24) := by rw [hX]; exact (col_fit sg_s3 sg_s4 hBf (by omega)).le (by omega)
     have hnr := col_next (f := sgF.g1) (g := sgF.g2) hX hp1 hq1 hpq1 hrn
     haveI g1 : FitC (gm X r q1) (4 * G + 24) := hXf.get (by omega) _ _
     haveI g2 : FitC (gm X r q2) (4 * G + 24) := hXf.get (by omega) _ _
     rw [← hX]
     have hY : Shp (setM X r q1 (gm X r q1 + gm X r q2 * hlf)) z.length z.length := setM_shp hXs
     refine cU (cK (eG (ts (rm rfl (ra rfl (eX (cK (Y.D_start (m := 19) [] (bY (Ei := [(12, _)]) rfl rfl (bQ (bJ rfl rfl) bX) rfl rfl (dX rfl (eZ fa_30_1 (Ht rfl) rfl)) (bY (Ei := [(113, _)]) rfl rfl (bQ (bZ 0 rfl rfl) bX) rfl rfl (dX rfl (eY A_28 Z_28 (Ht rfl) (i := 3) rfl rfl)) (bY (Ei := [(20, _)]) rfl rfl (bQ (bJ rfl rfl) bX) rfl rfl (dX rfl (cX (Ht rfl))) (bY (Ei := [(114, _), (115, _)]) rfl rfl (bQ (bZ 1 rfl rfl) (bQ (bZ 2 rfl rfl) bX)) rfl rfl (dX rfl (fY U_28 Z_27 (Ht rfl) (Ht rfl) rfl (by omega) (by rw [Nat.mul_one, Nat.zero_add]))) ?_))))))))))))
     refine bY (Ei := [(116, _)]) rfl rfl (bQ (bZ 3 rfl rfl) bX) rfl rfl (dX rfl (op_ldHW A_27 Z_27 (Ht rfl) (j := 1) rfl (by omega))) (bY (Ei := [(15, _)]) rfl rfl (bQ (bJ rfl rfl) bX) rfl rfl (dX rfl (cX (Ht rfl))) (bY (Ei := [(117, _), (118, _)]) rfl rfl (bQ (bZ 4 rfl rfl) (bQ (bZ 5 rfl rfl) bX)) rfl rfl (dX rfl (op_idxW U_27 Z_45 (Ht rfl) (Ht rfl) rfl (j := 1) rfl (w3a hvl hXs) (w3b hXs hrn) (w3c hXs hrn hp1))) (bY (Ei := [(119, _)]) rfl rfl (bQ (bZ 6 rfl rfl) bX) rfl rfl (dX rfl (op_ldW A_45 Z_45 (Ht rfl) (j := 1) rfl (w3a hvl hXs) (w3b hXs hrn) (w3c hXs hrn hp1))) ?_)))
     refine bY (Ei := [(12, _)]) rfl rfl (bQ (bJ rfl rfl) bX) rfl rfl (dX rfl (eZ fa_30_1 (Ht rfl) rfl)) (bY (Ei := [(121, _)]) rfl rfl (bQ (bZ 8 rfl rfl) bX) rfl rfl (dX rfl (eY A_28 Z_28 (Ht rfl) (i := 3) rfl rfl)) (bY (Ei := [(20, _)]) rfl rfl (bQ (bJ rfl rfl) bX) rfl rfl (dX rfl (cX (Ht rfl))) (bY (Ei := [(122, _), (123, _)]) rfl rfl (bQ (bZ 9 rfl rfl) (bQ (bZ 10 rfl rfl) bX)) rfl rfl (dX rfl (fY U_28 Z_27 (Ht rfl) (Ht rfl) rfl (by omega) (by rw [Nat.mul_one, Nat.zero_add]))) ?_)))
     refine bY (Ei := [(124, _)]) rfl rfl (bQ (bZ 11 rfl rfl) bX) rfl rfl (dX rfl (op_ldHW A_27 Z_27 (Ht rfl) (j := 1) rfl (by omega))) (bY (Ei := [(16, _)]) rfl rfl (bQ (bJ rfl rfl) bX) rfl rfl (dX rfl (cX (Ht rfl))) (bY (Ei := [(125, _), (126, _)]) rfl rfl (bQ (bZ 12 rfl rfl) (bQ (bZ 13 rfl rfl) bX)) rfl rfl (dX rfl (op_idxW U_27 Z_45 (Ht rfl) (Ht rfl) rfl (j := 1) rfl (w3a hvl hXs) (w3b hXs hrn) (w3c hXs hrn hq1))) (bY (Ei := [(127, _)]) rfl rfl (bQ (bZ 14 rfl rfl) bX) rfl rfl (dX rfl (op_ldW A_45 Z_45 (Ht rfl) (j := 1) rfl (w3a hvl hXs) (w3b hXs hrn) (w3c hXs hrn hq1))) ?_)))
     refine Y.D_newp (Ei := []) (fun bb => box bb 45 [BoolT (decide ((gm X r q1).a < 0)), NatT (gm X r q1).a.natAbs, BoolT (decide ((gm X r q1).b < 0)), NatT (gm X r q1).b.natAbs, NatT (du (gm X r q1))]) 18 rfl rfl rfl bX rfl rfl (by kernel_rfl) (eW (Ts := [Is (.bool false), Is (.slice none 0 0), Is (.bool false), Is (.slice none 0 0), Is (.slice none 0 0)]) O_45 rfl (fun V => aW ⟨rfl, trivial⟩ (aW ⟨rfl, trivial⟩ (aW ⟨rfl, trivial⟩ (aW ⟨rfl, trivial⟩ (aW ⟨rfl, trivial⟩ (aG))))))) (Y.D_new (Ei := []) rfl rfl rfl bX rfl rfl (eW (Ts := [Is (.bool false), Is (.slice none 0 0), Is (.bool false), Is (.slice none 0 0), Is (.slice none 0 0)]) O_45 rfl (fun V => aW ⟨rfl, trivial⟩ (aW ⟨rfl, trivial⟩ (aW ⟨rfl, trivial⟩ (aW ⟨rfl, trivial⟩ (aW ⟨rfl, trivial⟩ (aG))))))) ?_)
     refine Y.D_putN (Ei := [(120, _)]) 16 rfl rfl rfl rfl rfl rfl (bQ (bZ 7 rfl rfl) bX) (fun bb => P_stA Z_45 (Ht rfl) (Ht rfl) rfl (i := 0) rfl (aK rfl) rfl rfl) (Y.D_done mixed rfl (by kernel_rfl) rfl (by simp [Y.okP]) rfl rfl (bU (bU (bU (bU (bU (bU (bU (bU (bU (bU (bU (bU (bU (bU (bU (bU (Y.F_newp (fun B21 => Y.F_new (fun B22 => Y.F_putN (Y.F_nil ?_)))))))))))))))))))))
     refine gQ Z_45 (Ht rfl) (Ht rfl) rfl (i := 5) rfl (aK rfl) rfl rfl (eX (gJ (i := 4) (tt := 21) rfl rfl frz_ptr (gJ (i := 5) (tt := 22) rfl rfl frz_ptr (T_keep [0, 1, 2, 3] rfl (by decide) (W.D_start (m := 28) (fun b => cond b ([rowO 45 5 (.slice (some ⟨vZ, 0, none⟩) z.length z.length) (Zk.map NumT), matW bS 27 45 5 vs vs (FRow NumT (X.set r ((X.getD r []).set q1 (gm X r q1 + gm X r q2 * hlf)))), box B4 30 [Is (.slice none 0 0), Is (.slice none 0 0)], box B12 30 [Is (.slice (some ⟨vZ, 0, none⟩) z.length z.length), Is (.slice (some ⟨bS, 0, none⟩) z.length z.length)]]) _) 27 ?_)))))
     refine W.D_step (Ei := [(12, _)]) rfl rfl (W.Srcs.cons (W.Src.pre rfl rfl) W.Srcs.nil) rfl (by kernel_rfl) (dX rfl (eZ fa_30_1 (Ht rfl) rfl)) (W.D_step (Ei := [(129, _)]) rfl rfl (W.Srcs.cons (W.Src.op 0 rfl rfl) W.Srcs.nil) rfl (by kernel_rfl) (dX rfl (eY A_28 Z_28 (Ht rfl) (i := 3) rfl rfl)) (W.D_step (Ei := [(20, _)]) rfl rfl (W.Srcs.cons (W.Src.pre rfl rfl) W.Srcs.nil) rfl (by kernel_rfl) (dX rfl (cX (Ht rfl))) (W.D_step (Ei := [(130, _), (131, _)]) rfl rfl (W.Srcs.cons (W.Src.op 1 rfl rfl) (W.Srcs.cons (W.Src.op 2 rfl rfl) W.Srcs.nil)) rfl (by kernel_rfl) (dX rfl (fY U_28 Z_27 (Ht rfl) (Ht rfl) rfl (by omega) (by rw [Nat.mul_one, Nat.zero_add]))) ?_)))
     refine W.D_step (Ei := [(132, _)]) rfl rfl (W.Srcs.cons (W.Src.op 3 rfl rfl) W.Srcs.nil) rfl (by kernel_rfl) (dX rfl (op_ldHW A_27 Z_27 (Ht rfl) (j := 1) rfl (by omega))) (W.D_step (Ei := [(15, _)]) rfl rfl (W.Srcs.cons (W.Src.pre rfl rfl) W.Srcs.nil) rfl (by kernel_rfl) (dX rfl (cX (Ht rfl))) (W.D_step (Ei := [(12, _)]) rfl rfl (W.Srcs.cons (W.Src.pre rfl rfl) W.Srcs.nil) rfl (by kernel_rfl) (dX rfl (eZ fa_30_1 (Ht rfl) rfl)) (W.D_step (Ei := [(135, _)]) rfl rfl (W.Srcs.cons (W.Src.op 6 rfl rfl) W.Srcs.nil) rfl (by kernel_rfl) (dX rfl (eY A_28 Z_28 (Ht rfl) (i := 3) rfl rfl)) ?_)))
     refine W.D_step (Ei := [(20, _)]) rfl rfl (W.Srcs.cons (W.Src.pre rfl rfl) W.Srcs.nil) rfl (by kernel_rfl) (dX rfl (cX (Ht rfl))) (W.D_step (Ei := [(136, _), (137, _)]) rfl rfl (W.Srcs.cons (W.Src.op 7 rfl rfl) (W.Srcs.cons (W.Src.op 8 rfl rfl) W.Srcs.nil)) rfl (by kernel_rfl) (dX rfl (fY U_28 Z_27 (Ht rfl) (Ht rfl) rfl (by omega) (by rw [Nat.mul_one, Nat.zero_add]))) ?_)
     refine W.D_step (Ei := [(138, _)]) rfl rfl (W.Srcs.cons (W.Src.op 9 rfl rfl) W.Srcs.nil) rfl (by kernel_rfl) (dX rfl (op_ldHW A_27 Z_27 (Ht rfl) (j := 1) rfl (by omega))) (W.D_pure (Ei := [(16, _)]) rfl rfl (W.Srcs.cons (W.Src.pre rfl rfl) W.Srcs.nil) rfl (fun _ => dX rfl (cX (Ht rfl))) (W.D_step (Ei := [(21, _)]) rfl rfl (W.Srcs.cons (W.Src.pre rfl rfl) W.Srcs.nil) rfl (by kernel_rfl) (dX rfl (dJ A_45 Z_45 (Ht rfl))) (W.D_step (Ei := [(141, _)]) rfl rfl (W.Srcs.cons (W.Src.op 12 rfl rfl) W.Srcs.nil) rfl (by kernel_rfl) (dX rfl (op_iface mkif_45 (Ht rfl))) ?_)))
     refine W.D_step (Ei := [(22, _)]) rfl rfl (W.Srcs.cons (W.Src.pre rfl rfl) W.Srcs.nil) rfl (by kernel_rfl) (dX rfl (dJ A_45 Z_45 (Ht rfl))) (W.D_step (Ei := [(143, _)]) rfl rfl (W.Srcs.cons (W.Src.op 14 rfl rfl) W.Srcs.nil) rfl (by kernel_rfl) (dX rfl (op_iface mkif_45 (Ht rfl))) (W.D_step (Ei := [(11, _)]) rfl rfl (W.Srcs.cons (W.Src.pre rfl rfl) W.Srcs.nil) rfl (by kernel_rfl) (dX rfl (dJ A_45 Z_45 (Ht rfl))) (W.D_step (Ei := [(144, _), (145, _)]) rfl rfl (W.Srcs.cons (W.Src.op 15 rfl rfl) (W.Srcs.cons (W.Src.op 16 rfl rfl) W.Srcs.nil)) rfl (by kernel_rfl) (dX rfl (op_invoke meth_45_Mul K_67 (c_Mul (x := (gm X r q2)) (y := hlf) (L := 4 * G + 24) (M := 2) (by omega)) (Ht rfl) ⟨(Ht rfl), trivial⟩)) ?_)))
     refine W.D_step (Ei := [(142, _), (146, _)]) rfl rfl (W.Srcs.cons (W.Src.op 13 rfl rfl) (W.Srcs.cons (W.Src.op 17 rfl rfl) W.Srcs.nil)) rfl (by kernel_rfl) (dX rfl (op_invoke meth_45_Add K_68 (c_Add (x := (gm X r q1)) (y := ((gm X r q2) * hlf)) (L := 4 * G + 24) (M := 4 * G + 24 + 2 + 1) (by omega)) (Ht rfl) ⟨(Ht rfl), trivial⟩)) (W.D_step (Ei := [(22, _)]) rfl rfl (W.Srcs.cons (W.Src.pre rfl rfl) W.Srcs.nil) rfl (by kernel_rfl) (dX rfl (dJ A_45 Z_45 (Ht rfl))) (W.D_step (Ei := [(148, _)]) rfl rfl (W.Srcs.cons (W.Src.op 19 rfl rfl) W.Srcs.nil) rfl (by kernel_rfl) (dX rfl (op_iface mkif_45 (Ht rfl))) ?_))
     refine W.D_step (Ei := [(11, _)]) rfl rfl (W.Srcs.cons (W.Src.pre rfl rfl) W.Srcs.nil) rfl (by kernel_rfl) (dX rfl (dJ A_45 Z_45 (Ht rfl))) (W.D_step (Ei := [(149, _), (150, _)]) rfl rfl (W.Srcs.cons (W.Src.op 20 rfl rfl) (W.Srcs.cons (W.Src.op 21 rfl rfl) W.Srcs.nil)) rfl (by kernel_rfl) (dX rfl (op_invoke meth_45_Mul K_67 (c_Mul (x := (gm X r q2)) (y := hlf) (L := 4 * G + 24) (M := 2) (by omega)) (Ht rfl) ⟨(Ht rfl), trivial⟩)) (W.D_step (Ei := [(151, _)]) rfl rfl (W.Srcs.cons (W.Src.op 22 rfl rfl) W.Srcs.nil) rfl (by kernel_rfl) (dX rfl (op_iface mkif_45 (Ht rfl))) ?_))
     refine W.D_step (Ei := [(21, _)]) rfl rfl (W.Srcs.cons (W.Src.pre rfl rfl) W.Srcs.nil) rfl (by kernel_rfl) (dX rfl (dJ A_45 Z_45 (Ht rfl))) (W.D_step (Ei := [(152, _), (153, _)]) rfl rfl (W.Srcs.cons (W.Src.op 23 rfl rfl) (W.Srcs.cons (W.Src.op 24 rfl rfl) W.Srcs.nil)) rfl (by kernel_rfl) (dX rfl (op_invoke meth_45_Sub K_66 (c_Sub (x := ((gm X r q2) * hlf)) (y := (gm X r q1)) (L := 4 * G + 24 + 2 + 1) (M := 4 * G + 24) (by omega)) (Ht rfl) ⟨(Ht rfl), trivial⟩)) (W.D_step (Ei := [(133, _), (134, _)]) rfl rfl (W.Srcs.cons (W.Src.op 4 rfl rfl) (W.Srcs.cons (W.Src.op 5 rfl rfl) W.Srcs.nil)) rfl (by kernel_rfl) (dX rfl (op_idxW U_27 Z_45 (Ht rfl) (Ht rfl) rfl (j := 1) rfl (w3a hvl hXs) (w3b hXs hrn) (w3c hXs hrn hp1))) ?_))
     refine W.D_put (Ei := [(155, _), (147, _)]) rfl rfl (W.Srcs.cons (W.Src.op 26 rfl rfl) (W.Srcs.cons (W.Src.op 18 rfl rfl) W.Srcs.nil)) rfl ((P_at (j := 1) (P_stW (F := NumT) Z_45 (Ht rfl) (Ht rfl) (El.ag rfl) (w3a hvl hXs) (w3b hXs hrn) (w3c hXs hrn hp1)) rfl rfl)) (W.D_done mixed rfl (by kernel_rfl) rfl (W.F_val (W.F_val (W.F_val (W.F_val (W.F_val (W.F_val (W.F_val (W.F_val (W.F_val (W.F_val (W.F_val (W.F_val (W.F_val (W.F_val (W.F_val (W.F_val (W.F_val (W.F_val (W.F_val (W.F_val (W.F_val (W.F_val (W.F_val (W.F_val (W.F_val (W.F_val (W.F_val (W.F_put (W.F_nil ?_))))))))))))))))))))))))))))))
     refine ro rfl (op_idxW U_27 Z_45 (Ht rfl) (Ht rfl) rfl (j := 1) rfl (w3a hvl hY) (w3b hY hrn) (w3c hY hrn hq1)) (R_stW (F := NumT) Z_45 (Ht rfl) (Ht rfl) (j := 1) rfl (El.ag rfl) (w3a hvl hY) (w3b hY hrn) (w3c hY hrn hq1) rfl (eX (T_blk (cY (ro rfl (dV (Ht rfl) (cJ 1) (by show _ < 9223372036854775808; first | omega | (simp only [lim]; omega))) (rm rfl (eX (T_keep [0, 1, 2, 3] rfl (by decide) (fU (r + 1) hrn (by omega) (aQ rfl (aQ rfl (aQ rfl (aQ rfl (aQ rfl (aQ rfl (aQ rfl (aQ rfl (aQ rfl (aQ rfl (aQ rfl aX))))))))))) (aU (fun _ _ _ h => h) (aU (matW_of (congrArg (FRow NumT) hnr)) (aU (box_of rfl) (aU (box_of rfl) aY)))))))))))))
    ·obtain rfl : r = z.length := by simp only [decide_eq_false_iff_not] at hd2; omega
     rw [← hnx]
     haveI g7 : FitC (gv Zk q1) (4096 * (L + 8)) := hZf.get (by omega) _
     refine gV rfl (cK (fZ (m := 8) (dp 12 rfl (eZ fa_30_0 (Ht rfl) rfl) (dq 158 0 rfl (op_ldBp A_27 Z_27 (Ht rfl) (i := 3) rfl rfl) (dp 15 rfl (cX (Ht rfl)) (dqq 159 1 160 2 rfl (op_idxO U_27 Z_45 (Ht rfl) (Ht rfl) rfl (i := 0) rfl (by rw [List.length_map]; omega) rfl) ?_))))))
     refine dq 161 3 rfl (op_ldO A_45 Z_45 (Ht rfl) (i := 0) rfl rfl (dY (dU (d := Qi.zero) (by omega)))) (dp 8 rfl (dJ A_45 Z_45 (Ht rfl)) (dqq 162 4 163 5 rfl (cZ K_67 (c_Mul (x := gv Zk q1) (y := hlf) (L := 4096 * (L + 8)) (M := 2) (by omega)) ⟨(Ht rfl), (Ht rfl), trivial⟩) (C.D_new (Ei := []) rfl rfl rfl bW (eW (Ts := [Is (.bool false), Is (.slice none 0 0), Is (.bool false), Is (.slice none 0 0), Is (.slice none 0 0)]) O_45 rfl (fun V => aW ⟨rfl, trivial⟩ (aW ⟨rfl, trivial⟩ (aW ⟨rfl, trivial⟩ (aW ⟨rfl, trivial⟩ (aW ⟨rfl, trivial⟩ (aG))))))) ?_)))
     refine fV mixed rfl (by kernel_rfl) (aJ (aJ (aJ (aJ (aJ (aJ (aJ (C.F_new (fun B23 => aV (gQ Z_45 (Ht rfl) (Ht rfl) rfl (i := 4) rfl (aK rfl) rfl rfl (eX (gJ (i := 4) (tt := 23) rfl rfl frz_ptr (T_keep [0, 1, 2, 3] rfl (by decide) (W.D_start (m := 10) (fun b => cond b ([rowO 45 5 (.slice (some ⟨vZ, 0, none⟩) z.length z.length) ((Zk.map NumT).set q1 (NumT (gv Zk q1 * hlf))), matW bS 27 45 5 vs vs (FRow NumT (moM sgF S js z.length (k + 1))), box B4 30 [Is (.slice none 0 0), Is (.slice none 0 0)], box B12 30 [Is (.slice (some ⟨vZ, 0, none⟩) z.length z.length), Is (.slice (some ⟨bS, 0, none⟩) z.length z.length)]]) _) 9 ?_))))))))))))))
     refine W.D_step (Ei := [(12, _)]) rfl rfl (W.Srcs.cons (W.Src.pre rfl rfl) W.Srcs.nil) rfl (by kernel_rfl) (dX rfl (eZ fa_30_0 (Ht rfl) rfl)) (W.D_step (Ei := [(165, _)]) rfl rfl (W.Srcs.cons (W.Src.op 0 rfl rfl) W.Srcs.nil) rfl (by kernel_rfl) (dX rfl (op_ldBp A_27 Z_27 (Ht rfl) (i := 3) rfl rfl)) (W.D_step (Ei := [(15, _)]) rfl rfl (W.Srcs.cons (W.Src.pre rfl rfl) W.Srcs.nil) rfl (by kernel_rfl) (dX rfl (cX (Ht rfl))) (W.D_pure (Ei := [(12, _)]) rfl rfl (W.Srcs.cons (W.Src.pre rfl rfl) W.Srcs.nil) rfl (fun _ => dX rfl (eZ fa_30_0 (Ht rfl) rfl)) ?_)))
     refine W.D_both (T := Is (.slice (some ⟨vZ, 0, none⟩) z.length z.length)) (Ei := [(168, _)]) rfl rfl (W.Srcs.cons (W.Src.op 3 rfl rfl) W.Srcs.nil) rfl (fun b => by cases b <;> exact dX rfl (op_ldBp A_27 Z_27 (Ht rfl) (i := 3) rfl rfl)) (W.D_pure (Ei := [(16, _)]) rfl rfl (W.Srcs.cons (W.Src.pre rfl rfl) W.Srcs.nil) rfl (fun _ => dX rfl (cX (Ht rfl))) (W.D_step (Ei := [(23, _)]) rfl rfl (W.Srcs.cons (W.Src.pre rfl rfl) W.Srcs.nil) rfl (by kernel_rfl) (dX rfl (dJ A_45 Z_45 (Ht rfl))) (W.D_pure (Ei := [(23, _)]) rfl rfl (W.Srcs.cons (W.Src.pre rfl rfl) W.Srcs.nil) rfl (fun _ => dX rfl (dJ A_45 Z_45 (Ht rfl))) ?_)))
     refine W.D_step (Ei := [(166, _), (167, _)]) rfl rfl (W.Srcs.cons (W.Src.op 1 rfl rfl) (W.Srcs.cons (W.Src.op 2 rfl rfl) W.Srcs.nil)) rfl (by kernel_rfl) (dX rfl (op_idxO U_27 Z_45 (Ht rfl) (Ht rfl) rfl (i := 0) rfl (by rw [List.length_map]; omega) rfl)) ?_
     refine W.D_put (Ei := [(173, _), (171, _)]) rfl rfl (W.Srcs.cons (W.Src.op 8 rfl rfl) (W.Srcs.cons (W.Src.op 6 rfl rfl) W.Srcs.nil)) rfl (P_stO Z_45 (Ht rfl) (Ht rfl) (El.ag rfl) (i := 0) rfl rfl (by rw [List.length_map]; omega)) ?_
     refine W.D_done mixed rfl (by kernel_rfl) rfl (W.F_val (W.F_val (W.F_val (W.F_val (W.F_val (W.F_val (W.F_val (W.F_val (W.F_val (W.F_put (W.F_nil (ro rfl (op_idxO U_27 Z_45 (Ht rfl) (Ht rfl) rfl (i := 0) rfl (by rw [List.length_set, List.length_map]; omega) rfl) ?_))))))))))))
     refine R_stO Z_45 (Ht rfl) (Ht rfl) (El.ag rfl) (i := 0) rfl rfl (by rw [List.length_set, List.length_map]; omega) rfl ?_
     refine eX (T_blk (cY (ro rfl (dV (Ht rfl) (cJ 1) (by show _ < 9223372036854775808; first | omega | (simp only [lim]; omega))) (rm rfl (eX (T_keep [0, 1, 2, 3] rfl (by decide) (fU (k + 1) hkn (by omega) (aQ rfl (aQ rfl (aQ rfl (aQ rfl (aQ rfl (aQ rfl (aQ rfl aX))))))) (aU (rowO_of (by rw [hzn]; exact set_two (l := Zk) (a := gv Zk q1 * hlf) (b := gv Zk q1 * hlf) (F := NumT))) (aU (fun _ _ _ h => h) (aU (box_of rfl) (aU (box_of rfl) aY)))))))))))
  ·obtain rfl : k = js.length := by simp only [decide_eq_false_iff_not] at hd; omega
   refine gV rfl (cK (T_conv 1 rfl (matW_close (by rw [hvl, FRow, List.length_map, (moM_shp hS js.length).1])) ?_))
   refine T_frzcell 3 0 0 rfl rfl rfl (by decide) (T_frzcellG 3 1 1 rfl rfl rfl (by decide) (frzM (q := fun _ => True) (M := moM sgF S js z.length js.length) (moM_shp hS js.length).1.symm) (cY (ro rfl (eJ A_30 Z_30 (Ht rfl) (i := 3) rfl rfl rfl) (gQ Z_30 (Ht rfl) (Ht rfl) rfl (i := 2) rfl (aK rfl) rfl rfl (ro rfl (cQ (cJ 0)) (eX (T_ret2 rfl (fX (fK A_30 Z_30 rfl (i := 2) rfl rfl) ?_) (fX (eU rfl) ?_))))))))
   ·exact (fun v V h => by rw [xsZ, xsS, okL, okL, if_pos h3, if_pos h3]; exact h)
   ·exact (int_of h3.symm)
end
section
open Go Go.RowKit
def othW (n : Nat) (zr : List Rt) : List Qi := tab n fun i => (imR (pkR zr i)).q
theorem othW_len (n : Nat) (zr : List Rt) : (othW n zr).length = n := tab_len _ _
theorem othW_fit (n : Nat) (zr : List Rt) : FitL (othW n zr) 2 := FitL.tab fun i _ => fitRt
section
variable {z w : List Qi} {s : List (List Qi)}
theorem grow4 {L n : Nat} (hn : n ≤ 4) : grow L n ≤ grow L 4 := grow_mono _ hn
theorem xgr4 {L n : Nat} (hn : n ≤ 4) : xgr (grow L n) (n + 1) ≤ xgr (grow L 4) 5 := Nat.le_trans (xgr_monoL (grow_mono _ hn) _) (xgr_mono _ (Nat.succ_le_succ hn))
theorem hg4 {L n B : Nat} (hn : n ≤ 4) (h : 6 * grow L 4 + 4 ≤ B) : 6 * grow L n + 4 ≤ B := Nat.le_trans (Nat.add_le_add_right (Nat.mul_le_mul_left 6 (grow4 hn)) 4) h
theorem impX_small (hz : FitL z 2) (hs : FitM s 2) (hn : z.length ≤ 4) (hS : Shp s z.length z.length) : FitM (impX z s) 20000 := by
 by_cases hE : impE z s = 0
 ·rw [impX, okL, if_pos hE]
  have hi := ovE_zero hE
  have h1 := invX_fit4 (plM_shp _ _ _ _) (plM_fit (n := z.length) hs (by decide) fit_p1 fit_m1) (by decide) hn hi
  have h2 := mulM_fit (n := z.length) (k := z.length) (m := z.length) (plM_fit (n := z.length) hs (by decide) fit_p1 fit_p1) h1 (by decide) (by decide) (by omega)
  refine FitM.tab fun i j _ _ => ?_
  haveI g1 := h2.get (by decide) i j
  haveI g2 := hz.get (by decide) j
  exact (fitMul).le (by decide)
 ·rw [impX, okL, if_neg hE]; exact FitM.nil
theorem admX_small (hz : FitL z 2) (hs : FitM s 2) (hn : z.length ≤ 4) (hS : Shp s z.length z.length) : FitM (admX z s) 20000 := by
 by_cases hE : admE z s = 0
 ·rw [admX, okL, if_pos hE]
  have hi := ovE_zero hE
  have h1 := invX_fit4 (plM_shp _ _ _ _) (plM_fit (n := z.length) hs (by decide) fit_p1 fit_p1) (by decide) hn hi
  have h2 := mulM_fit (n := z.length) (k := z.length) (m := z.length) (plM_fit (n := z.length) hs (by decide) fit_p1 fit_m1) h1 (by decide) (by decide) (by omega)
  refine FitM.tab fun i j _ _ => ?_
  haveI g1 := h2.get (by decide) i j
  haveI g2 := hz.get (by decide) i
  exact (fitDiv).le (by decide)
 ·rw [admX, okL, if_neg hE]; exact FitM.nil
theorem rnS_small (hz : FitL z 2) (hw : FitL w 2) (hs : FitM s 2) (hn : z.length ≤ 4) (hl : w.length = z.length) (hp : z.all posQ = true) (hE : rnE z w s = 0) : FitM (rnS z w s) 100000 := by
 obtain ⟨hq, hi, hS, -⟩ := rn_zero rfl hl hE
 have hPf := rnP_fit hz hw (by decide) (by decide) hp hl
 have hMf := rnM_fit hz hw (by decide) (by decide) hp hl
 have hA : FitM (rnA z w s) 28 := mxM_fit hMf hPf hs (by decide) (by decide)
 have hB : FitM (rnB z w s) 28 := mxM_fit hPf hMf hs (by decide) (by decide)
 have hBs : Shp (rnB z w s) z.length z.length := by rw [← hl]; exact mxM_shp _ _ _ _
 rw [hS]
 exact (mulM_fit hA (invX_fit4 hBs hB (by decide) hn hi) (by decide) (by decide) (by omega)).le (by decide)
end
theorem imp_same {z w : List Qi} {s : List (List Qi)} (hl : w.length = z.length) (hs : Shp s z.length z.length) (hp : z.all posQ = true) (h : rnE z w s = 0) : impX w (rnS z w s) = impX z s ∧ impE w (rnS z w s) = impE z s := by
 obtain ⟨h1, h2⟩ := imp_rn rfl hl hs hp h
 refine ⟨?_, h1⟩
 by_cases hE : impE z s = 0
 ·rw [impX, impX, h1, okL, okL, if_pos hE, if_pos hE, h2 hE]
 ·rw [impX, impX, h1, okL, okL, if_neg hE, if_neg hE]
theorem k_Imp {z : List Qi} {s : List (List Qi)} (hs : Shp s z.length z.length) (hz : FitL z 2) (hf : FitM s 2) (hp : z.all posQ = true) (h1 : 1 ≤ z.length) (hn : z.length ≤ 4) : Fun Tryz.prog 17 [NetT z s] (TupT [NumM (impX z s), IntT .i64 (impE z s)]) := c_ImpB (z := z) (s := s) (L := 2) hs hf hz hp (by decide) (by decide) h1 (by omega) (hg4 hn (by decide)) (Nat.le_trans (xgr4 hn) (by decide))
theorem k_Adm {z : List Qi} {s : List (List Qi)} (hs : Shp s z.length z.length) (hz : FitL z 2) (hf : FitM s 2) (hp : z.all posQ = true) (h1 : 1 ≤ z.length) (hn : z.length ≤ 4) : Fun Tryz.prog 19 [NetT z s] (TupT [NumM (admX z s), IntT .i64 (admE z s)]) := c_AdmB (z := z) (s := s) (L := 2) hs hf hz hp (by decide) (by decide) h1 (by omega) (hg4 hn (by decide)) (Nat.le_trans (xgr4 hn) (by decide))
theorem k_FI {z : List Qi} {s : List (List Qi)} (hs : Shp s z.length z.length) (hz : FitL z 2) (hf : FitM s 2) (hp : z.all posQ = true) (h1 : 1 ≤ z.length) (hn : z.length ≤ 4) (hE : impE z s = 0) : Fun Tryz.prog 22 [NumsT z, NumM (impX z s)] (TupT [NetT z s, IntT .i64 0]) := by
 have hfi := impX_small hz hf hn hs
 have e : impX z s = impM z s := by rw [impX, okL, if_pos hE]
 rw [e] at hfi ⊢
 have h := c_FromImpB (z := z) (m := impM z s) (L := 20000) hfi (hz.le (by decide)) (by decide) (by decide) (by omega) (by rw [impM, tab_len]; omega) (hg4 hn (by decide)) (Nat.le_trans (xgr4 hn) (by decide))
 obtain ⟨b1, b2, b3⟩ := back_imp hs h1 (by omega) hp hE
 rw [b1, b2, b3] at h; exact h
theorem k_FA {z : List Qi} {s : List (List Qi)} (hs : Shp s z.length z.length) (hz : FitL z 2) (hf : FitM s 2) (hp : z.all posQ = true) (h1 : 1 ≤ z.length) (hn : z.length ≤ 4) (hE : admE z s = 0) : Fun Tryz.prog 28 [NumsT z, NumM (admX z s)] (TupT [NetT z s, IntT .i64 0]) := by
 have hfi := admX_small hz hf hn hs
 have e : admX z s = admM z s := by rw [admX, okL, if_pos hE]
 rw [e] at hfi ⊢
 have h := c_FromAdmB (z := z) (m := admM z s) (L := 20000) hfi (hz.le (by decide)) (by decide) (by decide) (by omega) (by rw [admM, tab_len]; omega) (hg4 hn (by decide)) (Nat.le_trans (xgr4 hn) (by decide))
 obtain ⟨b1, b2, b3⟩ := back_adm hs h1 (by omega) hp hE
 rw [b1, b2, b3] at h; exact h
theorem k_Prod {z : List Qi} {s : List (List Qi)} (hs : Shp s z.length z.length) (hz : FitL z 2) (hf : FitM s 2) (hp : z.all posQ = true) (h1 : 1 ≤ z.length) (hn : z.length ≤ 4) (hE : impE z s = 0) (hA : admE z s = 0) : Fun Tryz.prog 76 [NumM (impX z s), NumM (admX z s)] (TupT [NumM (idM z.length), IntT .i64 0]) := by
 have f1 := impX_small hz hf hn hs
 have f2 := admX_small hz hf hn hs
 have e : impX z s = impM z s := by rw [impX, okL, if_pos hE]
 have e2 : admX z s = admM z s := by rw [admX, okL, if_pos hA]
 rw [e] at f1 ⊢
 rw [e2] at f2 ⊢
 have h := c_Prod (a := impM z s) (b := admM z s) (n := z.length) (k := z.length) (m := z.length) Shp.tab Shp.tab f1 f2 (by decide) (by decide) (by decide) (by decide) h1 h1 (by omega) (by omega) (by omega)
 rw [imp_adm hs hp hE hA] at h; exact h
theorem k_Rn {z : List Qi} {s : List (List Qi)} (hs : Shp s z.length z.length) (hz : FitL z 2) (hf : FitM s 2) (hp : z.all posQ = true) (h1 : 1 ≤ z.length) (hn : z.length ≤ 4) {w : List Qi} (hl : w.length = z.length) (hw : FitL w 2) : Fun Tryz.prog 78 [NetT z s, NumsT w] (TupT [NetT (rnZ z w s) (rnS z w s), IntT .i64 (rnE z w s)]) := c_RenormB (z := z) (w := w) (s := s) (L := 2) (M := 2) hs hz hw hf (by decide) (by decide) (by decide) (by decide) hp h1 (by omega) (by omega) (hg4 hn (by decide)) (Nat.le_trans (xgr4 hn) (by decide))
theorem k_RB {z : List Qi} {s : List (List Qi)} (hs : Shp s z.length z.length) (hz : FitL z 2) (hf : FitM s 2) (hp : z.all posQ = true) (h1 : 1 ≤ z.length) (hn : z.length ≤ 4) {w : List Qi} (hl : w.length = z.length) (hw : FitL w 2) (hE : rnE z w s = 0) : Fun Tryz.prog 78 [NetT w (rnS z w s), NumsT z] (TupT [NetT z s, IntT .i64 0]) := by
 have hf2 := rnS_small hz hw hf hn hl hp hE
 obtain ⟨hq, _, _, _⟩ := rn_zero rfl hl hE
 obtain ⟨t1, _⟩ := rn_shp z w s
 have hzz : rnZ z w s = w := (rn_zero rfl hl hE).2.2.2
 rw [hzz] at t1
 have h := c_RenormB (z := w) (w := z) (s := rnS z w s) (L := 100000) (M := 2) t1 (hw.le (by decide)) hz hf2 (by decide) (by decide) (by decide) (by decide) hq (by omega) (by omega) (by omega) (hg4 (by omega) (by decide)) (Nat.le_trans (xgr4 (by omega)) (by decide))
 obtain ⟨b1, b2, b3⟩ := rn_back rfl hl hs hp hE
 rw [b1, b2, b3] at h; exact h
theorem k_IR {z : List Qi} {s : List (List Qi)} (hs : Shp s z.length z.length) (hz : FitL z 2) (hf : FitM s 2) (hp : z.all posQ = true) (h1 : 1 ≤ z.length) (hn : z.length ≤ 4) {w : List Qi} (hl : w.length = z.length) (hw : FitL w 2) (hE : rnE z w s = 0) : Fun Tryz.prog 17 [NetT w (rnS z w s)] (TupT [NumM (impX z s), IntT .i64 (impE z s)]) := by
 have hf2 := rnS_small hz hw hf hn hl hp hE
 obtain ⟨hq, _, _, hzz⟩ := rn_zero rfl hl hE
 obtain ⟨t1, _⟩ := rn_shp z w s
 rw [hzz] at t1
 have h := c_ImpB (z := w) (s := rnS z w s) (L := 100000) t1 hf2 (hw.le (by decide)) hq (by decide) (by decide) (by omega) (by omega) (hg4 (by omega) (by decide)) (Nat.le_trans (xgr4 (by omega)) (by decide))
 obtain ⟨b1, b2⟩ := imp_same hl hs hp hE
 rw [b1, b2] at h; exact h
theorem k_same {z : List Qi} {s : List (List Qi)} (hs : Shp s z.length z.length) (hz : FitL z 2) (hf : FitM s 2) (hp : z.all posQ = true) (h1 : 1 ≤ z.length) (hn : z.length ≤ 4) : Fun Tryz.prog 40 [NetT z s, IntT .i64 0, NetT z s, IntT .i64 0] (BoolT true) := by
 have h := c_same (z := z) (z' := z) (s := s) (s' := s) (e := 0) (e' := 0) (L := 2) hz hz hf hf (by decide) (by decide) hs hs (by omega) (by omega)
 rw [netEq_refl] at h; exact h
theorem k_eq {z : List Qi} {s : List (List Qi)} (hs : Shp s z.length z.length) (hz : FitL z 2) (hf : FitM s 2) (hp : z.all posQ = true) (h1 : 1 ≤ z.length) (hn : z.length ≤ 4) : Fun Tryz.prog 79 [NumM (impX z s), NumM (impX z s)] (BoolT true) := by
 have hk : ∃ k, k ≤ 1000 ∧ Shp (impX z s) k k := by
  by_cases hE : impE z s = 0
  ·exact ⟨z.length, by omega, by rw [impX, okL, if_pos hE]; exact Shp.tab⟩
  ·exact ⟨0, by omega, by rw [impX, okL, if_neg hE]; exact ⟨rfl, fun r hr => by simp at hr⟩⟩
 obtain ⟨k, hk, hS⟩ := hk
 exact c_equalT (n := k) (k := k) (L := 20000) hS (impX_small hz hf hn hs) (by decide) (by decide) hk hk
section
variable {z : List Qi} {s : List (List Qi)} {a b : Nat}
theorem pair_prt {n : Nat} (ha : a < n) (hb : b < n) (hab : a ≠ b) : freshE n ((a + 1 : Nat) : Int) [] = 0 ∧ freshE n ((b + 1 : Nat) : Int) [((a + 1 : Nat) : Int)] = 0 := by
 constructor
 ·rw [freshE, if_neg (fun k => k ⟨by omega, by omega⟩)]; rfl
 ·rw [freshE, if_neg (fun k => k ⟨by omega, by omega⟩), if_neg]
  simp; omega
theorem pair_E {φ : Qi → Qi → Bool} (ha : a < z.length) (hb : b < z.length) (hab : a ≠ b) (hφ : φ (gv z a) (gv z b) = true) : moE φ z [(((a + 1 : Nat) : Int), ((b + 1 : Nat) : Int))] = 0 := by
 obtain ⟨h1, h2⟩ := pair_prt ha hb hab
 refine firstE_none fun i hi => ?_
 obtain rfl : i = 0 := by simp at hi; omega
 show (if freshE z.length ((a + 1 : Nat) : Int) [] ≠ 0 then freshE z.length ((a + 1 : Nat) : Int) [] else if freshE z.length ((b + 1 : Nat) : Int) [((a + 1 : Nat) : Int)] ≠ 0 then freshE z.length ((b + 1 : Nat) : Int) [((a + 1 : Nat) : Int)] else if φ (gv z (((a + 1 : Nat) : Int) - 1).toNat) (gv z (((b + 1 : Nat) : Int) - 1).toNat) = true then 0 else 40) = 0
 rw [h1, h2, show (((a + 1 : Nat) : Int) - 1).toNat = a by omega, show (((b + 1 : Nat) : Int) - 1).toNat = b by omega, if_pos hφ]; rfl
theorem pair_Z (F G : Qi → Qi) : moZ F G z [(((a + 1 : Nat) : Int), ((b + 1 : Nat) : Int))] 1 = (z.set a (F (gv z a))).set b (G (gv z a)) := by
 show (z.set (((a + 1 : Nat) : Int) - 1).toNat (F (gv z (((a + 1 : Nat) : Int) - 1).toNat))).set (((b + 1 : Nat) : Int) - 1).toNat (G (gv z (((a + 1 : Nat) : Int) - 1).toNat)) = _
 rw [show (((a + 1 : Nat) : Int) - 1).toNat = a by omega, show (((b + 1 : Nat) : Int) - 1).toNat = b by omega]
theorem pair_back (ha : a < z.length) (hb : b < z.length) (hab : a ≠ b) (he : gv z a = gv z b) (hs : Shp s z.length z.length) :
  xdE z [(((a + 1 : Nat) : Int), ((b + 1 : Nat) : Int))] = 0 ∧
  xsE (xdZ z [(((a + 1 : Nat) : Int), ((b + 1 : Nat) : Int))]) [(((a + 1 : Nat) : Int), ((b + 1 : Nat) : Int))] = 0 ∧
  xsZ (xdZ z [(((a + 1 : Nat) : Int), ((b + 1 : Nat) : Int))]) [(((a + 1 : Nat) : Int), ((b + 1 : Nat) : Int))] = z ∧
  xsS (xdZ z [(((a + 1 : Nat) : Int), ((b + 1 : Nat) : Int))]) (xdS z s [(((a + 1 : Nat) : Int), ((b + 1 : Nat) : Int))]) [(((a + 1 : Nat) : Int), ((b + 1 : Nat) : Int))] = s := by
 have d1 : xdE z [(((a + 1 : Nat) : Int), ((b + 1 : Nat) : Int))] = 0 := pair_E ha hb hab (by rw [phR_one]; exact decide_eq_true he)
 have dz : xdZ z [(((a + 1 : Nat) : Int), ((b + 1 : Nat) : Int))] = (z.set a (gv z a * Qi.ofInt 2)).set b (gv z a * hlf) := by rw [xdZ, okL, if_pos d1]; exact pair_Z _ _
 have ds : xdS z s [(((a + 1 : Nat) : Int), ((b + 1 : Nat) : Int))] = moM mxF s [(((a + 1 : Nat) : Int), ((b + 1 : Nat) : Int))] z.length 1 := by rw [xdS, okL, if_pos d1]; rfl
 have hl : ((z.set a (gv z a * Qi.ofInt 2)).set b (gv z a * hlf)).length = z.length := by rw [List.length_set, List.length_set]
 have ga : gv ((z.set a (gv z a * Qi.ofInt 2)).set b (gv z a * hlf)) a = gv z a * Qi.ofInt 2 := by rw [gv_set (by rw [List.length_set]; exact hb), if_neg hab, gv_set ha, if_pos rfl]
 have gb : gv ((z.set a (gv z a * Qi.ofInt 2)).set b (gv z a * hlf)) b = gv z a * hlf := by rw [gv_set (by rw [List.length_set]; exact hb), if_pos rfl]
 have hJ : Jn (jps [(((a + 1 : Nat) : Int), ((b + 1 : Nat) : Int))]) z.length [(((a + 1 : Nat) : Int), ((b + 1 : Nat) : Int))].length := prt_jn (mo_prt d1)
 have h2 := hlf2
 have d2 : xsE ((z.set a (gv z a * Qi.ofInt 2)).set b (gv z a * hlf)) [(((a + 1 : Nat) : Int), ((b + 1 : Nat) : Int))] = 0 := pair_E (by omega) (by omega) hab (by
  rw [ga, gb, phR_four, decide_eq_true_eq, show Qi.ofInt 4 = 4 from rfl, q2]; grind)
 rw [dz, ds]
 refine ⟨d1, d2, ?_, ?_⟩
 ·rw [xsZ, okL, if_pos d2]
  refine (pair_Z _ _).trans ?_
  rw [ga]
  have e1 : gv z a * Qi.ofInt 2 * hlf = gv z a := by rw [q2]; grind
  rw [e1]
  refine List.ext_getElem (by simp) fun i h1 h3 => ?_
  rw [List.getElem_set, List.getElem_set, List.getElem_set, List.getElem_set]
  have gva : gv z a = z[a] := by simp [gv, List.getD, ha]
  have gvb : gv z b = z[b] := by simp [gv, List.getD, hb]
  by_cases k1 : b = i
  ·subst k1; rw [if_pos rfl, he, gvb]
  ·rw [if_neg k1]
   by_cases k2 : a = i
   ·subst k2; rw [if_pos rfl, gva]
   ·rw [if_neg k2, if_neg k1, if_neg k2]
 ·rw [xsS, okL, if_pos d2, hl]
  exact md_back hJ rfl hs
theorem pair_fits (ha : a < z.length) (hb : b < z.length) (hab : a ≠ b) (he : gv z a = gv z b) (hs : Shp s z.length z.length) (hz : FitL z 2) (hf : FitM s 2) :
  FitL (xdZ z [(((a + 1 : Nat) : Int), ((b + 1 : Nat) : Int))]) 100 ∧ FitM (xdS z s [(((a + 1 : Nat) : Int), ((b + 1 : Nat) : Int))]) 100 ∧ Shp (xdS z s [(((a + 1 : Nat) : Int), ((b + 1 : Nat) : Int))]) (xdZ z [(((a + 1 : Nat) : Int), ((b + 1 : Nat) : Int))]).length (xdZ z [(((a + 1 : Nat) : Int), ((b + 1 : Nat) : Int))]).length ∧ (xdZ z [(((a + 1 : Nat) : Int), ((b + 1 : Nat) : Int))]).length ≤ z.length := by
 obtain ⟨d1, _⟩ := pair_back ha hb hab he hs
 have dz : xdZ z [(((a + 1 : Nat) : Int), ((b + 1 : Nat) : Int))] = (z.set a (gv z a * Qi.ofInt 2)).set b (gv z a * hlf) := by rw [xdZ, okL, if_pos d1]; exact pair_Z _ _
 obtain ⟨m1, m2⟩ : Shp (xdS z s [(((a + 1 : Nat) : Int), ((b + 1 : Nat) : Int))]) (xdZ z [(((a + 1 : Nat) : Int), ((b + 1 : Nat) : Int))]).length (xdZ z [(((a + 1 : Nat) : Int), ((b + 1 : Nat) : Int))]).length ∧ (xdZ z [(((a + 1 : Nat) : Int), ((b + 1 : Nat) : Int))]).length ≤ z.length := mo_shp hs
 refine ⟨?_, okL_fitM ((moM_fit (F := mxF) mx_s1 mx_s2 mx_s3 mx_s4 hf (by decide) 1).le (by decide)), m1, m2⟩
 rw [dz]
 haveI g1 : FitC (gv z a) 2 := hz.get (by decide) a
 haveI g2 := two_fit
 haveI g3 := hlf_fit
 have setL : ∀ {z : List Qi} {p L : Nat} {x : Qi}, FitL z L → FitC x L → FitL (z.set p x) L := fun h hx y hy => (List.mem_or_eq_of_mem_set hy).elim (h y) fun e => e ▸ hx
 exact setL (setL (hz.le (by decide)) ((fitMul (x := gv z a) (y := Qi.ofInt 2)).le (by decide))) ((fitMul (x := gv z a) (y := hlf)).le (by decide))
end
theorem c_NetworkBack {a l0 l1 l2 l3 : Nat} {zl sl zr : List Rt} (ha : a < 256) (hl0 : l0 < 256) (hl1 : l1 < 256) (hl2 : l2 < 256) (hl3 : l3 < 256) : Fun Tryz.prog 13 [PartT a zl sl, RatsT zr, AggT [NT .u8 l0, NT .u8 l1, NT .u8 l2, NT .u8 l3]] (BoolT true) := by
 obtain ⟨h1, h8, hsh, hp⟩ := netErr_ok (pl_err a zl sl)
 have hn : plN a ≤ 4 := by unfold plN; omega
 have hzl : ((plZ a zl).map Rt.q).length ≤ 4 := by rw [List.length_map, plZ, tab_len]; exact hn
 obtain ⟨z1, hz1⟩ : ∃ z1, z1 = ((plZ a zl).map Rt.q) := ⟨_, rfl⟩
 obtain ⟨s1, hs1⟩ : ∃ s1, s1 = (rq (plS a sl)) := ⟨_, rfl⟩
 have f1 : FitL z1 2 := by rw [hz1]; exact FitL.rt
 have f3 : FitM s1 2 := by rw [hs1]; exact FitM.rt
 have hB1 := c_Build (a := a) (zl := zl) (sl := sl) ha
 have hBA := c_alike (a := a) (zl := zl) (sl := sl) (r := pkR zr 0) ha
 rw [← hz1] at h1 h8 hsh hzl hp
 rw [← hs1] at hsh
 rw [← hz1, ← hs1] at hB1
 rw [← hs1] at hBA
 have hzn : z1.length = plN a := by rw [hz1, List.length_map, plZ, tab_len]
 obtain ⟨z2, hz2⟩ : ∃ z2, z2 = ((plZ a [pkR zr 0]).map Rt.q) := ⟨_, rfl⟩
 rw [← hz2] at hBA
 have hz2l : z2.length = z1.length := by rw [hz2, hzn, List.length_map, plZ, tab_len]
 have hz2g : ∀ i, i < z2.length → gv z2 i = (imR (pkR zr 0)).q := fun i hi => by
  have hi2 : i < plN a := by omega
  rw [hz2, plZ, tab_map, gv_tab hi2]
  simp [pkR, Nat.mod_one]
 have f2 : FitL z2 2 := by rw [hz2]; exact FitL.rt
 have hsh2 : Shp s1 z2.length z2.length := by rw [hz2l]; exact hsh
 have hrf : ∀ i, i < z1.length → Fun Tryz.prog 63 [NetT z1 s1, NT .i64 (i + 1)] (TupT [NumT (gv z1 i), IntT .i64 0]) := fun i hi => by
  have h := c_Ref (z := z1) (s := s1) (i := ((i + 1 : Nat) : Int)) (by omega)
  rw [show pkv z1 ((i + 1 : Nat) : Int) = gv z1 i from pkv_at (by omega), if_pos (by omega)] at h; exact h
 obtain ⟨w1, hw1⟩ : ∃ w1, w1 = othW z1.length zr := ⟨_, rfl⟩
 have hwl : w1.length = z1.length := by rw [hw1]; exact othW_len _ _
 have fw : FitL w1 2 := by rw [hw1]; exact othW_fit _ _
 refine Fun.intro Tryz.func13 rfl Tryz.ntmps13 rfl (fun cx => (ts (rn rfl (fG (Ht rfl)) fun B3 => (rn rfl (fG (Ht rfl)) fun B5 => (ro rfl (cQ cV) (eX (ts (ro rfl (eJ Tryz.isAgg24 Tryz.sizeOf24 (Ht rfl) (i := 0) rfl rfl rfl) (ro rfl (cZ Tryz.call16 hB1 ⟨(Ht rfl), trivial⟩) (rm rfl (ro rfl (dK (Ht rfl) rfl) (ro rfl (dK (Ht rfl) rfl) (ro rfl (dK (Ht rfl) rfl) (rn rfl (eW (Ts := [Is (.slice none 0 0), Is (.slice none 0 0)]) O_30 rfl (fun V => aW ⟨rfl, trivial⟩ (aW ⟨rfl, trivial⟩ (aG)))) fun B7 => ?_))))))))))))))
 refine rn rfl (eW (Ts := [Is (.slice none 0 0), Is (.slice none 0 0)]) O_34 rfl (fun V => aW ⟨rfl, trivial⟩ (aW ⟨rfl, trivial⟩ (aG)))) fun B8 => gQ Z_30 (Ht rfl) (Ht rfl) rfl (i := 2) rfl (aK rfl) rfl rfl (gQ Z_34 (Ht rfl) (Ht rfl) rfl (i := 3) rfl (aK rfl) rfl rfl (ra rfl (eX (cK (cK (T_keep [0, 1, 2, 3] rfl (by decide) (cY (rm rfl (ro rfl (op_not (Ht rfl)) (eX (T_condF (Ht rfl) (by rfl) ?_)))))))))))
 refine cU (cK (fZ (m := 7) (dp 7 rfl (eJ A_30 Z_30 (Ht rfl) (i := 2) rfl rfl rfl) (dq 45 0 rfl (cZ K_37 c_Ports ⟨(Ht rfl), trivial⟩) (C.D_new (Ei := [(46, _)]) rfl rfl rfl (bV (bG 1 rfl rfl) bW) (new_makeO (T := NumT Qi.zero) (i := Tryz.t45) und_27 info_45 rfl rfl (Ht rfl) rfl num_zero_p (El.ag rfl) (by show 88 * _ ≤ _; omega) (by omega)) (dp 7 rfl (eJ A_30 Z_30 (Ht rfl) (i := 2) rfl rfl rfl) (dq 48 3 rfl (cZ K_37 c_Ports ⟨(Ht rfl), trivial⟩) (C.D_new (Ei := [(49, _)]) rfl rfl rfl (bV (bG 4 rfl rfl) bW) (new_makeO (T := NumT Qi.zero) (i := Tryz.t45) und_27 info_45 rfl rfl (Ht rfl) rfl num_zero_p (El.ag rfl) (by show 88 * _ ≤ _; omega) (by omega)) ?_))))))))
 refine C.D_cpy 2 rfl rfl rfl rfl rfl C.cpy_assign (fV mixed rfl (by kernel_rfl) (aJ (aJ (C.F_new (fun B47 => aJ (aJ (C.F_new (fun B50 => C.F_cpy rfl (aV (ra rfl (eX (cK (ts (rm rfl (ro rfl (op_lenO U_27 (Ht rfl) (i := 4) rfl (show ((List.replicate z1.length (NumT Qi.zero)).length : Int) = ((z1.length : Nat) : Int) from by simp)) (ro rfl (cX (cJ 0)) (eX (eG (T_keep [0, 1, 2, 4, 5] rfl (by decide) ?_)))))))))))))))))))
 refine T_loop (fun (i : Nat) => i ≤ z1.length) (fun (i : Nat) => z1.length - i) (fun (i : Nat) => [(1, RatsT zr), (3, PtrB B3 0), (5, PtrB B5 0), (7, PtrB B7 0), (10, Is B47), (11, Is B50), (52, NT .i64 z1.length), (53, NT .i64 i)]) (fun (i : Nat) => [box B3 24 [NT .u8 a, RatsT zl, RatsT sl], box B5 63 [NT .u8 l0, NT .u8 l1, NT .u8 l2, NT .u8 l3], box B7 30 [NumsT z1, NumM s1], rowO 45 5 B47 ((mixT (gv z1) Qi.zero z1.length i).map NumT), rowO 45 5 B50 ((mixT (fun i => (imR (pkR zr i)).q) Qi.zero z1.length i).map NumT)]) 0 (Nat.zero_le _)
  (aQ rfl (aQ rfl (aQ rfl (aQ rfl (aQ rfl (aQ rfl (aQ rfl (aQ rfl aX)))))))) (aU (box_of rfl) (aU (box_of rfl) (aU (box_of rfl) (aU (rowO_of (by rw [← mix_zero]; exact tab_rep NumT _)) (aU (rowO_of (by rw [← mix_zero]; exact tab_rep NumT _)) aY))))) (fun i hi => ?_)
 refine ts (ro rfl (gX (Ht rfl) (Ht rfl)) (eX (cK (dQ (Ht rfl) (fun hc => ?_) (fun hc => ?_)))))
 ·have hin : i < z1.length := by simp only [decide_eq_true_eq] at hc; omega
  have hl9 := mix_len (gv z1) Qi.zero z1.length i
  have hl10 := mix_len (fun i => (imR (pkR zr i)).q) Qi.zero z1.length i
  refine cU (cK (eG (ts (rm rfl (ra rfl (eX (ts (rm rfl (rm rfl (ro rfl (eJ A_30 Z_30 (Ht rfl) (i := 2) rfl rfl rfl) (rm rfl (ro rfl (dV (Ht rfl) (cJ 1) (by show _ < 9223372036854775808; first | omega | (simp only [lim]; omega))) (ro rfl (cZ Tryz.call63 (hrf i hin) ⟨(Ht rfl), (Ht rfl), trivial⟩) (rm rfl (ro rfl (dK (Ht rfl) rfl) (ro rfl (dK (Ht rfl) rfl) (ro rfl (op_idxO U_27 Z_45 (Ht rfl) (Ht rfl) rfl (i := 3) rfl (by rw [List.length_map, hl9]; exact hin) rfl) ?_)))))))))))))))))
  refine R_stO Z_45 (Ht rfl) (Ht rfl) (El.ag rfl) (i := 3) rfl rfl (by rw [List.length_map, hl9]; exact hin) rfl ?_
  refine eX (T_keep [0, 1, 2, 3, 4] rfl (by decide) (cY (rm rfl (rm rfl (rm rfl (rm rfl (ro rfl (cZ Tryz.call75 (c_pick (l := zr) (i := i)) ⟨(Ht rfl), (Ht rfl), trivial⟩) (ro rfl (cZ Tryz.call74 (c_imped (r := pkR zr i)) ⟨(Ht rfl), trivial⟩) ?_))))))))
  refine ro rfl (cZ Tryz.call50 (c_lawOf (r := imR (pkR zr i))) ⟨(Ht rfl), trivial⟩) ?_
  refine ro rfl (op_idxO U_27 Z_45 (Ht rfl) (Ht rfl) rfl (i := 4) rfl (by rw [List.length_map, hl10]; exact hin) rfl) ?_
  refine R_stO Z_45 (Ht rfl) (Ht rfl) (El.ag rfl) (i := 4) rfl rfl (by rw [List.length_map, hl10]; exact hin) rfl ?_
  refine eX (T_blk (cY (ro rfl (dV (Ht rfl) (cJ 1) (by show _ < 9223372036854775808; first | omega | (simp only [lim]; omega))) (rm rfl (eX (T_keep [0, 1, 2, 3, 4] rfl (by decide) (fU (i + 1) hin (by omega) (aQ rfl (aQ rfl (aQ rfl (aQ rfl (aQ rfl (aQ rfl (aQ rfl (aQ rfl aX)))))))) (aU (box_of rfl) (aU (box_of rfl) (aU (box_of rfl) (aU (rowO_of (by rw [set_mapF]; exact congrArg _ (mix_set (f := gv z1)))) (aU (rowO_of (by rw [set_mapF]; exact congrArg _ (mix_set (f := (fun i => (imR (pkR zr i)).q))))) aY))))))))))))
 ·obtain rfl : i = z1.length := by simp only [decide_eq_false_iff_not] at hc; omega
  rw [mix_fin, mix_fin]
  have hzt : tab z1.length (gv z1) = z1 := (tab_eq rfl).symm
  rw [hzt, show tab z1.length (fun i => (imR (pkR zr i)).q) = w1 from hw1.symm]
  refine gV rfl (gJ (i := 3) (tt := 10) rfl rfl frz_row (gJ (i := 4) (tt := 11) rfl rfl frz_row (ts (ro rfl (eJ A_30 Z_30 (Ht rfl) (i := 2) rfl rfl rfl) (ro rfl (cZ Tryz.call17 (k_Imp hsh f1 f3 hp h1 hzl) ⟨(Ht rfl), trivial⟩) (rm rfl (ro rfl (dK (Ht rfl) rfl) (ro rfl (dK (Ht rfl) rfl) (ra rfl (ra rfl (eX (cK (T_keep [0, 1, 2] rfl (by decide) (T_join (fun (uu : Unit) => True) (fun (uu : Unit) => [(1, RatsT zr), (3, PtrB B3 0), (5, PtrB B5 0), (7, PtrB B7 0), (10, NumsT z1), (11, NumsT w1), (13, NumM (impX z1 s1)), (14, IntT .i64 (impE z1 s1))]) (fun (uu : Unit) => [box B3 24 [NT .u8 a, RatsT zl, RatsT sl], box B5 63 [NT .u8 l0, NT .u8 l1, NT .u8 l2, NT .u8 l3], box B7 30 [NumsT z1, NumM s1]]) ?_ (fun uu hT1 => ?_)))))))))))))))
  ·refine ts (rm rfl (ro rfl (op_eql (Ht rfl) cV) (eX (dQ (Ht rfl) (fun hE => ?_) (fun hE => ?_)))))
   ·have hE2 : impE z1 s1 = 0 := of_decide_eq_true hE
    refine ts (rm rfl (rm rfl (ro rfl (cZ Tryz.call22 (k_FI hsh f1 f3 hp h1 hzl hE2) ⟨(Ht rfl), (Ht rfl), trivial⟩) (rm rfl (ro rfl (dK (Ht rfl) rfl) (ro rfl (dK (Ht rfl) rfl) (rn rfl (eW (Ts := [Is (.slice none 0 0), Is (.slice none 0 0)]) O_30 rfl (fun V => aW ⟨rfl, trivial⟩ (aW ⟨rfl, trivial⟩ (aG)))) fun B15 => (gQ Z_30 (Ht rfl) (Ht rfl) rfl (i := 3) rfl (aK rfl) rfl rfl (ra rfl (eX (cK (T_keep [0, 1, 2, 3] rfl (by decide) (cY (ro rfl (eJ A_30 Z_30 (Ht rfl) (i := 3) rfl rfl rfl) ?_))))))))))))))
    refine rm rfl (ro rfl (eJ A_30 Z_30 (Ht rfl) (i := 2) rfl rfl rfl) (ro rfl (cZ Tryz.call40 (k_same hsh f1 f3 hp h1 hzl) ⟨(Ht rfl), (Ht rfl), (Ht rfl), (cJ 0), trivial⟩) (ro rfl (op_not (Ht rfl)) (eX (T_condF (Ht rfl) (by rfl) ?_)))))
    refine cU (T_keep [0, 1, 2] rfl (by decide) (T_joined () trivial (aQ rfl (aQ rfl (aQ rfl (aQ rfl (aQ rfl (aQ rfl (aQ rfl (aQ rfl aX)))))))) (aU (box_of rfl) (aU (box_of rfl) (aU (box_of rfl) aY)))))
   ·refine cU (T_keep [0, 1, 2] rfl (by decide) (T_joined () trivial (aQ rfl (aQ rfl (aQ rfl (aQ rfl (aQ rfl (aQ rfl (aQ rfl (aQ rfl aX)))))))) (aU (box_of rfl) (aU (box_of rfl) (aU (box_of rfl) aY)))))
  ·refine ts (ro rfl (eJ A_30 Z_30 (Ht rfl) (i := 2) rfl rfl rfl) (ro rfl (cZ Tryz.call19 (k_Adm hsh f1 f3 hp h1 hzl) ⟨(Ht rfl), trivial⟩) (rm rfl (ro rfl (dK (Ht rfl) rfl) (ro rfl (dK (Ht rfl) rfl) (ra rfl (ra rfl (eX (cK (T_keep [0, 1, 2] rfl (by decide) (T_join (fun (uu : Unit) => True) (fun (uu : Unit) => [(1, RatsT zr), (3, PtrB B3 0), (5, PtrB B5 0), (7, PtrB B7 0), (10, NumsT z1), (11, NumsT w1), (13, NumM (impX z1 s1)), (14, IntT .i64 (impE z1 s1)), (17, NumM (admX z1 s1)), (18, IntT .i64 (admE z1 s1))]) (fun (uu : Unit) => [box B3 24 [NT .u8 a, RatsT zl, RatsT sl], box B5 63 [NT .u8 l0, NT .u8 l1, NT .u8 l2, NT .u8 l3], box B7 30 [NumsT z1, NumM s1]]) ?_ (fun uu hT2 => ?_))))))))))))
   ·refine ts (rm rfl (ro rfl (op_eql (Ht rfl) cV) (eX (dQ (Ht rfl) (fun hE => ?_) (fun hE => ?_)))))
    ·have hE2 : admE z1 s1 = 0 := of_decide_eq_true hE
     refine ts (rm rfl (rm rfl (ro rfl (cZ Tryz.call28 (k_FA hsh f1 f3 hp h1 hzl hE2) ⟨(Ht rfl), (Ht rfl), trivial⟩) (rm rfl (ro rfl (dK (Ht rfl) rfl) (ro rfl (dK (Ht rfl) rfl) (rn rfl (eW (Ts := [Is (.slice none 0 0), Is (.slice none 0 0)]) O_30 rfl (fun V => aW ⟨rfl, trivial⟩ (aW ⟨rfl, trivial⟩ (aG)))) fun B19 => (gQ Z_30 (Ht rfl) (Ht rfl) rfl (i := 3) rfl (aK rfl) rfl rfl (ra rfl (eX (cK (T_keep [0, 1, 2, 3] rfl (by decide) (cY (ro rfl (eJ A_30 Z_30 (Ht rfl) (i := 3) rfl rfl rfl) ?_))))))))))))))
     refine rm rfl (ro rfl (eJ A_30 Z_30 (Ht rfl) (i := 2) rfl rfl rfl) (ro rfl (cZ Tryz.call40 (k_same hsh f1 f3 hp h1 hzl) ⟨(Ht rfl), (Ht rfl), (Ht rfl), (cJ 0), trivial⟩) (ro rfl (op_not (Ht rfl)) (eX (T_condF (Ht rfl) (by rfl) ?_)))))
     refine cU (T_keep [0, 1, 2] rfl (by decide) (T_joined () trivial (aQ rfl (aQ rfl (aQ rfl (aQ rfl (aQ rfl (aQ rfl (aQ rfl (aQ rfl (aQ rfl (aQ rfl aX)))))))))) (aU (box_of rfl) (aU (box_of rfl) (aU (box_of rfl) aY)))))
    ·refine cU (T_keep [0, 1, 2] rfl (by decide) (T_joined () trivial (aQ rfl (aQ rfl (aQ rfl (aQ rfl (aQ rfl (aQ rfl (aQ rfl (aQ rfl (aQ rfl (aQ rfl aX)))))))))) (aU (box_of rfl) (aU (box_of rfl) (aU (box_of rfl) aY)))))
   ·refine cK (T_keep [0, 1, 2] rfl (by decide) (T_join (fun (uu : Unit) => True) (fun (uu : Unit) => [(1, RatsT zr), (3, PtrB B3 0), (5, PtrB B5 0), (7, PtrB B7 0), (10, NumsT z1), (11, NumsT w1), (13, NumM (impX z1 s1)), (14, IntT .i64 (impE z1 s1))]) (fun (uu : Unit) => [box B3 24 [NT .u8 a, RatsT zl, RatsT sl], box B5 63 [NT .u8 l0, NT .u8 l1, NT .u8 l2, NT .u8 l3], box B7 30 [NumsT z1, NumM s1]]) ?_ (fun uu hT3 => ?_)))
    ·refine ts (rm rfl (ro rfl (op_eql (Ht rfl) cV) (rm rfl (fQ rfl rfl (eK rfl rfl (Ht rfl) (fun h => cX (Ht rfl))) (fQ rfl rfl (eK rfl rfl (Ht rfl) (fun h => op_eql (fJ rfl h) cV)) (ro rfl (op_and (Ht rfl) (fun h => (fJ rfl h))) (eX (dQ (Ht rfl) (fun hE => ?_) (fun hE => ?_)))))))))
     ·simp only [Bool.and_eq_true, decide_eq_true_eq] at hE
      obtain ⟨hE2, hE3⟩ := hE
      refine ts (rm rfl (rm rfl (ro rfl (cZ Tryz.call76 (k_Prod hsh f1 f3 hp h1 hzl hE2 hE3) ⟨(Ht rfl), (Ht rfl), trivial⟩) (rm rfl (ro rfl (dK (Ht rfl) rfl) (ro rfl (dK (Ht rfl) rfl) (ra rfl (ra rfl (eX (ts (rm rfl (ro rfl (op_neq (Ht rfl) cV) (rm rfl (fQ rfl rfl (eK rfl rfl (Ht rfl) (fun h => cX (Ht rfl))) (fQ rfl rfl (eK rfl rfl (Ht rfl) (fun h => cZ Tryz.call77 (c_identity (n := z1.length) (by omega)) ⟨(fJ rfl h), trivial⟩)) (fQ rfl rfl (eK rfl rfl (Ht rfl) (fun h => op_not (fJ rfl h))) (ro rfl (op_or (Ht rfl) (fun h => (fJ rfl h))) ?_)))))))))))))))))
      refine eX (T_condF (Ht rfl) (by rfl) ?_)
      refine cU (T_keep [0, 1, 2] rfl (by decide) (T_joined () trivial (aQ rfl (aQ rfl (aQ rfl (aQ rfl (aQ rfl (aQ rfl (aQ rfl (aQ rfl aX)))))))) (aU (box_of rfl) (aU (box_of rfl) (aU (box_of rfl) aY)))))
     ·refine cU (T_keep [0, 1, 2] rfl (by decide) (T_joined () trivial (aQ rfl (aQ rfl (aQ rfl (aQ rfl (aQ rfl (aQ rfl (aQ rfl (aQ rfl aX)))))))) (aU (box_of rfl) (aU (box_of rfl) (aU (box_of rfl) aY)))))
    ·refine ts (ro rfl (eJ A_30 Z_30 (Ht rfl) (i := 2) rfl rfl rfl) (rm rfl (ro rfl (cZ Tryz.call78 (k_Rn hsh f1 f3 hp h1 hzl hwl fw) ⟨(Ht rfl), (Ht rfl), trivial⟩) (rm rfl (ro rfl (dK (Ht rfl) rfl) (ro rfl (dK (Ht rfl) rfl) (rn rfl (eW (Ts := [Is (.slice none 0 0), Is (.slice none 0 0)]) O_30 rfl (fun V => aW ⟨rfl, trivial⟩ (aW ⟨rfl, trivial⟩ (aG)))) fun B23 => (gQ Z_30 (Ht rfl) (Ht rfl) rfl (i := 3) rfl (aK rfl) rfl rfl (ra rfl (eX (cK (T_keep [0, 1, 2, 3] rfl (by decide) ?_))))))))))))
     refine T_join (fun (uu : Unit) => True) (fun (uu : Unit) => [(1, RatsT zr), (3, PtrB B3 0), (5, PtrB B5 0), (7, PtrB B7 0)]) (fun (uu : Unit) => [box B3 24 [NT .u8 a, RatsT zl, RatsT sl], box B5 63 [NT .u8 l0, NT .u8 l1, NT .u8 l2, NT .u8 l3], box B7 30 [NumsT z1, NumM s1]]) ?_ (fun uu hT4 => ?_)
     ·refine ts (rm rfl (ro rfl (op_eql (Ht rfl) cV) (eX (dQ (Ht rfl) (fun hE => ?_) (fun hE => ?_)))))
      ·have hE2 : rnE z1 w1 s1 = 0 := of_decide_eq_true hE
       rw [(rn_zero rfl hwl hE2).2.2.2]
       refine ts (ro rfl (eJ A_30 Z_30 (Ht rfl) (i := 3) rfl rfl rfl) (rm rfl (ro rfl (cZ Tryz.call78 (k_RB hsh f1 f3 hp h1 hzl hwl fw hE2) ⟨(Ht rfl), (Ht rfl), trivial⟩) (rm rfl (ro rfl (dK (Ht rfl) rfl) (ro rfl (dK (Ht rfl) rfl) (rn rfl (eW (Ts := [Is (.slice none 0 0), Is (.slice none 0 0)]) O_30 rfl (fun V => aW ⟨rfl, trivial⟩ (aW ⟨rfl, trivial⟩ (aG)))) fun B25 => (gQ Z_30 (Ht rfl) (Ht rfl) rfl (i := 4) rfl (aK rfl) rfl rfl (ra rfl (eX (cK (T_keep [0, 1, 2, 3, 4] rfl (by decide) ?_))))))))))))
       refine cY (ro rfl (eJ A_30 Z_30 (Ht rfl) (i := 3) rfl rfl rfl) (ro rfl (cZ Tryz.call17 (k_IR hsh f1 f3 hp h1 hzl hwl fw hE2) ⟨(Ht rfl), trivial⟩) (rm rfl (ro rfl (dK (Ht rfl) rfl) (ro rfl (dK (Ht rfl) rfl) (ra rfl (ra rfl (eX (cK (T_keep [0, 1, 2, 3, 4] rfl (by decide) (cY (ro rfl (eJ A_30 Z_30 (Ht rfl) (i := 4) rfl rfl rfl) (rm rfl (ro rfl (eJ A_30 Z_30 (Ht rfl) (i := 2) rfl rfl rfl) (ro rfl (cZ Tryz.call40 (k_same hsh f1 f3 hp h1 hzl) ⟨(Ht rfl), (Ht rfl), (Ht rfl), (cJ 0), trivial⟩) ?_)))))))))))))))
       refine ro rfl (op_not (Ht rfl)) (rm rfl (fQ rfl rfl (S_whenU rfl rfl (Ht rfl) (fun h => cX (Ht rfl))) (fQ rfl rfl (S_whenU rfl rfl (Ht rfl) (fun h => cX (Ht rfl))) (fQ rfl rfl (S_whenU rfl rfl (Ht rfl) (fun h => op_neq (Has.wu rfl h) (Has.wu rfl h))) (ro rfl (op_or (Ht rfl) (fun h => (Has.wu rfl h))) (rm rfl (fQ rfl rfl (S_whenU rfl rfl (Ht rfl) (fun h => cX (Ht rfl))) (fQ rfl rfl (S_whenU rfl rfl (Ht rfl) (fun h => op_eql (Has.wu rfl h) cV)) (fQ rfl rfl (S_whenU rfl rfl (Ht rfl) (fun h => cX (Has.wu rfl h))) (fQ rfl rfl (S_when2 rfl rfl rfl (fun h h2 => cX (Ht rfl))) ?_))))))))))
       refine fQ rfl rfl (S_when2 rfl rfl rfl (fun h h2 => cX (Ht rfl))) (fQ rfl rfl (S_when2 rfl rfl rfl (fun h h2 => cZ Tryz.call79 (k_eq hsh f1 f3 hp h1 hzl) ⟨(Has.wu rfl ⟨h, h2⟩), (Has.wu rfl ⟨h, h2⟩), trivial⟩)) (fQ rfl rfl (S_when2 rfl rfl rfl (fun h h2 => op_not (Has.wu rfl ⟨h, h2⟩))) (fQ rfl rfl (S_whenU rfl rfl (Ht rfl) (fun h => op_and (Has.wu rfl h) (fun h2 => (Has.wu rfl ⟨h, h2⟩)))) (ro rfl (op_or (Ht rfl) (fun h => (Has.wu rfl h))) (eX (T_condF (Ht rfl) (by simp) ?_))))))
       refine cU (T_keep [0, 1, 2] rfl (by decide) (T_joined () trivial (aQ rfl (aQ rfl (aQ rfl (aQ rfl aX)))) (aU (box_of rfl) (aU (box_of rfl) (aU (box_of rfl) aY)))))
      ·refine cU (T_keep [0, 1, 2] rfl (by decide) (T_joined () trivial (aQ rfl (aQ rfl (aQ rfl (aQ rfl aX)))) (aU (box_of rfl) (aU (box_of rfl) (aU (box_of rfl) aY)))))
     ·refine cK (ts (ro rfl (eJ A_30 Z_30 (Ht rfl) (i := 2) rfl rfl rfl) (ro rfl (cZ K_37 c_Ports ⟨(Ht rfl), trivial⟩) (ro rfl (op_eqlN (Ht rfl) (cJ 1)) (eX (dQ (Ht rfl) (fun hP => ?_) (fun hP => ?_)))))))
      ·refine ts (ro rfl (cZ Tryz.call15 c_awake4 trivial) (ra rfl (eX ?_)))
       exact fW rfl (eU rfl)
      ·have hz22 : 2 ≤ z2.length := by simp only [decide_eq_false_iff_not] at hP; omega
       have hm1 := Nat.mod_lt l0 (show 0 < z2.length by omega)
       have hm2 := Nat.mod_lt (l0 % z2.length + 1) (show 0 < z2.length by omega)
       refine cU (cK (Y.D_start (m := 9) [] (bY (Ei := [(3, _)]) rfl rfl (bQ (bJ rfl rfl) bX) rfl rfl (dX rfl (eJ Tryz.isAgg24 Tryz.sizeOf24 (Ht rfl) (i := 0) rfl rfl rfl)) (bY (Ei := [(1, _)]) rfl rfl (bQ (bJ rfl rfl) bX) rfl rfl (dX rfl (cX (Ht rfl))) (bY (Ei := [(175, _)]) rfl rfl (bQ (bZ 1 rfl rfl) bX) rfl rfl (dX rfl (cZ Tryz.call75 (c_pick (l := zr) (i := 0)) ⟨(Ht rfl), (cJ 0), trivial⟩)) (bY (Ei := [(174, _), (176, _)]) rfl rfl (bQ (bZ 0 rfl rfl) (bQ (bZ 2 rfl rfl) bX)) rfl rfl (dX rfl (cZ Tryz.call69 hBA ⟨(Ht rfl), (Ht rfl), trivial⟩)) ?_))))))
       refine bY (Ei := [(177, _)]) rfl rfl (bQ (bZ 3 rfl rfl) bX) rfl rfl (dX rfl (cX (Ht rfl))) (bY (Ei := [(173, _)]) rfl rfl (bQ (bZ 4 rfl rfl) bX) rfl rfl (dX rfl (dK (Ht rfl) rfl)) (bY (Ei := [(173, _)]) rfl rfl (bQ (bZ 4 rfl rfl) bX) rfl rfl (dX rfl (dK (Ht rfl) rfl)) (Y.D_newp (Ei := []) (fun bb => box bb 30 [NumsT z2, NumM s1]) 8 rfl rfl rfl bX rfl rfl (by kernel_rfl) (eW (Ts := [Is (.slice none 0 0), Is (.slice none 0 0)]) O_30 rfl (fun V => aW ⟨rfl, trivial⟩ (aW ⟨rfl, trivial⟩ (aG)))) ?_)))
       refine Y.D_putN (Ei := [(178, _)]) 7 rfl rfl rfl rfl rfl rfl (bQ (bZ 5 rfl rfl) bX) (fun bb => P_stA Z_30 (Ht rfl) (Ht rfl) rfl (i := 0) rfl (aK rfl) rfl rfl) (Y.D_done mixed rfl (by kernel_rfl) rfl (by simp [Y.okP]) rfl rfl (bU (bU (bU (bU (bU (bU (bU (Y.F_newp (fun B29 => Y.F_putN (Y.F_nil ?_)))))))))))
       refine ra rfl (eX (cK (cK (T_keep [0, 1, 2, 3] rfl (by decide) (cY (rm rfl (ro rfl (op_not (Ht rfl)) (rm rfl (fQ rfl rfl (eK rfl rfl (Ht rfl) (fun h => eJ A_30 Z_30 (Ht rfl) (i := 3) rfl rfl rfl)) (fQ rfl rfl (eK rfl rfl (Ht rfl) (fun h => cZ K_37 c_Ports ⟨(fJ rfl h), trivial⟩)) (fQ rfl rfl (eK rfl rfl (Ht rfl) (fun h => gX (fJ rfl h) (cJ 2))) (ro rfl (op_or (Ht rfl) (fun h => (fJ rfl h))) (eX (T_condF (Ht rfl) (by simp; omega) ?_))))))))))))))
       refine cU (cK (fZ (m := 5) (dp 5 rfl (op_idxAB Tryz.runUnderlying63 Z_5 (Ht rfl) (cJ 0) rfl (by decide) rfl) (dq 187 0 rfl (eY A_5 Z_5 (Ht rfl) (i := 1) rfl rfl) (dq 188 1 rfl (gZ U_5 U_3 (Ht rfl) (by show _ < 9223372036854775808; first | omega | (simp only [lim]; omega))) (dp 29 rfl (eJ A_30 Z_30 (Ht rfl) (i := 3) rfl rfl rfl) (dq 190 3 rfl (cZ K_37 c_Ports ⟨(Ht rfl), trivial⟩) (fV mixed rfl (by kernel_rfl) (aJ (aJ (aJ (aJ (aJ (aV ?_))))))))))))))
       refine ro rfl (op_remN (Ht rfl) (Ht rfl) (by omega)) (ro rfl (dV (Ht rfl) (cJ 1) (by show _ < 9223372036854775808; first | omega | (simp only [lim]; omega))) (ra rfl (eX (ts (rm rfl (rm rfl (ro rfl (eJ A_30 Z_30 (Ht rfl) (i := 3) rfl rfl rfl) (ro rfl (cZ K_37 c_Ports ⟨(Ht rfl), trivial⟩) (ro rfl (op_remN (Ht rfl) (Ht rfl) (by omega)) (ro rfl (dV (Ht rfl) (cJ 1) (by show _ < 9223372036854775808; first | omega | (simp only [lim]; omega))) (ro rfl (bld_120_0_1 (Ht rfl) (Ht rfl)) (ro rfl (op_bslice (xs := [.tmp 200]) U_59 Z_120 O_120 (cW (Ht rfl) cG) rfl rfl rfl) ?_))))))))))))
       refine ra rfl (eX (cK (T_keep [0, 1, 2, 3] rfl (by decide) ?_)))
       obtain ⟨p, hpd⟩ : ∃ p, p = l0 % z2.length := ⟨_, rfl⟩
       obtain ⟨q, hqd⟩ : ∃ q, q = (p + 1) % z2.length := ⟨_, rfl⟩
       have hpn : p < z2.length := by rw [hpd]; exact Nat.mod_lt _ (by omega)
       have hqn : q < z2.length := by rw [hqd]; exact Nat.mod_lt _ (by omega)
       have hpq : p ≠ q := fun e => by
        rcases Nat.lt_or_ge (p + 1) z2.length with k | k
        ·rw [Nat.mod_eq_of_lt k] at hqd; omega
        ·have : p + 1 = z2.length := by omega
         rw [this, Nat.mod_self] at hqd; omega
       have he := (hz2g p hpn).trans (hz2g q hqn).symm
       rw [← hpd, ← hqd]
       obtain ⟨k1, k2, k3, k4⟩ := pair_back (s := s1) hpn hqn hpq he hsh2
       obtain ⟨m1, m2, m3, m4⟩ := pair_fits (s := s1) hpn hqn hpq he hsh2 f2 f3
       refine T_sub (E' := [(1, _), (3, _), (5, _), (7, _), (29, _), (30, _), (31, _), (32, _), (169, _), (170, _), (171, _), (173, _), (174, _), (175, _), (176, _), (177, _), (178, _), (179, _), (180, _), (181, _), (182, _), (183, _), (184, _), (185, _), (186, _), (187, _), (188, _), (189, _), (190, _), (191, _), (192, _), (193, _), (194, _), (195, _), (196, _), (197, _), (198, _), (199, _), (200, _), (201, _)]) (aQ rfl (aQ rfl (aQ rfl (aQ rfl (aQ rfl (aQ rfl (aQ rfl (aZ rfl (slT_of (Us := [((((p + 1 : Nat) : Int), ((q + 1 : Nat) : Int)))].map JT) rfl) (aQ rfl (aQ rfl (aQ rfl (aQ rfl (aQ rfl (aQ rfl (aQ rfl (aQ rfl (aQ rfl (aQ rfl (aQ rfl (aQ rfl (aQ rfl (aQ rfl (aQ rfl (aQ rfl (aQ rfl (aQ rfl (aQ rfl (aQ rfl (aQ rfl (aQ rfl (aQ rfl (aQ rfl (aQ rfl (aQ rfl (aQ rfl (aQ rfl (aQ rfl (aQ rfl (aQ rfl (aQ rfl aX)))))))))))))))))))))))))))))))))))))))) ?_
       refine cY (ro rfl (eJ A_30 Z_30 (Ht rfl) (i := 3) rfl rfl rfl) (rm rfl (ro rfl (cZ Tryz.call31 (c_Mixed (z := z2) (S := s1) (js := [(((p + 1 : Nat) : Int), ((q + 1 : Nat) : Int))]) (L := 2) hsh2 f3 f2 (by decide) (by decide) (by omega) (by simp)) ⟨(Ht rfl), (Ht rfl), trivial⟩) ?_)))
       refine rm rfl (ro rfl (dK (Ht rfl) rfl) (ro rfl (dK (Ht rfl) rfl) (rn rfl (eW (Ts := [Is (.slice none 0 0), Is (.slice none 0 0)]) O_30 rfl (fun V => aW ⟨rfl, trivial⟩ (aW ⟨rfl, trivial⟩ (aG)))) fun B33 => (gQ Z_30 (Ht rfl) (Ht rfl) rfl (i := 4) rfl (aK rfl) rfl rfl (ra rfl (eX (cK (T_keep [0, 1, 2, 3, 4] rfl (by decide) (cY (ro rfl (eJ A_30 Z_30 (Ht rfl) (i := 4) rfl rfl rfl) (rm rfl (ro rfl (cZ Tryz.call33 (c_Single (z := xdZ z2 [(((p + 1 : Nat) : Int), ((q + 1 : Nat) : Int))]) (S := xdS z2 s1 [(((p + 1 : Nat) : Int), ((q + 1 : Nat) : Int))]) (js := [(((p + 1 : Nat) : Int), ((q + 1 : Nat) : Int))]) (L := 100) m3 m2 m1 (by decide) (by decide) (by omega) (by simp)) ⟨(Ht rfl), (Ht rfl), trivial⟩) ?_))))))))))))
       refine rm rfl (ro rfl (dK (Ht rfl) rfl) (ro rfl (dK (Ht rfl) rfl) (rn rfl (eW (Ts := [Is (.slice none 0 0), Is (.slice none 0 0)]) O_30 rfl (fun V => aW ⟨rfl, trivial⟩ (aW ⟨rfl, trivial⟩ (aG)))) fun B35 => (gQ Z_30 (Ht rfl) (Ht rfl) rfl (i := 5) rfl (aK rfl) rfl rfl (ra rfl (eX (cK (T_keep [0, 1, 2, 3, 4, 5] rfl (by decide) ?_))))))))
       rw [k1, k2, k3, k4]
       refine cY (rm rfl (ro rfl (op_eql (Ht rfl) cV) (rm rfl (fQ rfl rfl (eK rfl rfl (Ht rfl) (fun h => eJ A_30 Z_30 (Ht rfl) (i := 5) rfl rfl rfl)) (fQ rfl rfl (eK rfl rfl (Ht rfl) (fun h => cX (Ht rfl))) (fQ rfl rfl (eK rfl rfl (Ht rfl) (fun h => eJ A_30 Z_30 (Ht rfl) (i := 3) rfl rfl rfl)) (fQ rfl rfl (eK rfl rfl (Ht rfl) (fun h => cZ Tryz.call40 (k_same hsh2 f2 f3 (by rw [hz2]; exact (netErr_ok (pl_err a [pkR zr 0] sl)).2.2.2) (by omega) (by omega)) ⟨(fJ rfl h), (fJ rfl h), (fJ rfl h), (cJ 0), trivial⟩)) ?_)))))))
       refine ro rfl (op_and (Ht rfl) (fun h => (fJ rfl h))) (rm rfl (fQ rfl rfl (eK rfl rfl (Ht rfl) (fun h => cZ Tryz.call15 c_awake4 trivial)) (ro rfl (op_and (Ht rfl) (fun h => (fJ rfl h))) (ra rfl (eX ?_)))))
       exact fW rfl (eU rfl)
end
section
open Go Go.ChangeShapes Go.WideShapes Go.ChangeAt Go.RowKit Go.Deep
section
variable {H : Type} {enc : TypeId × Value → H} {W : World} {base : Nat} {sp : Nat → Bool} {held : Bool}
theorem s125 : S3 Tryz.prog 24 5 22 22 := ⟨⟨_, _, _, Tryz.underlying24, rfl, rfl, rfl, rfl, rfl, rfl⟩, by kernel_rfl, by kernel_rfl, by kernel_rfl, by kernel_rfl⟩
theorem trod_partT {b0 : Nat} {v : Value} {d : DataW H} {p : List MemPlace} (ho : Value.okWide Tryz.prog W .any b0 24 v) (h : DataW.Trod enc Tryz.prog W base sp held 24 v d p) : ∃ (a : Nat) (zl sl : List Rt), (AggT [NT .u8 a, RatsT zl, RatsT sl]).p v (hv W) ∧ a < 256 := by
 obtain ⟨cs, rfl, _⟩ := okWide_struct Tryz.underlying24 ho
 obtain ⟨n, hn⟩ := h
 obtain ⟨x0, x1, x2, m, y0, y1, y2, hcs, h0, h1, h2⟩ := s125.open hn
 obtain ⟨i, e0, _, w⟩ := DataW.trod_int V_5 h0
 obtain ⟨v1, z, e1, k1⟩ := open_rats h1
 obtain ⟨v2, s, e2, k2⟩ := open_rats h2
 simp only [List.cons.injEq, and_true] at e0 e1 e2
 subst e0 e1 e2
 have hw := wf_u8 w
 have e : ((i.toNat : Nat) : Int) = i := by omega
 have hi : ∀ V, (NT .u8 i.toNat).p (.int .u8 i) V := fun V => by rw [show NT .u8 i.toNat = IntT .u8 i from congrArg (IntT .u8) e]; rfl
 have hcs2 : cs.toList = [.int .u8 i, x1, x2] := hcs
 exact ⟨i.toNat, z, s, ⟨cs.toList, rfl, by rw [hcs2]; exact aW ⟨hi _, trivial⟩ (aW ⟨k1, (sl_cells k1).2⟩ (aW ⟨k2, (sl_cells k2).2⟩ aG))⟩, by omega⟩
end
end
section
open Go Go.ChangeShapes Go.WideShapes Go.ChangeAt Go.RowKit Go.Deep
section
variable {H : Type} {enc : TypeId × Value → H} {W : World} {base : Nat} {sp : Nat → Bool} {held : Bool}
theorem okWide_arr {P : Program} {w : World} {r : Reach} {base : Nat} {t : TypeId} {v : Value} {n : Nat} {e : TypeId} (ht : P.underlying t = some (.array n e)) (h : Value.okWide P w r base t v) : ∃ cs, v = .agg cs ∧ cs.size = P.cellsOf t := by
 simp only [Value.okWide, ht] at h
 obtain ⟨cs, h1, h2, _⟩ := h
 exact ⟨cs, h1, h2⟩
theorem u8_of {i : Int} (w : 0 ≤ i ∧ i < 256) : ∀ V, (NT .u8 i.toNat).p (.int .u8 i) V := fun V => by
 have e : ((i.toNat : Nat) : Int) = i := by omega
 rw [show NT .u8 i.toNat = IntT .u8 i from congrArg (IntT .u8) e]; rfl
theorem trod_a4T {b0 : Nat} {v : Value} {d : DataW H} {p : List MemPlace} (ho : Value.okWide Tryz.prog W .any b0 63 v) (h : DataW.Trod enc Tryz.prog W base sp held 63 v d p) :
  ∃ a b c e : Nat, (AggT [NT .u8 a, NT .u8 b, NT .u8 c, NT .u8 e]).p v (hv W) ∧ a < 256 ∧ b < 256 ∧ c < 256 ∧ e < 256 := by
 obtain ⟨cs, rfl, _⟩ := okWide_arr Tryz.underlying63 ho
 obtain ⟨n, hn⟩ := h
 obtain ⟨xs, m, _, _, hl, hx, he⟩ := DataW.trod_array Tryz.underlying63 hn
 have hc : Tryz.prog.cellsOf 63 = 4 := by kernel_rfl
 have hi : Tryz.prog.cellsOf 5 = 1 := by kernel_rfl
 rw [hc] at hl
 obtain ⟨cl, hcl⟩ : ∃ cl, cl = cs.toList := ⟨_, rfl⟩
 have e9 : (Value.agg cs).cells.toList = cl := hcl.symm
 rw [e9] at hl he
 match cl, hl with
 | [c0, c1, c2, c3], _ =>
  match xs, hx with
  | [y0, y1, y2, y3], _ =>
   have e0 := he 0 (by omega)
   have e1 := he 1 (by omega)
   have e2 := he 2 (by omega)
   have e3 := he 3 (by omega)
   rw [hi] at e0 e1 e2 e3
   obtain ⟨i0, q0, _, w0⟩ := DataW.trod_int V_5 (show DataW.trod enc Tryz.prog W base sp held m 5 [c0] = some y0 from e0)
   obtain ⟨i1, q1, _, w1⟩ := DataW.trod_int V_5 (show DataW.trod enc Tryz.prog W base sp held m 5 [c1] = some y1 from e1)
   obtain ⟨i2, q2, _, w2⟩ := DataW.trod_int V_5 (show DataW.trod enc Tryz.prog W base sp held m 5 [c2] = some y2 from e2)
   obtain ⟨i3, q3, _, w3⟩ := DataW.trod_int V_5 (show DataW.trod enc Tryz.prog W base sp held m 5 [c3] = some y3 from e3)
   simp only [List.cons.injEq, and_true] at q0 q1 q2 q3
   subst q0 q1 q2 q3
   have b0 := wf_u8 w0
   have b1 := wf_u8 w1
   have b2 := wf_u8 w2
   have b3 := wf_u8 w3
   exact ⟨i0.toNat, i1.toNat, i2.toNat, i3.toNat, ⟨cs.toList, rfl, by rw [← hcl]; exact aW ⟨u8_of ⟨by omega, by omega⟩ _, trivial⟩ (aW ⟨u8_of ⟨by omega, by omega⟩ _, trivial⟩ (aW ⟨u8_of ⟨by omega, by omega⟩ _, trivial⟩ (aW ⟨u8_of ⟨by omega, by omega⟩ _, trivial⟩ aG)))⟩, by omega, by omega, by omega, by omega⟩
end
end
end Go.Proofs.YteimkhgiekndjaaGreat
