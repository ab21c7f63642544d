/- What functions of the program compute, proved by walks over their code, and the plain mathematics of it; a part of the proof in the last text. -/
import Derived.Test.YteimkhgiekndjaaGreatP05
set_option linter.unusedVariables false
set_option linter.unusedSimpArgs false
namespace Go.Proofs.YteimkhgiekndjaaGreat
section
open Go Go.RowKit
set_option maxRecDepth 20000 in
theorem c_rOverO {Y M : List (List Qi)} {n L K : Nat} (hY : Shp Y n n) (hM : Shp M n n) (hfY : FitM Y K) (hf : FitM M L) (hK : 1 ≤ K) (hKb : K ≤ 900000000000) (hL : 1 ≤ L) (h1 : 1 ≤ n) (hn : n ≤ 8) (hg : 6 * grow L n + 4 ≤ 17592186044415) (hx : xgr (grow L n) n ≤ 900000000000) (ho : ovE M n = 0) : FunO Tryz.prog 97 [QM Y, QM M] [] (Nat) (fun B => TupT [Is (.slice (some ⟨B, 0, none⟩) n n), BoolT true]) (fun B => [matP exactH B 31 98 5 (FRow QT (mulM Y (invX M n) n n n))]) (fun _ => True) := by
 have he2 : invE M n = 0 := ovE_zero ho
 have hif := invX_fit hM hf hL he2
 have hx1 : 1 ≤ xgr (grow L n) n := Nat.le_trans hL (Nat.le_trans (grow_le L n) (xgr_ge (grow L n) n))
 refine FunO.intro Tryz.func97 rfl Tryz.ntmps97 rfl (fun cx Z => (ts (ro rfl (bY cJ) (ro rfl (bY cJ) (R_nil (ts (rm rfl (ro rfl (cX Tryz.call200 (c_rInv hM hf hL h1 (by omega) hg) ⟨(Ht rfl), trivial⟩) (rm rfl (ro rfl (dG (Ht rfl) rfl) (ro rfl (dG (Ht rfl) rfl) (ra rfl (ra rfl (R_nil (cG (ts (rm rfl (ro rfl (op_neq (Ht rfl) cJ) (R_nil (T_condF (Ht rfl) (by rw [he2]; rfl) ?_))))))))))))))))))))
 refine cK (cG (T_sub (E' := [(0, _), (1, _), (4, _), (5, _), (6, _), (7, _), (10, _), (11, _), (12, _), (13, _), (14, _), (15, _), (16, _)]) (aQ rfl (aQ rfl (aQ rfl (aQ rfl (aZ rfl (slT_of (Us := (invX M n).map QsT) (by rw [he2]; rfl)) (aQ rfl (aQ rfl (aQ rfl (aQ rfl (aQ rfl (aQ rfl (aQ rfl (aQ rfl aX))))))))))))) ?_))
 refine cU (rm rfl (rm rfl (R_call0 Tryz.call115 (c_rProdO (n := n) (k := n) (m := n) hY (invX_shp M n) hfY hif hK hx1 hKb hx h1 h1 hn hn hn) ⟨(Ht rfl), (Ht rfl), trivial⟩ rfl (fun B20 _ => (rm rfl (ro rfl (dG (Ht rfl) rfl) (ro rfl (dG (Ht rfl) rfl) (ra rfl (ra rfl (R_nil (ts (rm rfl (ra rfl (ro rfl (bY cJ) (R_nil ?_)))))))))))))))
 exact T_retO B20 trivial [0, 1] ⟨⟨_, rfl, fun _ _ _ h => h⟩, ⟨_, rfl, fun _ _ _ h => h⟩, trivial⟩ (by decide) (rvs2 rfl (rv_tmp rfl) (rv_tmp rfl))
set_option maxRecDepth 20000 in
theorem c_rImpB {z : List Qi} {s : List (List Qi)} {L : Nat} (hs : Shp s z.length z.length) (hf : FitM s L) (hfz : FitL z L) (hp : z.all posQ = true) (hL : 1 ≤ L) (hLb : L ≤ 1000) (h1 : 1 ≤ z.length) (h8 : z.length ≤ 8) (hg : 6 * grow (L + 4) z.length + 4 ≤ 17592186044415) (hx : xgr (grow (L + 4) z.length) (z.length + 1) ≤ 900000000000) (ho : impE z s ≠ 0) : Fun Tryz.prog 18 [RNetT z s] (TupT [QM [], IntT .i64 5]) := by
 have hxn := Nat.le_trans (xgr_step (grow (L + 4) z.length) z.length) hx
 have hsl := hs.1
 refine Fun.intro Tryz.func18 rfl Tryz.ntmps18 rfl (fun cx => (ts (rn rfl (new_box (Ht rfl)) fun B1 => (ro rfl (bY cJ) (ro rfl (bY (cZ 0)) (R_nil (cG (C.D_start (m := 11) (dp 1 rfl (op_fldB fa_34_1 (Ht rfl) rfl) (dq 9 0 rfl (op_ldB A_32 Z_32 (Ht rfl) (i := 0) rfl rfl) (dq 10 1 rfl (cX K_98 (c_rPlus (x := 1) (y := 1) (M := s) (n := z.length) (L := L) hs hf hL (by omega) (by omega) (by decide) (by decide)) ⟨(cZ 1), (cZ 1), (Ht rfl), trivial⟩) (dp 1 rfl (op_fldB fa_34_1 (Ht rfl) rfl) (dq 12 3 rfl (op_ldB A_32 Z_32 (Ht rfl) (i := 0) rfl rfl) ?_)))))))))))))
 refine dq 13 4 rfl (cX K_98 (c_rPlus (x := 1) (y := (-1)) (M := s) (n := z.length) (L := L) hs hf hL (by omega) (by omega) (by decide) (by decide)) ⟨(cZ 1), cJ, (Ht rfl), trivial⟩) (dqq 11 2 14 5 rfl (cX Tryz.call97 (c_rOver (Y := (plM 1 1 s z.length)) (M := (plM 1 (-1) s z.length)) (n := z.length) (L := L + 4) (K := L + 4) (plM_shp _ _ _ _) (plM_shp _ _ _ _) (plM_fit hf hL fit_p1 fit_p1) (plM_fit hf hL fit_p1 fit_m1) (by omega) (by omega) (by omega) h1 h8 hg hxn) ⟨(Ht rfl), (Ht rfl), trivial⟩) (dq 15 6 rfl (cQ (Ht rfl)) (dq 8 7 rfl (dG (Ht rfl) rfl) (dq 8 7 rfl (dG (Ht rfl) rfl) ?_))))
 refine dq 16 8 rfl (bY (Ht rfl)) (C.D_done mixed rfl (by kernel_rfl) (aJ (aJ (aJ (aJ (aJ (aJ (aJ (aJ (aJ (aJ (aJ (aV (ra rfl (R_nil (cG (ts (rm rfl (ro rfl (op_not (Ht rfl)) (R_nil (T_condT (Ht rfl) (by have ho2 : ¬ ovE (plM 1 (-1) s z.length) z.length = 0 := ho; rw [decide_eq_false ho2]; rfl) ?_)))))))))))))))))))))
 refine ts (ro rfl (bY cJ) (ro rfl (bY (cZ 5)) (R_nil (T_ret2 rfl (rv_to (rv_tmp rfl) ?_) (rv_tmp rfl)))))
 exact nil_slT
set_option maxHeartbeats 2000000 in
set_option maxRecDepth 20000 in
theorem c_rImpO {z : List Qi} {s : List (List Qi)} {L : Nat} (hs : Shp s z.length z.length) (hf : FitM s L) (hfz : FitL z L) (hp : z.all posQ = true) (hL : 1 ≤ L) (hLb : L ≤ 1000) (h1 : 1 ≤ z.length) (h8 : z.length ≤ 8) (hg : 6 * grow (L + 4) z.length + 4 ≤ 17592186044415) (hx : xgr (grow (L + 4) z.length) (z.length + 1) ≤ 900000000000) (ho : impE z s = 0) : Fun Tryz.prog 18 [RNetT z s] (TupT [QM (impM z s), IntT .i64 0]) := by
 have hxn := Nat.le_trans (xgr_step (grow (L + 4) z.length) z.length) hx
 have hsl := hs.1
 have hx1 : 1 ≤ xgr (grow (L + 4) z.length) z.length := Nat.le_trans (by omega) (Nat.le_trans (grow_le (L + 4) z.length) (xgr_ge _ _))
 have hif2 := invX_fit (plM_shp _ _ _ _) (plM_fit (n := z.length) hf hL fit_p1 fit_m1) (by omega) (ovE_zero ho)
 have hpf := mulM_fit (n := z.length) (k := z.length) (m := z.length) (plM_fit (n := z.length) hf hL fit_p1 fit_p1) hif2 (by omega) hx1 h8
 refine Fun.intro Tryz.func18 rfl Tryz.ntmps18 rfl (fun cx => (ts (rn rfl (new_box (Ht rfl)) fun B1 => (ro rfl (bY cJ) (ro rfl (bY (cZ 0)) (R_nil (cG (C.D_start (m := 11) (dp 1 rfl (op_fldB fa_34_1 (Ht rfl) rfl) (dq 9 0 rfl (op_ldB A_32 Z_32 (Ht rfl) (i := 0) rfl rfl) (dq 10 1 rfl (cX K_98 (c_rPlus (x := 1) (y := 1) (M := s) (n := z.length) (L := L) hs hf hL (by omega) (by omega) (by decide) (by decide)) ⟨(cZ 1), (cZ 1), (Ht rfl), trivial⟩) (dp 1 rfl (op_fldB fa_34_1 (Ht rfl) rfl) (dq 12 3 rfl (op_ldB A_32 Z_32 (Ht rfl) (i := 0) rfl rfl) ?_)))))))))))))
 refine dq 13 4 rfl (cX K_98 (c_rPlus (x := 1) (y := (-1)) (M := s) (n := z.length) (L := L) hs hf hL (by omega) (by omega) (by decide) (by decide)) ⟨(cZ 1), cJ, (Ht rfl), trivial⟩) (C.D_new (Ei := [(11, _), (14, _)]) rfl rfl rfl (bJ (bW 2 rfl rfl) (bJ (bW 5 rfl rfl) bV)) (new_call0 Tryz.call97 (c_rOverO (Y := (plM 1 1 s z.length)) (M := (plM 1 (-1) s z.length)) (n := z.length) (L := L + 4) (K := L + 4) (plM_shp _ _ _ _) (plM_shp _ _ _ _) (plM_fit hf hL fit_p1 fit_p1) (plM_fit hf hL fit_p1 fit_m1) (by omega) (by omega) (by omega) h1 h8 hg hxn ho) ⟨(Ht rfl), (Ht rfl), trivial⟩) ?_)
 refine C.D_cpy 6 rfl rfl rfl rfl rfl C.cpy_move (C.D_ext 7 rfl rfl rfl (fun T hT => by obtain ⟨x, rfl⟩ := hT; exact ⟨_, _, rfl, rfl⟩) (C.D_ext 7 rfl rfl rfl (fun T hT => by obtain ⟨x, rfl⟩ := hT; exact ⟨_, _, rfl, rfl⟩) (C.D_cpy 8 rfl rfl rfl rfl rfl C.cpy_assign (C.D_done mixed rfl (by kernel_rfl) (aJ (aJ (aJ (aJ (aJ (aJ (C.F_new (fun B15 => C.F_cpy rfl (C.F_dep rfl rfl (C.F_dep rfl rfl (C.F_cpy rfl (aV (ra rfl (R_nil (cG (cG (T_sub (E' := [(1, _), (2, _), (3, _), (4, _), (5, _)]) (aQ rfl (aQ rfl (aQ rfl (aZ rfl (ext_tup rfl) (aZ rfl (ext_tup rfl) aX))))) ?_)))))))))))))))))))))
 refine cU (rm rfl (ro rfl (op_not (Ht rfl)) (R_nil (T_condF (Ht rfl) (by rfl) ?_))))
 refine cK (cG (ts (ro rfl (bY (cZ 0)) (R_nil (T_block ?_)))))
 refine T_loop (fun (i : Nat) => i ≤ z.length) (fun (i : Nat) => z.length - i) (fun (i : Nat) => [(1, PtrB B1 0), (4, Is (.slice (some ⟨B15, 0, none⟩) z.length z.length)), (6, NT .i64 i)]) (fun (i : Nat) => [box B1 34 [QsT z, QM s], matP exactH B15 31 98 5 (FRow QT (mixG (fun i => tab z.length fun j => gm (mulM (plM 1 1 s z.length) (invX (plM 1 (-1) s z.length) z.length) z.length z.length z.length) i j * gv z j) (fun i => tab z.length fun j => gm (mulM (plM 1 1 s z.length) (invX (plM 1 (-1) s z.length) z.length) z.length z.length z.length) i j) z.length i))]) 0 (Nat.zero_le _)
  (aQ rfl (aQ rfl (aQ rfl aX))) (aK (box_of rfl) (aK (matO_of (congrArg (FRow QT) ((mat_tab mulM_shp).trans (mixG_zero _ _ _)))) aU)) (fun i hi => ?_)
 refine cG (ts (rm rfl (rm rfl (ro rfl (op_lenI U_32 (Ht rfl)) (ro rfl (op_lssN (Ht rfl) (Ht rfl)) (R_nil (cY (Ht rfl) (fun hc => ?_) (fun hc => ?_))))))))
 ·have hin : i < z.length := by simp only [decide_eq_true_eq] at hc; omega
  refine T_focusE 1 (i) rfl (frow_mixG hin) (fun v0 hv0 => (cK (cG (T_block (ts (ro rfl (bY (cZ 0)) (R_nil (T_block ?_))))))))
  refine T_loop (fun (j : Nat) => j ≤ z.length) (fun (j : Nat) => z.length - j) (fun (j : Nat) => [(1, PtrB B1 0), (4, Is (.slice (some ⟨B15, 0, none⟩) z.length z.length)), (6, NT .i64 i), (7, NT .i64 j)]) (fun (j : Nat) => [box B1 34 [QsT z, QM s], matQ exactH B15 31 98 5 (FRow QT (mixG (fun i => tab z.length fun j => gm (mulM (plM 1 1 s z.length) (invX (plM 1 (-1) s z.length) z.length) z.length z.length z.length) i j * gv z j) (fun i => tab z.length fun j => gm (mulM (plM 1 1 s z.length) (invX (plM 1 (-1) s z.length) z.length) z.length z.length z.length) i j) z.length i)) i v0, rowO 98 5 v0 ((mixG (fun j => gm (mulM (plM 1 1 s z.length) (invX (plM 1 (-1) s z.length) z.length) z.length z.length z.length) i j * gv z j) (fun j => gm (mulM (plM 1 1 s z.length) (invX (plM 1 (-1) s z.length) z.length) z.length z.length z.length) i j) z.length j).map QT)]) 0 (Nat.zero_le _)
   (aQ rfl (aQ rfl (aQ rfl (aQ rfl aX)))) (aK (box_of rfl) (aK (fun _ _ _ h => h) (aK (rowO_of (by rw [← mixG_zero])) aU))) (fun j hj => ?_)
  refine cG (ts (rm rfl (rm rfl (ro rfl (op_lenI U_32 (Ht rfl)) (ro rfl (op_lssN (Ht rfl) (Ht rfl)) (R_nil (cY (Ht rfl) (fun hd => ?_) (fun hd => ?_))))))))
  ·have hjn : j < z.length := by simp only [decide_eq_true_eq] at hd; omega
   have hrl := mixG_len (fun j => gm (mulM (plM 1 1 s z.length) (invX (plM 1 (-1) s z.length) z.length) z.length z.length z.length) i j * gv z j) (fun j => gm (mulM (plM 1 1 s z.length) (invX (plM 1 (-1) s z.length) z.length) z.length z.length z.length) i j) z.length j
   haveI g1 : FitC (gm (mulM (plM 1 1 s z.length) (invX (plM 1 (-1) s z.length) z.length) z.length z.length z.length) i j) (8 * (L + 4 + xgr (grow (L + 4) z.length) z.length) + 17) := hpf.get (by omega) i j
   haveI g2 : FitC (gv z j) L := hfz.get hL _
   have hzn := all_ne hp (show j < z.length by omega)
   refine cK (cG (T_block (C.D_start (m := 18) (dp 4 rfl (cQ (Ht rfl)) (dp 6 rfl (cQ (Ht rfl)) (dqq 32 0 33 1 rfl (op_idxB U_32 Z_31 (Ht rfl) (Ht rfl) rfl (by omega) (by rw [Nat.mul_one, Nat.zero_add])) ?_))))))
   refine dq 34 2 rfl (op_ldH A_31 Z_31 (Ht rfl) (j := 1) rfl) (dp 7 rfl (cQ (Ht rfl)) (dp 4 rfl (cQ (Ht rfl)) (dp 6 rfl (cQ (Ht rfl)) (dqq 37 5 38 6 rfl (op_idxB U_32 Z_31 (Ht rfl) (Ht rfl) rfl (by omega) (by rw [Nat.mul_one, Nat.zero_add])) ?_))))
   refine dq 39 7 rfl (op_ldH A_31 Z_31 (Ht rfl) (j := 1) rfl) (dp 7 rfl (cQ (Ht rfl)) (dqq 40 8 41 9 rfl (op_idxO U_31 Z_98 (Ht rfl) (Ht rfl) rfl (i := 2) rfl (by rw [List.length_map, hrl]; exact hjn) rfl) ?_))
   refine dq 42 10 rfl (op_ldO A_98 Z_98 (Ht rfl) (i := 2) rfl rfl (dU (mixG_get hjn))) (dp 1 rfl (op_fldB fa_34_0 (Ht rfl) rfl) (dq 44 12 rfl (op_ldB A_31 Z_31 (Ht rfl) (i := 0) rfl rfl) (dp 7 rfl (cQ (Ht rfl)) (dqq 45 13 46 14 rfl (dX U_31 Z_98 (Ht rfl) (Ht rfl) rfl (dU (dK (d := Qi.zero) (by omega)))) (dq 47 15 rfl (dZ A_98 Z_98 (Ht rfl)) (dqq 43 11 48 16 rfl (cX K_99 (c_rMul (x := gm (mulM (plM 1 1 s z.length) (invX (plM 1 (-1) s z.length) z.length) z.length z.length z.length) i j) (y := gv z j) (L := (8 * (L + 4 + xgr (grow (L + 4) z.length) z.length) + 17)) (M := L) (by omega)) ⟨(Ht rfl), (Ht rfl), trivial⟩) ?_))))))
   refine C.D_done mixed rfl (by kernel_rfl) (aJ (aJ (aJ (aJ (aJ (aJ (aJ (aJ (aJ (aJ (aJ (aJ (aJ (aJ (aJ (aJ (aJ (aJ (aV (ro rfl (op_idxO U_31 Z_98 (Ht rfl) (Ht rfl) rfl (i := 2) rfl (by rw [List.length_map, hrl]; exact hjn) rfl) ?_))))))))))))))))))))
   refine R_stO Z_98 (Ht rfl) (Ht rfl) (El.ag rfl) (i := 2) rfl rfl (by rw [List.length_map, hrl]; exact hjn) rfl ?_
   refine R_nil (T_blk (cU (rm rfl (ro rfl (dJ (Ht rfl) (cZ 1) (by show _ < 9223372036854775808; first | omega | (simp only [lim]; omega))) (ra rfl (R_nil (T_keep [0, 1, 2] rfl (by decide) (T_again (j + 1) hjn (by omega) (aQ rfl (aQ rfl (aQ rfl (aQ rfl aX)))) (aK (box_of rfl) (aK (fun _ _ _ h => h) (aK (rowO_of (by rw [set_mapF]; exact congrArg _ (mixG_set (f := (fun j => gm (mulM (plM 1 1 s z.length) (invX (plM 1 (-1) s z.length) z.length) z.length z.length z.length) i j * gv z j))))) aU)))))))))))
  ·have hjn : j = z.length := by simp only [decide_eq_false_iff_not] at hd; omega
   rw [hjn, mixG_fin]
   refine T_exit rfl (T_blk (T_unfocus 1 2 rfl rfl (by decide) (by simp only [FRow, List.length_map, mixG_len]; omega) ?_))
   refine cU (rm rfl (ro rfl (dJ (Ht rfl) (cZ 1) (by show _ < 9223372036854775808; first | omega | (simp only [lim]; omega))) (ra rfl (R_nil (T_keep [0, 1] rfl (by decide) (T_again (i + 1) hin (by omega) (aQ rfl (aQ rfl (aQ rfl aX))) (aK (box_of rfl) (aK (matO_of (by rw [set_FRow]; exact congrArg _ (mixG_set (f := (fun i => tab z.length fun j => gm (mulM (plM 1 1 s z.length) (invX (plM 1 (-1) s z.length) z.length) z.length z.length z.length) i j * gv z j))))) aU))))))))
 ·have hin : i = z.length := by simp only [decide_eq_false_iff_not] at hc; omega
  rw [hin, mixG_fin]
  refine T_exit rfl (T_freeze (i := 1) (tt := 4) rfl rfl (frz_matF (s := 5) (M := tab z.length (fun i => tab z.length fun j => gm (mulM (plM 1 1 s z.length) (invX (plM 1 (-1) s z.length) z.length) z.length z.length z.length) i j * gv z j)) (tab_len _ _).symm) (ts (rm rfl (ra rfl (ro rfl (bY (cZ 0)) (R_nil ?_))))))
  exact T_ret2 rfl (rv_tmp rfl) (rv_tmp rfl)
theorem c_rImp {z : List Qi} {s : List (List Qi)} {L : Nat} (hs : Shp s z.length z.length) (hf : FitM s L) (hfz : FitL z L) (hp : z.all posQ = true) (hL : 1 ≤ L) (hLb : L ≤ 1000) (h1 : 1 ≤ z.length) (h8 : z.length ≤ 8) (hg : 6 * grow (L + 4) z.length + 4 ≤ 17592186044415) (hx : xgr (grow (L + 4) z.length) (z.length + 1) ≤ 900000000000) : Fun Tryz.prog 18 [RNetT z s] (TupT [QM (impX z s), IntT .i64 (impE z s)]) := by
  by_cases ho : impE z s = 0
  · have h := c_rImpO hs hf hfz hp hL hLb h1 h8 hg hx ho
    rw [impX, okL, ho]; exact h
  · have h := c_rImpB hs hf hfz hp hL hLb h1 h8 hg hx ho
    rw [impX, okL, if_neg ho, show impE z s = 5 from ov_five ho]; exact h
set_option maxRecDepth 20000 in
theorem c_rAdmB {z : List Qi} {s : List (List Qi)} {L : Nat} (hs : Shp s z.length z.length) (hf : FitM s L) (hfz : FitL z L) (hp : z.all posQ = true) (hL : 1 ≤ L) (hLb : L ≤ 1000) (h1 : 1 ≤ z.length) (h8 : z.length ≤ 8) (hg : 6 * grow (L + 4) z.length + 4 ≤ 17592186044415) (hx : xgr (grow (L + 4) z.length) (z.length + 1) ≤ 900000000000) (ho : admE z s ≠ 0) : Fun Tryz.prog 20 [RNetT z s] (TupT [QM [], IntT .i64 5]) := by
 have hxn := Nat.le_trans (xgr_step (grow (L + 4) z.length) z.length) hx
 have hsl := hs.1
 refine Fun.intro Tryz.func20 rfl Tryz.ntmps20 rfl (fun cx => (ts (rn rfl (new_box (Ht rfl)) fun B1 => (ro rfl (bY cJ) (ro rfl (bY (cZ 0)) (R_nil (cG (C.D_start (m := 11) (dp 1 rfl (op_fldB fa_34_1 (Ht rfl) rfl) (dq 9 0 rfl (op_ldB A_32 Z_32 (Ht rfl) (i := 0) rfl rfl) (dq 10 1 rfl (cX K_98 (c_rPlus (x := 1) (y := (-1)) (M := s) (n := z.length) (L := L) hs hf hL (by omega) (by omega) (by decide) (by decide)) ⟨(cZ 1), cJ, (Ht rfl), trivial⟩) (dp 1 rfl (op_fldB fa_34_1 (Ht rfl) rfl) (dq 12 3 rfl (op_ldB A_32 Z_32 (Ht rfl) (i := 0) rfl rfl) ?_)))))))))))))
 refine dq 13 4 rfl (cX K_98 (c_rPlus (x := 1) (y := 1) (M := s) (n := z.length) (L := L) hs hf hL (by omega) (by omega) (by decide) (by decide)) ⟨(cZ 1), (cZ 1), (Ht rfl), trivial⟩) (dqq 11 2 14 5 rfl (cX Tryz.call97 (c_rOver (Y := (plM 1 (-1) s z.length)) (M := (plM 1 1 s z.length)) (n := z.length) (L := L + 4) (K := L + 4) (plM_shp _ _ _ _) (plM_shp _ _ _ _) (plM_fit hf hL fit_p1 fit_m1) (plM_fit hf hL fit_p1 fit_p1) (by omega) (by omega) (by omega) h1 h8 hg hxn) ⟨(Ht rfl), (Ht rfl), trivial⟩) (dq 15 6 rfl (cQ (Ht rfl)) (dq 8 7 rfl (dG (Ht rfl) rfl) ?_)))
 refine dq 8 7 rfl (dG (Ht rfl) rfl) (dq 16 8 rfl (bY (Ht rfl)) (C.D_done mixed rfl (by kernel_rfl) (aJ (aJ (aJ (aJ (aJ (aJ (aJ (aJ (aJ (aJ (aJ (aV (ra rfl (R_nil (cG (ts (rm rfl (ro rfl (op_not (Ht rfl)) (R_nil (T_condT (Ht rfl) (by have ho2 : ¬ ovE (plM 1 1 s z.length) z.length = 0 := ho; rw [decide_eq_false ho2]; rfl) ?_))))))))))))))))))))))
 refine ts (ro rfl (bY cJ) (ro rfl (bY (cZ 5)) (R_nil (T_ret2 rfl (rv_to (rv_tmp rfl) ?_) (rv_tmp rfl)))))
 exact nil_slT
set_option maxHeartbeats 2000000 in
set_option maxRecDepth 20000 in
theorem c_rAdmO {z : List Qi} {s : List (List Qi)} {L : Nat} (hs : Shp s z.length z.length) (hf : FitM s L) (hfz : FitL z L) (hp : z.all posQ = true) (hL : 1 ≤ L) (hLb : L ≤ 1000) (h1 : 1 ≤ z.length) (h8 : z.length ≤ 8) (hg : 6 * grow (L + 4) z.length + 4 ≤ 17592186044415) (hx : xgr (grow (L + 4) z.length) (z.length + 1) ≤ 900000000000) (ho : admE z s = 0) : Fun Tryz.prog 20 [RNetT z s] (TupT [QM (admM z s), IntT .i64 0]) := by
 have hxn := Nat.le_trans (xgr_step (grow (L + 4) z.length) z.length) hx
 have hsl := hs.1
 have hx1 : 1 ≤ xgr (grow (L + 4) z.length) z.length := Nat.le_trans (by omega) (Nat.le_trans (grow_le (L + 4) z.length) (xgr_ge _ _))
 have hif2 := invX_fit (plM_shp _ _ _ _) (plM_fit (n := z.length) hf hL fit_p1 fit_p1) (by omega) (ovE_zero ho)
 have hpf := mulM_fit (n := z.length) (k := z.length) (m := z.length) (plM_fit (n := z.length) hf hL fit_p1 fit_m1) hif2 (by omega) hx1 h8
 refine Fun.intro Tryz.func20 rfl Tryz.ntmps20 rfl (fun cx => (ts (rn rfl (new_box (Ht rfl)) fun B1 => (ro rfl (bY cJ) (ro rfl (bY (cZ 0)) (R_nil (cG (C.D_start (m := 11) (dp 1 rfl (op_fldB fa_34_1 (Ht rfl) rfl) (dq 9 0 rfl (op_ldB A_32 Z_32 (Ht rfl) (i := 0) rfl rfl) (dq 10 1 rfl (cX K_98 (c_rPlus (x := 1) (y := (-1)) (M := s) (n := z.length) (L := L) hs hf hL (by omega) (by omega) (by decide) (by decide)) ⟨(cZ 1), cJ, (Ht rfl), trivial⟩) (dp 1 rfl (op_fldB fa_34_1 (Ht rfl) rfl) (dq 12 3 rfl (op_ldB A_32 Z_32 (Ht rfl) (i := 0) rfl rfl) ?_)))))))))))))
 refine dq 13 4 rfl (cX K_98 (c_rPlus (x := 1) (y := 1) (M := s) (n := z.length) (L := L) hs hf hL (by omega) (by omega) (by decide) (by decide)) ⟨(cZ 1), (cZ 1), (Ht rfl), trivial⟩) (C.D_new (Ei := [(11, _), (14, _)]) rfl rfl rfl (bJ (bW 2 rfl rfl) (bJ (bW 5 rfl rfl) bV)) (new_call0 Tryz.call97 (c_rOverO (Y := (plM 1 (-1) s z.length)) (M := (plM 1 1 s z.length)) (n := z.length) (L := L + 4) (K := L + 4) (plM_shp _ _ _ _) (plM_shp _ _ _ _) (plM_fit hf hL fit_p1 fit_m1) (plM_fit hf hL fit_p1 fit_p1) (by omega) (by omega) (by omega) h1 h8 hg hxn ho) ⟨(Ht rfl), (Ht rfl), trivial⟩) ?_)
 refine C.D_cpy 6 rfl rfl rfl rfl rfl C.cpy_move (C.D_ext 7 rfl rfl rfl (fun T hT => by obtain ⟨x, rfl⟩ := hT; exact ⟨_, _, rfl, rfl⟩) (C.D_ext 7 rfl rfl rfl (fun T hT => by obtain ⟨x, rfl⟩ := hT; exact ⟨_, _, rfl, rfl⟩) (C.D_cpy 8 rfl rfl rfl rfl rfl C.cpy_assign (C.D_done mixed rfl (by kernel_rfl) (aJ (aJ (aJ (aJ (aJ (aJ (C.F_new (fun B15 => C.F_cpy rfl (C.F_dep rfl rfl (C.F_dep rfl rfl (C.F_cpy rfl (aV (ra rfl (R_nil (cG (cG (T_sub (E' := [(1, _), (2, _), (3, _), (4, _), (5, _)]) (aQ rfl (aQ rfl (aQ rfl (aZ rfl (ext_tup rfl) (aZ rfl (ext_tup rfl) aX))))) ?_)))))))))))))))))))))
 refine cU (rm rfl (ro rfl (op_not (Ht rfl)) (R_nil (T_condF (Ht rfl) (by rfl) ?_))))
 refine cK (cG (ts (ro rfl (bY (cZ 0)) (R_nil (T_block ?_)))))
 refine T_loop (fun (i : Nat) => i ≤ z.length) (fun (i : Nat) => z.length - i) (fun (i : Nat) => [(1, PtrB B1 0), (4, Is (.slice (some ⟨B15, 0, none⟩) z.length z.length)), (6, NT .i64 i)]) (fun (i : Nat) => [box B1 34 [QsT z, QM s], matP exactH B15 31 98 5 (FRow QT (mixG (fun i => tab z.length fun j => gm (mulM (plM 1 (-1) s z.length) (invX (plM 1 1 s z.length) z.length) z.length z.length z.length) i j / gv z i) (fun i => tab z.length fun j => gm (mulM (plM 1 (-1) s z.length) (invX (plM 1 1 s z.length) z.length) z.length z.length z.length) i j) z.length i))]) 0 (Nat.zero_le _)
  (aQ rfl (aQ rfl (aQ rfl aX))) (aK (box_of rfl) (aK (matO_of (congrArg (FRow QT) ((mat_tab mulM_shp).trans (mixG_zero _ _ _)))) aU)) (fun i hi => ?_)
 refine cG (ts (rm rfl (rm rfl (ro rfl (op_lenI U_32 (Ht rfl)) (ro rfl (op_lssN (Ht rfl) (Ht rfl)) (R_nil (cY (Ht rfl) (fun hc => ?_) (fun hc => ?_))))))))
 ·have hin : i < z.length := by simp only [decide_eq_true_eq] at hc; omega
  refine T_focusE 1 (i) rfl (frow_mixG hin) (fun v0 hv0 => (cK (cG (T_block (ts (ro rfl (bY (cZ 0)) (R_nil (T_block ?_))))))))
  refine T_loop (fun (j : Nat) => j ≤ z.length) (fun (j : Nat) => z.length - j) (fun (j : Nat) => [(1, PtrB B1 0), (4, Is (.slice (some ⟨B15, 0, none⟩) z.length z.length)), (6, NT .i64 i), (7, NT .i64 j)]) (fun (j : Nat) => [box B1 34 [QsT z, QM s], matQ exactH B15 31 98 5 (FRow QT (mixG (fun i => tab z.length fun j => gm (mulM (plM 1 (-1) s z.length) (invX (plM 1 1 s z.length) z.length) z.length z.length z.length) i j / gv z i) (fun i => tab z.length fun j => gm (mulM (plM 1 (-1) s z.length) (invX (plM 1 1 s z.length) z.length) z.length z.length z.length) i j) z.length i)) i v0, rowO 98 5 v0 ((mixG (fun j => gm (mulM (plM 1 (-1) s z.length) (invX (plM 1 1 s z.length) z.length) z.length z.length z.length) i j / gv z i) (fun j => gm (mulM (plM 1 (-1) s z.length) (invX (plM 1 1 s z.length) z.length) z.length z.length z.length) i j) z.length j).map QT)]) 0 (Nat.zero_le _)
   (aQ rfl (aQ rfl (aQ rfl (aQ rfl aX)))) (aK (box_of rfl) (aK (fun _ _ _ h => h) (aK (rowO_of (by rw [← mixG_zero])) aU))) (fun j hj => ?_)
  refine cG (ts (rm rfl (rm rfl (ro rfl (op_lenI U_32 (Ht rfl)) (ro rfl (op_lssN (Ht rfl) (Ht rfl)) (R_nil (cY (Ht rfl) (fun hd => ?_) (fun hd => ?_))))))))
  ·have hjn : j < z.length := by simp only [decide_eq_true_eq] at hd; omega
   have hrl := mixG_len (fun j => gm (mulM (plM 1 (-1) s z.length) (invX (plM 1 1 s z.length) z.length) z.length z.length z.length) i j / gv z i) (fun j => gm (mulM (plM 1 (-1) s z.length) (invX (plM 1 1 s z.length) z.length) z.length z.length z.length) i j) z.length j
   haveI g1 : FitC (gm (mulM (plM 1 (-1) s z.length) (invX (plM 1 1 s z.length) z.length) z.length z.length z.length) i j) (8 * (L + 4 + xgr (grow (L + 4) z.length) z.length) + 17) := hpf.get (by omega) i j
   haveI g2 : FitC (gv z i) L := hfz.get hL _
   have hzn := all_ne hp (show i < z.length by omega)
   refine cK (cG (T_block (W.D_start (m := 23) (fun b => cond b ([box B1 34 [QsT z, QM s], matQ exactH B15 31 98 5 (FRow QT (mixG (fun i => tab z.length fun j => gm (mulM (plM 1 (-1) s z.length) (invX (plM 1 1 s z.length) z.length) z.length z.length z.length) i j / gv z i) (fun i => tab z.length fun j => gm (mulM (plM 1 (-1) s z.length) (invX (plM 1 1 s z.length) z.length) z.length z.length z.length) i j) z.length i)) i v0, rowO 98 5 v0 (((mixG (fun j => gm (mulM (plM 1 (-1) s z.length) (invX (plM 1 1 s z.length) z.length) z.length z.length z.length) i j / gv z i) (fun j => gm (mulM (plM 1 (-1) s z.length) (invX (plM 1 1 s z.length) z.length) z.length z.length z.length) i j) z.length j).map QT).set j (QT (gm (mulM (plM 1 (-1) s z.length) (invX (plM 1 1 s z.length) z.length) z.length z.length z.length) i j / gv z i)))]) _) 22 ?_)))
   refine W.D_step (Ei := [(4, _)]) rfl rfl (W.Srcs.cons (W.Src.pre rfl rfl) W.Srcs.nil) rfl (by kernel_rfl) (dQ rfl (cQ (Ht rfl))) (W.D_step (Ei := [(6, _)]) rfl rfl (W.Srcs.cons (W.Src.pre rfl rfl) W.Srcs.nil) rfl (by kernel_rfl) (dQ rfl (cQ (Ht rfl))) (W.D_step (Ei := [(33, _), (34, _)]) rfl rfl (W.Srcs.cons (W.Src.op 0 rfl rfl) (W.Srcs.cons (W.Src.op 1 rfl rfl) W.Srcs.nil)) rfl (by kernel_rfl) (dQ rfl (op_idxB U_32 Z_31 (Ht rfl) (Ht rfl) rfl (by omega) (by rw [Nat.mul_one, Nat.zero_add]))) ?_))
   refine W.D_step (Ei := [(35, _)]) rfl rfl (W.Srcs.cons (W.Src.op 2 rfl rfl) W.Srcs.nil) rfl (by kernel_rfl) (dQ rfl (op_ldH A_31 Z_31 (Ht rfl) (j := 1) rfl)) (W.D_step (Ei := [(7, _)]) rfl rfl (W.Srcs.cons (W.Src.pre rfl rfl) W.Srcs.nil) rfl (by kernel_rfl) (dQ rfl (cQ (Ht rfl))) (W.D_step (Ei := [(4, _)]) rfl rfl (W.Srcs.cons (W.Src.pre rfl rfl) W.Srcs.nil) rfl (by kernel_rfl) (dQ rfl (cQ (Ht rfl))) (W.D_step (Ei := [(6, _)]) rfl rfl (W.Srcs.cons (W.Src.pre rfl rfl) W.Srcs.nil) rfl (by kernel_rfl) (dQ rfl (cQ (Ht rfl))) (W.D_step (Ei := [(38, _), (39, _)]) rfl rfl (W.Srcs.cons (W.Src.op 5 rfl rfl) (W.Srcs.cons (W.Src.op 6 rfl rfl) W.Srcs.nil)) rfl (by kernel_rfl) (dQ rfl (op_idxB U_32 Z_31 (Ht rfl) (Ht rfl) rfl (by omega) (by rw [Nat.mul_one, Nat.zero_add]))) ?_))))
   refine W.D_step (Ei := [(40, _)]) rfl rfl (W.Srcs.cons (W.Src.op 7 rfl rfl) W.Srcs.nil) rfl (by kernel_rfl) (dQ rfl (op_ldH A_31 Z_31 (Ht rfl) (j := 1) rfl)) (W.D_step (Ei := [(7, _)]) rfl rfl (W.Srcs.cons (W.Src.pre rfl rfl) W.Srcs.nil) rfl (by kernel_rfl) (dQ rfl (cQ (Ht rfl))) (W.D_step (Ei := [(41, _), (42, _)]) rfl rfl (W.Srcs.cons (W.Src.op 8 rfl rfl) (W.Srcs.cons (W.Src.op 9 rfl rfl) W.Srcs.nil)) rfl (by kernel_rfl) (dQ rfl (op_idxO U_31 Z_98 (Ht rfl) (Ht rfl) rfl (i := 2) rfl (by rw [List.length_map, hrl]; exact hjn) rfl)) ?_))
   refine W.D_step (Ei := [(43, _)]) rfl rfl (W.Srcs.cons (W.Src.op 10 rfl rfl) W.Srcs.nil) rfl (by kernel_rfl) (dQ rfl (op_ldO A_98 Z_98 (Ht rfl) (i := 2) rfl rfl (dU (mixG_get hjn)))) (W.D_step (Ei := [(1, _)]) rfl rfl (W.Srcs.cons (W.Src.pre rfl rfl) W.Srcs.nil) rfl (by kernel_rfl) (dQ rfl (op_fldB fa_34_0 (Ht rfl) rfl)) (W.D_step (Ei := [(45, _)]) rfl rfl (W.Srcs.cons (W.Src.op 12 rfl rfl) W.Srcs.nil) rfl (by kernel_rfl) (dQ rfl (op_ldB A_31 Z_31 (Ht rfl) (i := 0) rfl rfl)) (W.D_step (Ei := [(6, _)]) rfl rfl (W.Srcs.cons (W.Src.pre rfl rfl) W.Srcs.nil) rfl (by kernel_rfl) (dQ rfl (cQ (Ht rfl))) ?_)))
   refine W.D_step (Ei := [(46, _), (47, _)]) rfl rfl (W.Srcs.cons (W.Src.op 13 rfl rfl) (W.Srcs.cons (W.Src.op 14 rfl rfl) W.Srcs.nil)) rfl (by kernel_rfl) (dQ rfl (dX U_31 Z_98 (Ht rfl) (Ht rfl) rfl (dU (dK (d := Qi.zero) (by omega))))) (W.D_step (Ei := [(48, _)]) rfl rfl (W.Srcs.cons (W.Src.op 15 rfl rfl) W.Srcs.nil) rfl (by kernel_rfl) (dQ rfl (dZ A_98 Z_98 (Ht rfl))) (W.D_step (Ei := [(44, _), (49, _)]) rfl rfl (W.Srcs.cons (W.Src.op 11 rfl rfl) (W.Srcs.cons (W.Src.op 16 rfl rfl) W.Srcs.nil)) rfl (by kernel_rfl) (dQ rfl (cX Tryz.call102 (c_rQDiv (x := gm (mulM (plM 1 (-1) s z.length) (invX (plM 1 1 s z.length) z.length) z.length z.length z.length) i j) (y := gv z i) (L := (8 * (L + 4 + xgr (grow (L + 4) z.length) z.length) + 17)) (M := L) (by omega)) ⟨(Ht rfl), (Ht rfl), trivial⟩)) ?_))
   refine W.D_step (Ei := [(50, _)]) rfl rfl (W.Srcs.cons (W.Src.op 17 rfl rfl) W.Srcs.nil) rfl (by kernel_rfl) (dQ rfl (cQ (Ht rfl))) (W.D_step (Ei := [(32, _)]) rfl rfl (W.Srcs.cons (W.Src.op 18 rfl rfl) W.Srcs.nil) rfl (by kernel_rfl) (dQ rfl (dG (Ht rfl) rfl)) (W.D_pure (Ei := [(32, _)]) rfl rfl (W.Srcs.cons (W.Src.op 18 rfl rfl) W.Srcs.nil) rfl (fun _ => dQ rfl (dG (Ht rfl) rfl)) (W.D_step (Ei := [(36, _), (37, _)]) rfl rfl (W.Srcs.cons (W.Src.op 3 rfl rfl) (W.Srcs.cons (W.Src.op 4 rfl rfl) W.Srcs.nil)) rfl (by kernel_rfl) (dQ rfl (op_idxO U_31 Z_98 (Ht rfl) (Ht rfl) rfl (i := 2) rfl (by rw [List.length_map, hrl]; exact hjn) rfl)) ?_)))
   refine W.D_put (Ei := [(53, _), (51, _)]) rfl rfl (W.Srcs.cons (W.Src.op 21 rfl rfl) (W.Srcs.cons (W.Src.op 19 rfl rfl) W.Srcs.nil)) rfl (P_stO Z_98 (Ht rfl) (Ht rfl) (El.ag rfl) (i := 2) rfl rfl (by rw [List.length_map, hrl]; exact hjn)) ?_
   refine W.D_done mixed rfl (by kernel_rfl) rfl (W.F_val (W.F_val (W.F_val (W.F_val (W.F_val (W.F_val (W.F_val (W.F_val (W.F_val (W.F_val (W.F_val (W.F_val (W.F_val (W.F_val (W.F_val (W.F_val (W.F_val (W.F_val (W.F_val (W.F_val (W.F_val (W.F_val (W.F_put (W.F_nil (R_nil (T_blk (cU (rm rfl (ro rfl (dJ (Ht rfl) (cZ 1) (by show _ < 9223372036854775808; first | omega | (simp only [lim]; omega))) (ra rfl (R_nil (T_keep [0, 1, 2] rfl (by decide) (T_again (j + 1) hjn (by omega) (aQ rfl (aQ rfl (aQ rfl (aQ rfl aX)))) (aK (box_of rfl) (aK (fun _ _ _ h => h) (aK (rowO_of (by rw [set_mapF]; exact congrArg _ (mixG_set (f := (fun j => gm (mulM (plM 1 (-1) s z.length) (invX (plM 1 1 s z.length) z.length) z.length z.length z.length) i j / gv z i))))) aU))))))))))))))))))))))))))))))))))))
  ·have hjn : j = z.length := by simp only [decide_eq_false_iff_not] at hd; omega
   rw [hjn, mixG_fin]
   refine T_exit rfl (T_blk (T_unfocus 1 2 rfl rfl (by decide) (by simp only [FRow, List.length_map, mixG_len]; omega) ?_))
   refine cU (rm rfl (ro rfl (dJ (Ht rfl) (cZ 1) (by show _ < 9223372036854775808; first | omega | (simp only [lim]; omega))) (ra rfl (R_nil (T_keep [0, 1] rfl (by decide) (T_again (i + 1) hin (by omega) (aQ rfl (aQ rfl (aQ rfl aX))) (aK (box_of rfl) (aK (matO_of (by rw [set_FRow]; exact congrArg _ (mixG_set (f := (fun i => tab z.length fun j => gm (mulM (plM 1 (-1) s z.length) (invX (plM 1 1 s z.length) z.length) z.length z.length z.length) i j / gv z i))))) aU))))))))
 ·have hin : i = z.length := by simp only [decide_eq_false_iff_not] at hc; omega
  rw [hin, mixG_fin]
  refine T_exit rfl (T_freeze (i := 1) (tt := 4) rfl rfl (frz_matF (s := 5) (M := tab z.length (fun i => tab z.length fun j => gm (mulM (plM 1 (-1) s z.length) (invX (plM 1 1 s z.length) z.length) z.length z.length z.length) i j / gv z i)) (tab_len _ _).symm) (ts (rm rfl (ra rfl (ro rfl (bY (cZ 0)) (R_nil ?_))))))
  exact T_ret2 rfl (rv_tmp rfl) (rv_tmp rfl)
theorem c_rAdm {z : List Qi} {s : List (List Qi)} {L : Nat} (hs : Shp s z.length z.length) (hf : FitM s L) (hfz : FitL z L) (hp : z.all posQ = true) (hL : 1 ≤ L) (hLb : L ≤ 1000) (h1 : 1 ≤ z.length) (h8 : z.length ≤ 8) (hg : 6 * grow (L + 4) z.length + 4 ≤ 17592186044415) (hx : xgr (grow (L + 4) z.length) (z.length + 1) ≤ 900000000000) : Fun Tryz.prog 20 [RNetT z s] (TupT [QM (admX z s), IntT .i64 (admE z s)]) := by
  by_cases ho : admE z s = 0
  · have h := c_rAdmO hs hf hfz hp hL hLb h1 h8 hg hx ho
    rw [admX, okL, ho]; exact h
  · have h := c_rAdmB hs hf hfz hp hL hLb h1 h8 hg hx ho
    rw [admX, okL, if_neg ho, show admE z s = 5 from ov_five ho]; exact h
end
section
open Go Go.RowKit
set_option maxHeartbeats 2000000 in
set_option maxRecDepth 20000 in
theorem c_rFromImp {z : List Qi} {m : List (List Qi)} {L : Nat} (hf : FitM m L) (hfz : FitL z L) (hL : 1 ≤ L) (hLb : L ≤ 1000) (hzl : z.length ≤ 1000) (hml : m.length ≤ 1000) (hg : 6 * grow (4 * L + 6) z.length + 4 ≤ 17592186044415) (hx : xgr (grow (4 * L + 6) z.length) (z.length + 1) ≤ 900000000000) : Fun Tryz.prog 25 [QsT z, QM m] (TupT [RNetT (frZ z m (fiQ z m)) (frS z m (fiQ z m) (plM (-1) 1 (fiQ z m) z.length)), IntT .i64 (frE z m (fiQ z m))]) := by
 refine Fun.intro Tryz.func25 rfl Tryz.ntmps25 rfl (fun cx => (ts (rn rfl (new_alloc (Ts := [Is (.slice none 0 0), Is (.slice none 0 0)]) O_34 rfl (fun V => aW ⟨rfl, trivial⟩ (aW ⟨rfl, trivial⟩ (aG)))) fun B4 => (ro rfl (bY (cZ 0)) (R_nil (cG (ts (rm rfl (rm rfl (ro rfl (cX Tryz.call89 (c_rnetNew (z := z) (s := m) (L := L) hfz (by omega) hzl hml) ⟨(Ht rfl), (Ht rfl), trivial⟩) (rm rfl (ro rfl (dG (Ht rfl) rfl) (ro rfl (dG (Ht rfl) rfl) (rn rfl (new_alloc (Ts := [Is (.slice none 0 0), Is (.slice none 0 0)]) O_34 rfl (fun V => aW ⟨rfl, trivial⟩ (aW ⟨rfl, trivial⟩ (aG)))) fun B6 => ?_))))))))))))))
 refine R_stA Z_34 (Ht rfl) (Ht rfl) rfl (i := 1) rfl (Nat.le_of_ble_eq_true rfl) rfl rfl (ra rfl (R_nil (ts (rm rfl (ro rfl (op_neq (Ht rfl) cJ) (R_nil (cY (Ht rfl) (fun he => ?_) (fun he => ?_))))))))
 ·have hn : netErr z m ≠ 0 := by simpa using he
  have hfr := fr_bad (q := fiQ z m) hn
  refine ts (ro rfl (OpTy.imp (bld_34_ ) rnet_nil) (rm rfl (R_stA Z_34 (Ht rfl) (Ht rfl) rfl (i := 0) rfl (Nat.le_of_ble_eq_true rfl) rfl rfl (ra rfl (R_nil (T_ret2 rfl (rv_to (rv_cell A_34 Z_34 rfl (i := 0) rfl rfl) ?_) (rv_to (rv_tmp rfl) ?_)))))))
  ·exact (fun v V h => by rw [frZ, frS, okL, okL, hfr, if_neg hn, if_neg hn]; exact h)
  ·exact (int_of hfr.symm)
 ·have hn : netErr z m = 0 := by simpa using he
  have hfr := fr_ok (q := fiQ z m) hn
  obtain ⟨h1, h8, hs, hp2⟩ := netErr_ok hn
  have hqs : Shp (fiQ z m) z.length z.length := Shp.tab
  have hqf : FitM (fiQ z m) (4 * L + 2) := ((fiQ_fit hfz hf hL hL hp2)).le (by omega)
  have hxn := Nat.le_trans (xgr_step (grow (4 * L + 6) z.length) z.length) hx
  have hmsl := hs.1
  refine cK (ts (rm rfl (R_call0 Tryz.call105 (c_rCopyO hs (by omega) h1 (by omega)) ⟨(Ht rfl), trivial⟩ rfl (fun B26 _ => (ra rfl (R_nil (cG (ts (ro rfl (bY (cZ 0)) (R_nil (T_block (T_keep [0, 2] rfl (by decide) ?_))))))))))))
  refine T_loop (fun (i : Nat) => i ≤ z.length) (fun (i : Nat) => z.length - i) (fun (i : Nat) => [(0, QsT z), (1, QM m), (4, PtrB B4 0), (8, Is (.slice (some ⟨B26, 0, none⟩) z.length z.length)), (9, NT .i64 i)]) (fun (i : Nat) => [box B4 34 [Is (.slice none 0 0), Is (.slice none 0 0)], matO B26 31 98 5 (FRow QT (mixG (fun i => tab z.length fun j => gm m i j / gv z j) (fun i => tab z.length fun j => gm m i j) z.length i))]) 0 (Nat.zero_le _)
   (aQ rfl (aQ rfl (aQ rfl (aQ rfl (aQ rfl aX))))) (aK (box_of rfl) (aK (matO_of (congrArg (FRow QT) ((mat_tab hs).trans (mixG_zero _ _ _)))) aU)) (fun i hi => ?_)
  refine cG (ts (rm rfl (rm rfl (ro rfl (op_lenI U_32 (Ht rfl)) (ro rfl (op_lssN (Ht rfl) (Ht rfl)) (R_nil (cY (Ht rfl) (fun hc => ?_) (fun hc => ?_))))))))
  ·have hin : i < z.length := by simp only [decide_eq_true_eq] at hc; omega
   have hmr := hs.row hin
   refine T_focus 1 (i) rfl (frow_mixG hin) (fun v0 => (cK (cG (T_block (ts (ro rfl (bY (cZ 0)) (R_nil (T_block ?_))))))))
   refine T_loop (fun (j : Nat) => j ≤ z.length) (fun (j : Nat) => z.length - j) (fun (j : Nat) => [(0, QsT z), (1, QM m), (4, PtrB B4 0), (8, Is (.slice (some ⟨B26, 0, none⟩) z.length z.length)), (9, NT .i64 i), (10, NT .i64 j)]) (fun (j : Nat) => [box B4 34 [Is (.slice none 0 0), Is (.slice none 0 0)], matH B26 31 98 5 (FRow QT (mixG (fun i => tab z.length fun j => gm m i j / gv z j) (fun i => tab z.length fun j => gm m i j) z.length i)) i v0, rowO 98 5 v0 ((mixG (fun j => gm m i j / gv z j) (fun j => gm m i j) z.length j).map QT)]) 0 (Nat.zero_le _)
    (aQ rfl (aQ rfl (aQ rfl (aQ rfl (aQ rfl (aQ rfl aX)))))) (aK (box_of rfl) (aK (fun _ _ _ h => h) (aK (rowO_of (by rw [← mixG_zero])) aU))) (fun j hj => ?_)
   refine cG (ts (rm rfl (rm rfl (ro rfl (op_lenI U_32 (Ht rfl)) (ro rfl (op_lssN (Ht rfl) (Ht rfl)) (R_nil (cY (Ht rfl) (fun hd => ?_) (fun hd => ?_))))))))
   ·have hjn : j < z.length := by simp only [decide_eq_true_eq] at hd; omega
    have hrl := mixG_len (fun j => gm m i j / gv z j) (fun j => gm m i j) z.length j
    haveI g1 : FitC (gm m i j) L := hf.get hL i j
    haveI g2 : FitC (gv z j) L := hfz.get hL _
    have hzn := all_ne hp2 (show j < z.length by omega)
    refine cK (cG (T_block (cG (Y.D_start (m := 17) [] (bU (Ei := [(1, _)]) rfl rfl (aY (bZ rfl rfl) bQ) rfl rfl (dQ rfl (cQ (Ht rfl))) (bU (Ei := [(9, _)]) rfl rfl (aY (bZ rfl rfl) bQ) rfl rfl (dQ rfl (cQ (Ht rfl))) (bU (Ei := [(40, _), (41, _)]) rfl rfl (aY (bX 0 rfl rfl) (aY (bX 1 rfl rfl) bQ)) rfl rfl (dQ rfl (dX U_32 Z_31 (Ht rfl) (Ht rfl) rfl (dU (dK (d := []) (by omega))))) (bU (Ei := [(42, _)]) rfl rfl (aY (bX 2 rfl rfl) bQ) rfl rfl (dQ rfl (dZ A_31 Z_31 (Ht rfl))) ?_))))))))
    refine bU (Ei := [(10, _)]) rfl rfl (aY (bZ rfl rfl) bQ) rfl rfl (dQ rfl (cQ (Ht rfl))) (bU (Ei := [(43, _), (44, _)]) rfl rfl (aY (bX 3 rfl rfl) (aY (bX 4 rfl rfl) bQ)) rfl rfl (dQ rfl (dX U_31 Z_98 (Ht rfl) (Ht rfl) rfl (dU (dK (d := Qi.zero) (by omega))))) (bU (Ei := [(45, _)]) rfl rfl (aY (bX 5 rfl rfl) bQ) rfl rfl (dQ rfl (dZ A_98 Z_98 (Ht rfl))) (bU (Ei := [(0, _)]) rfl rfl (aY (bZ rfl rfl) bQ) rfl rfl (dQ rfl (cQ (Ht rfl))) ?_)))
    refine bU (Ei := [(10, _)]) rfl rfl (aY (bZ rfl rfl) bQ) rfl rfl (dQ rfl (cQ (Ht rfl))) (bU (Ei := [(47, _), (48, _)]) rfl rfl (aY (bX 7 rfl rfl) (aY (bX 8 rfl rfl) bQ)) rfl rfl (dQ rfl (dX U_31 Z_98 (Ht rfl) (Ht rfl) rfl (dU (dK (d := Qi.zero) (by omega))))) (bU (Ei := [(49, _)]) rfl rfl (aY (bX 9 rfl rfl) bQ) rfl rfl (dQ rfl (dZ A_98 Z_98 (Ht rfl))) (bU (Ei := [(46, _), (50, _)]) rfl rfl (aY (bX 6 rfl rfl) (aY (bX 10 rfl rfl) bQ)) rfl rfl (dQ rfl (cX Tryz.call102 (c_rQDiv (x := gm m i j) (y := gv z j) (L := L) (M := L) (by omega)) ⟨(Ht rfl), (Ht rfl), trivial⟩)) ?_)))
    refine bU (Ei := [(51, _)]) rfl rfl (aY (bX 11 rfl rfl) bQ) rfl rfl (dQ rfl (cQ (Ht rfl))) (bU (Ei := [(39, _)]) rfl rfl (aY (bX 12 rfl rfl) bQ) rfl rfl (dQ rfl (dG (Ht rfl) rfl)) (bU (Ei := [(39, _)]) rfl rfl (aY (bX 12 rfl rfl) bQ) rfl rfl (dQ rfl (dG (Ht rfl) rfl)) (Y.D_newp (Ei := []) (fun bb => box bb 98 [BoolT (decide ((gm m i j / gv z j).a < 0)), NatT (gm m i j / gv z j).a.natAbs, BoolT (decide ((gm m i j / gv z j).b < 0)), NatT (gm m i j / gv z j).b.natAbs, NatT (gm m i j / gv z j).den]) 16 rfl rfl rfl bQ rfl rfl (by kernel_rfl) (new_alloc (Ts := [Is (.bool false), Is (.slice none 0 0), Is (.bool false), Is (.slice none 0 0), Is (.slice none 0 0)]) O_98 rfl (fun V => aW ⟨rfl, trivial⟩ (aW ⟨rfl, trivial⟩ (aW ⟨rfl, trivial⟩ (aW ⟨rfl, trivial⟩ (aW ⟨rfl, trivial⟩ (aG))))))) ?_)))
    refine Y.D_putN (Ei := [(52, _)]) 15 rfl rfl rfl rfl rfl rfl (aY (bX 13 rfl rfl) bQ) (fun bb => P_stA Z_98 (Ht rfl) (Ht rfl) rfl (i := 0) rfl (Nat.le_of_ble_eq_true rfl) rfl rfl) (Y.D_done mixed rfl (by kernel_rfl) rfl (by simp [Y.okP]) rfl rfl (bK (bK (bK (bK (bK (bK (bK (bK (bK (bK (bK (bK (bK (bK (bK (Y.F_newp (fun B11 => Y.F_putN (Y.F_nil ?_)))))))))))))))))))
    refine ra rfl (R_nil (C.D_start (m := 6) (dp 8 rfl (cQ (Ht rfl)) (dp 9 rfl (cQ (Ht rfl)) (dqq 54 0 55 1 rfl (op_idxB U_32 Z_31 (Ht rfl) (Ht rfl) rfl (by omega) (by rw [Nat.mul_one, Nat.zero_add])) ?_)))))
    refine dq 56 2 rfl (op_ldH A_31 Z_31 (Ht rfl) (j := 1) rfl) (dp 10 rfl (cQ (Ht rfl)) (dp 11 rfl (op_ldBA A_98 Z_98 (Ht rfl) (i := 3) rfl rfl rfl) (C.D_done mixed rfl (by kernel_rfl) (aJ (aJ (aJ (aJ (aJ (aJ (aV (ro rfl (op_idxO U_31 Z_98 (Ht rfl) (Ht rfl) rfl (i := 2) rfl (by rw [List.length_map, hrl]; exact hjn) rfl) ?_)))))))))))
    refine R_stO Z_98 (Ht rfl) (Ht rfl) (El.ag rfl) (i := 2) rfl rfl (by rw [List.length_map, hrl]; exact hjn) rfl ?_
    refine R_nil (T_blk (cU (rm rfl (ro rfl (dJ (Ht rfl) (cZ 1) (by show _ < 9223372036854775808; first | omega | (simp only [lim]; omega))) (ra rfl (R_nil (T_keep [0, 1, 2] rfl (by decide) (T_again (j + 1) hjn (by omega) (aQ rfl (aQ rfl (aQ rfl (aQ rfl (aQ rfl (aQ rfl aX)))))) (aK (box_of rfl) (aK (fun _ _ _ h => h) (aK (rowO_of (show (List.map QT (mixG (fun j => gm m i j / gv z j) (fun j => gm m i j) z.length j)).set j (QT (gm m i j / gv z j)) = List.map QT (mixG (fun j => gm m i j / gv z j) (fun j => gm m i j) z.length (j + 1)) from by rw [set_mapF]; exact congrArg _ (mixG_set (f := (fun j => gm m i j / gv z j))))) aU)))))))))))
   ·have hjn : j = z.length := by simp only [decide_eq_false_iff_not] at hd; omega
    rw [hjn, mixG_fin]
    refine T_exit rfl (T_blk (T_unfocus 1 2 rfl rfl (by decide) (by simp only [FRow, List.length_map, mixG_len]; omega) ?_))
    refine cU (rm rfl (ro rfl (dJ (Ht rfl) (cZ 1) (by show _ < 9223372036854775808; first | omega | (simp only [lim]; omega))) (ra rfl (R_nil (T_keep [0, 1] rfl (by decide) (T_again (i + 1) hin (by omega) (aQ rfl (aQ rfl (aQ rfl (aQ rfl (aQ rfl aX))))) (aK (box_of rfl) (aK (matO_of (by rw [set_FRow]; exact congrArg _ (mixG_set (f := (fun i => tab z.length fun j => gm m i j / gv z j))))) aU))))))))
  ·have hin : i = z.length := by simp only [decide_eq_false_iff_not] at hc; omega
   rw [hin, mixG_fin, show (tab z.length (fun i => tab z.length fun j => gm m i j / gv z j)) = fiQ z m from rfl]
   refine T_exit rfl (T_freeze (i := 1) (tt := 8) rfl rfl (frz_matF (s := 5) (M := fiQ z m) (tab_len _ _).symm) (ts (rm rfl (ro rfl (cX K_98 (c_rPlus (x := 1) (y := 1) (M := fiQ z m) (n := z.length) (L := 4 * L + 2) hqs hqf (by omega) (by omega) (by omega) (by decide) (by decide)) ⟨(cZ 1), (cZ 1), (Ht rfl), trivial⟩) (rm rfl (ro rfl (cX K_98 (c_rPlus (x := (-1)) (y := 1) (M := fiQ z m) (n := z.length) (L := 4 * L + 2) hqs hqf (by omega) (by omega) (by omega) (by decide) (by decide)) ⟨cJ, (cZ 1), (Ht rfl), trivial⟩) (ro rfl (cX Tryz.call106 (c_rUnder (M := (plM 1 1 (fiQ z m) z.length)) (Y := (plM (-1) 1 (fiQ z m) z.length)) (n := z.length) (L := 4 * L + 6) (K := 4 * L + 6) (plM_shp _ _ _ _) (plM_shp _ _ _ _) (plM_fit hqf (by omega) fit_m1 fit_p1) (plM_fit hqf (by omega) fit_p1 fit_p1) (by omega) (by omega) (by omega) h1 h8 hg hxn) ⟨(Ht rfl), (Ht rfl), trivial⟩) ?_)))))))
   refine rm rfl (ro rfl (dG (Ht rfl) rfl) (ro rfl (dG (Ht rfl) rfl) (ra rfl (ra rfl (R_nil (cG (ts (rm rfl (ro rfl (op_not (Ht rfl)) (R_nil (cY (Ht rfl) (fun hf2 => ?_) (fun hf2 => ?_))))))))))))
   ·have ho : ovE (plM 1 1 (fiQ z m) z.length) z.length ≠ 0 := by simpa using hf2
    have h5 := ov_five ho
    refine ts (ro rfl (OpTy.imp (bld_34_ ) rnet_nil) (R_stA Z_34 (Ht rfl) (Ht rfl) rfl (i := 0) rfl (Nat.le_of_ble_eq_true rfl) rfl rfl (ro rfl (bY (cZ 5)) (R_nil (T_ret2 rfl (rv_to (rv_cell A_34 Z_34 rfl (i := 0) rfl rfl) ?_) (rv_to (rv_tmp rfl) ?_))))))
    ·exact (fun v V h => by rw [frZ, frS, okL, okL, hfr, if_neg ho, if_neg ho]; exact h)
    ·exact (int_of (hfr.trans h5).symm)
   ·have ho : ovE (plM 1 1 (fiQ z m) z.length) z.length = 0 := by simpa using hf2
    refine cK (ts (rm rfl (rm rfl (ro rfl (bld_34_0_1 (Ht rfl) (Ht rfl)) (R_stA Z_34 (Ht rfl) (Ht rfl) rfl (i := 0) rfl (Nat.le_of_ble_eq_true rfl) rfl rfl (ro rfl (bY (cZ 0)) (R_nil (T_ret2 rfl (rv_to (rv_cell A_34 Z_34 rfl (i := 0) rfl rfl) ?_) (rv_to (rv_tmp rfl) ?_)))))))))
    ·exact (fun v V h => by rw [frZ, frS, okL, okL, hfr, if_pos ho, if_pos ho]; rw [unX, okL, if_pos ho] at h; exact h)
    ·exact (int_of (hfr.trans ho).symm)
set_option maxHeartbeats 2000000 in
set_option maxRecDepth 20000 in
theorem c_rFromAdm {z : List Qi} {m : List (List Qi)} {L : Nat} (hf : FitM m L) (hfz : FitL z L) (hL : 1 ≤ L) (hLb : L ≤ 1000) (hzl : z.length ≤ 1000) (hml : m.length ≤ 1000) (hg : 6 * grow (4 * L + 6) z.length + 4 ≤ 17592186044415) (hx : xgr (grow (4 * L + 6) z.length) (z.length + 1) ≤ 900000000000) : Fun Tryz.prog 29 [QsT z, QM m] (TupT [RNetT (frZ z m (faQ z m)) (frS z m (faQ z m) (plM 1 (-1) (faQ z m) z.length)), IntT .i64 (frE z m (faQ z m))]) := by
 refine Fun.intro Tryz.func29 rfl Tryz.ntmps29 rfl (fun cx => (ts (rn rfl (new_alloc (Ts := [Is (.slice none 0 0), Is (.slice none 0 0)]) O_34 rfl (fun V => aW ⟨rfl, trivial⟩ (aW ⟨rfl, trivial⟩ (aG)))) fun B4 => (ro rfl (bY (cZ 0)) (R_nil (cG (ts (rm rfl (rm rfl (ro rfl (cX Tryz.call89 (c_rnetNew (z := z) (s := m) (L := L) hfz (by omega) hzl hml) ⟨(Ht rfl), (Ht rfl), trivial⟩) (rm rfl (ro rfl (dG (Ht rfl) rfl) (ro rfl (dG (Ht rfl) rfl) (rn rfl (new_alloc (Ts := [Is (.slice none 0 0), Is (.slice none 0 0)]) O_34 rfl (fun V => aW ⟨rfl, trivial⟩ (aW ⟨rfl, trivial⟩ (aG)))) fun B6 => ?_))))))))))))))
 refine R_stA Z_34 (Ht rfl) (Ht rfl) rfl (i := 1) rfl (Nat.le_of_ble_eq_true rfl) rfl rfl (ra rfl (R_nil (ts (rm rfl (ro rfl (op_neq (Ht rfl) cJ) (R_nil (cY (Ht rfl) (fun he => ?_) (fun he => ?_))))))))
 ·have hn : netErr z m ≠ 0 := by simpa using he
  have hfr := fr_bad (q := faQ z m) hn
  refine ts (ro rfl (OpTy.imp (bld_34_ ) rnet_nil) (rm rfl (R_stA Z_34 (Ht rfl) (Ht rfl) rfl (i := 0) rfl (Nat.le_of_ble_eq_true rfl) rfl rfl (ra rfl (R_nil (T_ret2 rfl (rv_to (rv_cell A_34 Z_34 rfl (i := 0) rfl rfl) ?_) (rv_to (rv_tmp rfl) ?_)))))))
  ·exact (fun v V h => by rw [frZ, frS, okL, okL, hfr, if_neg hn, if_neg hn]; exact h)
  ·exact (int_of hfr.symm)
 ·have hn : netErr z m = 0 := by simpa using he
  have hfr := fr_ok (q := faQ z m) hn
  obtain ⟨h1, h8, hs, hp2⟩ := netErr_ok hn
  have hqs : Shp (faQ z m) z.length z.length := Shp.tab
  have hqf : FitM (faQ z m) (4 * L + 2) := ((faQ_fit hfz hf hL hL)).le (by omega)
  have hxn := Nat.le_trans (xgr_step (grow (4 * L + 6) z.length) z.length) hx
  have hmsl := hs.1
  refine cK (ts (rm rfl (R_call0 Tryz.call105 (c_rCopyO hs (by omega) h1 (by omega)) ⟨(Ht rfl), trivial⟩ rfl (fun B24 _ => (ra rfl (R_nil (cG (ts (ro rfl (bY (cZ 0)) (R_nil (T_block (T_keep [0, 2] rfl (by decide) ?_))))))))))))
  refine T_loop (fun (i : Nat) => i ≤ z.length) (fun (i : Nat) => z.length - i) (fun (i : Nat) => [(0, QsT z), (1, QM m), (4, PtrB B4 0), (8, Is (.slice (some ⟨B24, 0, none⟩) z.length z.length)), (9, NT .i64 i)]) (fun (i : Nat) => [box B4 34 [Is (.slice none 0 0), Is (.slice none 0 0)], matO B24 31 98 5 (FRow QT (mixG (fun i => tab z.length fun j => gm m i j * gv z i) (fun i => tab z.length fun j => gm m i j) z.length i))]) 0 (Nat.zero_le _)
   (aQ rfl (aQ rfl (aQ rfl (aQ rfl (aQ rfl aX))))) (aK (box_of rfl) (aK (matO_of (congrArg (FRow QT) ((mat_tab hs).trans (mixG_zero _ _ _)))) aU)) (fun i hi => ?_)
  refine cG (ts (rm rfl (rm rfl (ro rfl (op_lenI U_32 (Ht rfl)) (ro rfl (op_lssN (Ht rfl) (Ht rfl)) (R_nil (cY (Ht rfl) (fun hc => ?_) (fun hc => ?_))))))))
  ·have hin : i < z.length := by simp only [decide_eq_true_eq] at hc; omega
   have hmr := hs.row hin
   refine T_focus 1 (i) rfl (frow_mixG hin) (fun v0 => (cK (cG (T_block (ts (ro rfl (bY (cZ 0)) (R_nil (T_block ?_))))))))
   refine T_loop (fun (j : Nat) => j ≤ z.length) (fun (j : Nat) => z.length - j) (fun (j : Nat) => [(0, QsT z), (1, QM m), (4, PtrB B4 0), (8, Is (.slice (some ⟨B24, 0, none⟩) z.length z.length)), (9, NT .i64 i), (10, NT .i64 j)]) (fun (j : Nat) => [box B4 34 [Is (.slice none 0 0), Is (.slice none 0 0)], matH B24 31 98 5 (FRow QT (mixG (fun i => tab z.length fun j => gm m i j * gv z i) (fun i => tab z.length fun j => gm m i j) z.length i)) i v0, rowO 98 5 v0 ((mixG (fun j => gm m i j * gv z i) (fun j => gm m i j) z.length j).map QT)]) 0 (Nat.zero_le _)
    (aQ rfl (aQ rfl (aQ rfl (aQ rfl (aQ rfl (aQ rfl aX)))))) (aK (box_of rfl) (aK (fun _ _ _ h => h) (aK (rowO_of (by rw [← mixG_zero])) aU))) (fun j hj => ?_)
   refine cG (ts (rm rfl (rm rfl (ro rfl (op_lenI U_32 (Ht rfl)) (ro rfl (op_lssN (Ht rfl) (Ht rfl)) (R_nil (cY (Ht rfl) (fun hd => ?_) (fun hd => ?_))))))))
   ·have hjn : j < z.length := by simp only [decide_eq_true_eq] at hd; omega
    have hrl := mixG_len (fun j => gm m i j * gv z i) (fun j => gm m i j) z.length j
    haveI g1 : FitC (gm m i j) L := hf.get hL i j
    haveI g2 : FitC (gv z i) L := hfz.get hL _
    have hzn := all_ne hp2 (show i < z.length by omega)
    refine cK (cG (T_block (C.D_start (m := 17) (dp 8 rfl (cQ (Ht rfl)) (dp 9 rfl (cQ (Ht rfl)) (dqq 37 0 38 1 rfl (op_idxB U_32 Z_31 (Ht rfl) (Ht rfl) rfl (by omega) (by rw [Nat.mul_one, Nat.zero_add])) ?_))))))
    refine dq 39 2 rfl (op_ldH A_31 Z_31 (Ht rfl) (j := 1) rfl) (dp 10 rfl (cQ (Ht rfl)) (dp 1 rfl (cQ (Ht rfl)) (dp 9 rfl (cQ (Ht rfl)) (dqq 42 5 43 6 rfl (dX U_32 Z_31 (Ht rfl) (Ht rfl) rfl (dU (dK (d := []) (by omega)))) (dq 44 7 rfl (dZ A_31 Z_31 (Ht rfl)) (dp 10 rfl (cQ (Ht rfl)) (dqq 45 8 46 9 rfl (dX U_31 Z_98 (Ht rfl) (Ht rfl) rfl (dU (dK (d := Qi.zero) (by omega)))) (dq 47 10 rfl (dZ A_98 Z_98 (Ht rfl)) (dp 0 rfl (cQ (Ht rfl)) ?_)))))))))
    refine dp 9 rfl (cQ (Ht rfl)) (dqq 49 12 50 13 rfl (dX U_31 Z_98 (Ht rfl) (Ht rfl) rfl (dU (dK (d := Qi.zero) (by omega)))) (dq 51 14 rfl (dZ A_98 Z_98 (Ht rfl)) (dqq 48 11 52 15 rfl (cX K_99 (c_rMul (x := gm m i j) (y := gv z i) (L := L) (M := L) (by omega)) ⟨(Ht rfl), (Ht rfl), trivial⟩) (C.D_done mixed rfl (by kernel_rfl) (aJ (aJ (aJ (aJ (aJ (aJ (aJ (aJ (aJ (aJ (aJ (aJ (aJ (aJ (aJ (aJ (aJ (aV (ro rfl (op_idxO U_31 Z_98 (Ht rfl) (Ht rfl) rfl (i := 2) rfl (by rw [List.length_map, hrl]; exact hjn) rfl) ?_)))))))))))))))))))))))
    refine R_stO Z_98 (Ht rfl) (Ht rfl) (El.ag rfl) (i := 2) rfl rfl (by rw [List.length_map, hrl]; exact hjn) rfl ?_
    refine R_nil (T_blk (cU (rm rfl (ro rfl (dJ (Ht rfl) (cZ 1) (by show _ < 9223372036854775808; first | omega | (simp only [lim]; omega))) (ra rfl (R_nil (T_keep [0, 1, 2] rfl (by decide) (T_again (j + 1) hjn (by omega) (aQ rfl (aQ rfl (aQ rfl (aQ rfl (aQ rfl (aQ rfl aX)))))) (aK (box_of rfl) (aK (fun _ _ _ h => h) (aK (rowO_of (show (List.map QT (mixG (fun j => gm m i j * gv z i) (fun j => gm m i j) z.length j)).set j (QT (gm m i j * gv z i)) = List.map QT (mixG (fun j => gm m i j * gv z i) (fun j => gm m i j) z.length (j + 1)) from by rw [set_mapF]; exact congrArg _ (mixG_set (f := (fun j => gm m i j * gv z i))))) aU)))))))))))
   ·have hjn : j = z.length := by simp only [decide_eq_false_iff_not] at hd; omega
    rw [hjn, mixG_fin]
    refine T_exit rfl (T_blk (T_unfocus 1 2 rfl rfl (by decide) (by simp only [FRow, List.length_map, mixG_len]; omega) ?_))
    refine cU (rm rfl (ro rfl (dJ (Ht rfl) (cZ 1) (by show _ < 9223372036854775808; first | omega | (simp only [lim]; omega))) (ra rfl (R_nil (T_keep [0, 1] rfl (by decide) (T_again (i + 1) hin (by omega) (aQ rfl (aQ rfl (aQ rfl (aQ rfl (aQ rfl aX))))) (aK (box_of rfl) (aK (matO_of (by rw [set_FRow]; exact congrArg _ (mixG_set (f := (fun i => tab z.length fun j => gm m i j * gv z i))))) aU))))))))
  ·have hin : i = z.length := by simp only [decide_eq_false_iff_not] at hc; omega
   rw [hin, mixG_fin, show (tab z.length (fun i => tab z.length fun j => gm m i j * gv z i)) = faQ z m from (faQ_comm z m).symm]
   refine T_exit rfl (T_freeze (i := 1) (tt := 8) rfl rfl (frz_matF (s := 5) (M := faQ z m) (tab_len _ _).symm) (ts (rm rfl (ro rfl (cX K_98 (c_rPlus (x := 1) (y := 1) (M := faQ z m) (n := z.length) (L := 4 * L + 2) hqs hqf (by omega) (by omega) (by omega) (by decide) (by decide)) ⟨(cZ 1), (cZ 1), (Ht rfl), trivial⟩) (rm rfl (ro rfl (cX K_98 (c_rPlus (x := 1) (y := (-1)) (M := faQ z m) (n := z.length) (L := 4 * L + 2) hqs hqf (by omega) (by omega) (by omega) (by decide) (by decide)) ⟨(cZ 1), cJ, (Ht rfl), trivial⟩) (ro rfl (cX Tryz.call106 (c_rUnder (M := (plM 1 1 (faQ z m) z.length)) (Y := (plM 1 (-1) (faQ z m) z.length)) (n := z.length) (L := 4 * L + 6) (K := 4 * L + 6) (plM_shp _ _ _ _) (plM_shp _ _ _ _) (plM_fit hqf (by omega) fit_p1 fit_m1) (plM_fit hqf (by omega) fit_p1 fit_p1) (by omega) (by omega) (by omega) h1 h8 hg hxn) ⟨(Ht rfl), (Ht rfl), trivial⟩) ?_)))))))
   refine rm rfl (ro rfl (dG (Ht rfl) rfl) (ro rfl (dG (Ht rfl) rfl) (ra rfl (ra rfl (R_nil (cG (ts (rm rfl (ro rfl (op_not (Ht rfl)) (R_nil (cY (Ht rfl) (fun hf2 => ?_) (fun hf2 => ?_))))))))))))
   ·have ho : ovE (plM 1 1 (faQ z m) z.length) z.length ≠ 0 := by simpa using hf2
    have h5 := ov_five ho
    refine ts (ro rfl (OpTy.imp (bld_34_ ) rnet_nil) (R_stA Z_34 (Ht rfl) (Ht rfl) rfl (i := 0) rfl (Nat.le_of_ble_eq_true rfl) rfl rfl (ro rfl (bY (cZ 5)) (R_nil (T_ret2 rfl (rv_to (rv_cell A_34 Z_34 rfl (i := 0) rfl rfl) ?_) (rv_to (rv_tmp rfl) ?_))))))
    ·exact (fun v V h => by rw [frZ, frS, okL, okL, hfr, if_neg ho, if_neg ho]; exact h)
    ·exact (int_of (hfr.trans h5).symm)
   ·have ho : ovE (plM 1 1 (faQ z m) z.length) z.length = 0 := by simpa using hf2
    refine cK (ts (rm rfl (rm rfl (ro rfl (bld_34_0_1 (Ht rfl) (Ht rfl)) (R_stA Z_34 (Ht rfl) (Ht rfl) rfl (i := 0) rfl (Nat.le_of_ble_eq_true rfl) rfl rfl (ro rfl (bY (cZ 0)) (R_nil (T_ret2 rfl (rv_to (rv_cell A_34 Z_34 rfl (i := 0) rfl rfl) ?_) (rv_to (rv_tmp rfl) ?_)))))))))
    ·exact (fun v V h => by rw [frZ, frS, okL, okL, hfr, if_pos ho, if_pos ho]; rw [unX, okL, if_pos ho] at h; exact h)
    ·exact (int_of (hfr.trans ho).symm)
end
section
open Go Go.RowKit
set_option maxRecDepth 20000 in
theorem c_AreRows {m : List (List Qi)} {L : Nat} (hf : FitM m L) (hL1 : 1 ≤ L) (hL : L ≤ 8796093022208) (hl : m.length ≤ 1000) (hr : ∀ i, (m.getD i []).length ≤ 1000) : Fun Tryz.prog 21 [NumM m, QM m] (BoolT true) := by
 refine Fun.intro Tryz.func21 rfl Tryz.ntmps21 rfl (fun cx => (ts (ro rfl (bY cJ) (R_nil (cG (ts (rm rfl (ro rfl (dW U_28 (Ht rfl) len_map) (rm rfl (ro rfl (dW U_32 (Ht rfl) len_map) (ro rfl (op_neqN (Ht rfl) (Ht rfl)) (R_nil (T_condF (Ht rfl) (by simp) ?_)))))))))))))
 refine cK (cG (ts (rm rfl (ro rfl (dW U_28 (Ht rfl) len_map) (ro rfl (cQ (cZ 0)) (R_nil (T_block ?_)))))))
 refine T_loop (fun (i : Nat) => i ≤ m.length) (fun (i : Nat) => m.length - i) (fun (i : Nat) => [(1, QM m), (12, NumM m), (13, NT .i64 m.length), (14, NT .i64 i)]) (fun (i : Nat) => []) 0 (Nat.zero_le _)
  (aQ rfl (aQ rfl (aQ rfl (aQ rfl aX)))) aU (fun i hi => ?_)
 refine ts (ro rfl (op_lssN (Ht rfl) (Ht rfl)) (R_nil (cG (cY (Ht rfl) (fun hd => ?_) (fun hd => ?_)))))
 ·have hin : i < m.length := by simp only [decide_eq_true_eq] at hd; omega
  refine cK (cG (T_block (ts (rm rfl (ro rfl (dX U_28 Z_27 (Ht rfl) (Ht rfl) rfl (dU (dK (d := []) hin))) (ro rfl (dZ A_27 Z_27 (Ht rfl)) (ra rfl (ra rfl (R_nil (ts (rm rfl (rm rfl (rm rfl (ro rfl (dX U_32 Z_31 (Ht rfl) (Ht rfl) rfl (dU (dK (d := []) hin))) (ro rfl (dZ A_31 Z_31 (Ht rfl)) (ro rfl (cX Tryz.call103 (c_AreAll (l := m.getD i []) (hf.row i) hL1 hL (hr i)) ⟨(Ht rfl), (Ht rfl), trivial⟩) (ro rfl (op_not (Ht rfl)) (R_nil (T_condF (Ht rfl) (by rfl) ?_)))))))))))))))))))
  refine cK (T_blk (cU (ro rfl (dJ (Ht rfl) (cZ 1) (by show _ < 9223372036854775808; first | omega | (simp only [lim]; omega))) (rm rfl (R_nil (T_again (i + 1) hin (by omega) (aQ rfl (aQ rfl (aQ rfl (aQ rfl aX)))) aU))))))
 ·refine T_exit rfl (ts (ro rfl (bY cJ) (R_nil ?_)))
  exact T_ret1 rfl (rv_tmp rfl)
theorem rows_le {m : List (List Qi)} {n : Nat} (h : ∀ r, r ∈ m → r.length ≤ n) (i : Nat) : (m.getD i []).length ≤ n := by
  by_cases e : i < m.length
  · rw [show m.getD i [] = m[i] by simp [List.getD, e]]; exact h _ (List.getElem_mem e)
  · rw [show m.getD i [] = [] by simp [List.getD, show m[i]? = none from List.getElem?_eq_none (by omega)]]; exact Nat.zero_le _
set_option maxHeartbeats 4000000 in
set_option maxRecDepth 20000 in
theorem c_NetworkMatrices {a : Nat} {zl sl w : List Rt} {m : List (List Rt)} (ha : a < 256) : Fun Tryz.prog 3 [PartT a zl sl, RatsT w, RatM m] (BoolT true) := by
 refine Fun.intro Tryz.func3 rfl Tryz.ntmps3 rfl (fun cx => (ts (rn rfl (new_box (Ht rfl)) fun B3 => (ro rfl (bY cJ) (R_nil (cG (ts (rm rfl (ro rfl (dW U_22 (Ht rfl) len_map) (ro rfl (op_gtrN (Ht rfl) (cZ 5)) (rm rfl (R_step rfl rfl (S_when rfl rfl (Ht rfl) (fun h => cQ (Ht rfl))) (R_step rfl rfl (S_when rfl rfl (Ht rfl) (fun h => dW U_25 (Has.w rfl h) len_map)) (R_step rfl rfl (S_when rfl rfl (Ht rfl) (fun h => op_gtrN (Has.w rfl h) (cZ 5))) (ro rfl (op_or (Ht rfl) (fun h => (Has.w rfl h))) (R_nil (cY (Ht rfl) (fun hb0 => ?_) (fun hb0 => ?_))))))))))))))))))
 ·refine ts (ro rfl (cX Tryz.call15 c_awake4 trivial) (ra rfl (R_nil ?_)))
  exact T_ret1 rfl (rv_tmp rfl)
 ·have hw : w.length ≤ 5 ∧ m.length ≤ 5 := by simpa using hb0
  refine cK (cG (ts (rm rfl (ro rfl (dW U_25 (Ht rfl) len_map) (ro rfl (cQ (cZ 0)) (R_nil (T_block ?_)))))))
  refine T_loop (fun (i : Nat) => i ≤ m.length ∧ ∀ k, k < i → (m.getD k []).length ≤ 5) (fun (i : Nat) => m.length - i) (fun (i : Nat) => [(1, RatsT w), (2, RatM m), (3, PtrB B3 0), (37, RatM m), (38, NT .i64 m.length), (39, NT .i64 i)]) (fun (i : Nat) => [box B3 24 [NT .u8 a, RatsT zl, RatsT sl]]) 0 ⟨Nat.zero_le _, fun k h => by omega⟩
   (aQ rfl (aQ rfl (aQ rfl (aQ rfl (aQ rfl (aQ rfl aX)))))) (aK (box_of rfl) aU) (fun i ⟨hi, h0⟩ => ?_)
  refine ts (ro rfl (op_lssN (Ht rfl) (Ht rfl)) (R_nil (cG (cY (Ht rfl) (fun hd => ?_) (fun hd => ?_)))))
  ·have hin : i < m.length := by simp only [decide_eq_true_eq] at hd; omega
   refine cK (cG (T_block (ts (ro rfl (dX U_25 Z_22 (Ht rfl) (Ht rfl) rfl (dU (dK (d := []) hin))) (ro rfl (dZ A_22 Z_22 (Ht rfl)) (ra rfl (R_nil (ts (rm rfl (ro rfl (dW U_22 (Ht rfl) len_map) (ro rfl (op_gtrN (Ht rfl) (cZ 5)) (R_nil (cY (Ht rfl) (fun he => ?_) (fun he => ?_))))))))))))))
   ·refine ts (ro rfl (cX Tryz.call15 c_awake4 trivial) (ra rfl (R_nil ?_)))
    exact T_ret1 rfl (rv_tmp rfl)
   ·have h5 : (m.getD i []).length ≤ 5 := by simp only [decide_eq_false_iff_not] at he; omega
    refine cK (T_blk (cU (ro rfl (dJ (Ht rfl) (cZ 1) (by show _ < 9223372036854775808; first | omega | (simp only [lim]; omega))) (rm rfl (R_nil (T_keep [0] rfl (by decide) ?_))))))
    refine T_again (i + 1) ⟨hin, fun k h => by
      by_cases e : k = i
      ·rw [e]; exact h5
      ·exact h0 k (by omega)⟩ (by omega) (aQ rfl (aQ rfl (aQ rfl (aQ rfl (aQ rfl (aQ rfl aX)))))) (aK (box_of rfl) aU)
  ·have hin : i = m.length := by simp only [decide_eq_false_iff_not] at hd; omega
   have hall : ∀ r, r ∈ m → r.length ≤ 1000 := fun r hr => by
    obtain ⟨k, hk, e⟩ := List.getElem_of_mem hr
    have := h0 k (by omega)
    rw [show m.getD k [] = r by rw [← e]; simp [List.getD, hk]] at this
    omega
   obtain ⟨h1, h8, hsh, hp⟩ := netErr_ok (pl_err a zl sl)
   have hn : plN a ≤ 4 := by unfold plN; omega
   have hzl : ((plZ a zl).map Rt.q).length ≤ 4 := by rw [List.length_map, plZ, tab_len]; exact hn
   have hwl : (w.map Rt.q).length ≤ 5 := by rw [List.length_map]; exact hw.1
   have hml : (rq m).length ≤ 5 := by rw [rq, List.length_map]; exact hw.2
   have f3 : FitL (w.map Rt.q) 2 := FitL.rt
   have f4 : FitM (rq m) 2 := FitM.rt
   have hB := c_Build (a := a) (zl := zl) (sl := sl) ha
   obtain ⟨z1, hz1⟩ : ∃ z1, z1 = ((plZ a zl).map Rt.q) := ⟨_, rfl⟩
   obtain ⟨s1, hs1⟩ : ∃ s1, s1 = (rq (plS a sl)) := ⟨_, rfl⟩
   have f1 : FitL z1 2 := by rw [hz1]; exact FitL.rt
   have f2 : FitM s1 2 := by rw [hs1]; exact FitM.rt
   rw [← hz1] at h1 h8 hsh hzl hp
   rw [← hs1] at hsh
   rw [← hz1, ← hs1] at hB
   have hg1 : 6 * grow (2 + 4) z1.length + 4 ≤ 17592186044415 := Nat.le_trans (Nat.add_le_add_right (Nat.mul_le_mul_left 6 (grow_mono _ hzl)) 4) (by decide)
   have hx1 : xgr (grow (2 + 4) z1.length) (z1.length + 1) ≤ 900000000000 := Nat.le_trans (Nat.le_trans (xgr_monoL (grow_mono _ hzl) _) (xgr_mono _ (Nat.succ_le_succ hzl))) (by decide)
   have hG1 : xgr (grow (2 + 4) z1.length) z1.length ≤ 1000000 := Nat.le_trans (Nat.le_trans (xgr_monoL (grow_mono _ hzl) _) (xgr_mono _ hzl)) (by decide)
   have hg2 : 6 * grow (4 * 2 + 6) (w.map Rt.q).length + 4 ≤ 17592186044415 := Nat.le_trans (Nat.add_le_add_right (Nat.mul_le_mul_left 6 (grow_mono _ hwl)) 4) (by decide)
   have hx2 : xgr (grow (4 * 2 + 6) (w.map Rt.q).length) ((w.map Rt.q).length + 1) ≤ 900000000000 := Nat.le_trans (Nat.le_trans (xgr_monoL (grow_mono _ hwl) _) (xgr_mono _ (Nat.succ_le_succ hwl))) (by decide)
   have hG2 : xgr (grow (10 + 4) (w.map Rt.q).length) (w.map Rt.q).length ≤ 50000000 := Nat.le_trans (Nat.le_trans (xgr_monoL (grow_mono _ hwl) _) (xgr_mono _ hwl)) (by decide)
   have g1 : FitM (impX z1 s1) 500000000 := (impM_fit f1 f2 (by decide) (by omega) hG1).le (by decide)
   have g2 : FitM (admX z1 s1) 500000000 := (admM_fit f1 f2 (by decide) (by omega) hp hG1).le (by decide)
   have l1 : (impX z1 s1).length ≤ 1000 := Nat.le_trans (okL_len _ _) (by rw [impM, tab_len]; omega)
   have l2 : (admX z1 s1).length ≤ 1000 := Nat.le_trans (okL_len _ _) (by rw [admM, tab_len]; omega)
   have r1 : ∀ i, ((impX z1 s1).getD i []).length ≤ 1000 := rows_le (fun r hr => by rw [impX, okL] at hr; split at hr; (obtain ⟨k, _, rfl⟩ := tab_mem.1 hr; rw [tab_len]; omega); cases hr)
   have r2 : ∀ i, ((admX z1 s1).getD i []).length ≤ 1000 := rows_le (fun r hr => by rw [admX, okL] at hr; split at hr; (obtain ⟨k, _, rfl⟩ := tab_mem.1 hr; rw [tab_len]; omega); cases hr)
   have z5 : ∀ q, FitL (frZ (w.map Rt.q) (rq m) q) 500000000 := fun q => okL_fit (f3.le (by decide))
   have g3 : FitM (frS (w.map Rt.q) (rq m) (fiQ (w.map Rt.q) (rq m)) (plM (-1) 1 (fiQ (w.map Rt.q) (rq m)) (w.map Rt.q).length)) 500000000 := by
    by_cases e : netErr (w.map Rt.q) (rq m) = 0
    ·obtain ⟨e1, e2, e3, e4⟩ := netErr_ok e
     have hq : FitM (fiQ (w.map Rt.q) (rq m)) 10 := (fiQ_fit f3 f4 (by decide) (by decide) e4).le (by decide)
     exact (fr_fit (L := 10) (K := 14) (G := 50000000) hq (plM_fit hq (by decide) fit_m1 fit_p1) (by decide) (by decide) (by omega) Shp.tab hG2).le (by decide)
    ·rw [frS, okL, if_neg (by rw [fr_bad e]; exact e)]; exact FitM.nil
   have g4 : FitM (frS (w.map Rt.q) (rq m) (faQ (w.map Rt.q) (rq m)) (plM 1 (-1) (faQ (w.map Rt.q) (rq m)) (w.map Rt.q).length)) 500000000 := by
    by_cases e : netErr (w.map Rt.q) (rq m) = 0
    ·obtain ⟨e1, e2, e3, e4⟩ := netErr_ok e
     have hq : FitM (faQ (w.map Rt.q) (rq m)) 10 := (faQ_fit f3 f4 (by decide) (by decide)).le (by decide)
     exact (fr_fit (L := 10) (K := 14) (G := 50000000) hq (plM_fit hq (by decide) fit_p1 fit_m1) (by decide) (by decide) (by omega) Shp.tab hG2).le (by decide)
    ·rw [frS, okL, if_neg (by rw [fr_bad e]; exact e)]; exact FitM.nil
   obtain ⟨k3, k3l⟩ := fr_shp (w.map Rt.q) (rq m) (fiQ (w.map Rt.q) (rq m)) (plM (-1) 1 (fiQ (w.map Rt.q) (rq m)) (w.map Rt.q).length)
   obtain ⟨k4, k4l⟩ := fr_shp (w.map Rt.q) (rq m) (faQ (w.map Rt.q) (rq m)) (plM 1 (-1) (faQ (w.map Rt.q) (rq m)) (w.map Rt.q).length)
   refine T_exit rfl (ts (ro rfl (op_ldBA Tryz.isAgg24 Tryz.sizeOf24 (Ht rfl) (i := 0) rfl rfl rfl) (ro rfl (cX Tryz.call16 hB ⟨(Ht rfl), trivial⟩) (rm rfl (ro rfl (dG (Ht rfl) rfl) (ro rfl (dG (Ht rfl) rfl) (ro rfl (dG (Ht rfl) rfl) (rn rfl (new_alloc (Ts := [Is (.slice none 0 0), Is (.slice none 0 0)]) O_30 rfl (fun V => aW ⟨rfl, trivial⟩ (aW ⟨rfl, trivial⟩ (aG)))) fun B9 => (rn rfl (new_alloc (Ts := [Is (.slice none 0 0), Is (.slice none 0 0)]) O_34 rfl (fun V => aW ⟨rfl, trivial⟩ (aW ⟨rfl, trivial⟩ (aG)))) fun B10 => ?_)))))))))
   refine R_stA Z_30 (Ht rfl) (Ht rfl) rfl (i := 1) rfl (Nat.le_of_ble_eq_true rfl) rfl rfl (R_stA Z_34 (Ht rfl) (Ht rfl) rfl (i := 2) rfl (Nat.le_of_ble_eq_true rfl) rfl rfl (ra rfl (R_nil (cG (ts (rm rfl (ro rfl (op_not (Ht rfl)) (R_nil (T_condF (Ht rfl) (by rfl) ?_)))))))))
   refine cK (ts (ro rfl (op_ldBA A_30 Z_30 (Ht rfl) (i := 1) rfl rfl rfl) (ro rfl (cX Tryz.call17 (c_Imp (z := z1) (s := s1) (L := 2) hsh f2 f1 hp (by decide) (by decide) h1 (by omega) hg1 hx1) ⟨(Ht rfl), trivial⟩) (rm rfl (ro rfl (dG (Ht rfl) rfl) (ro rfl (dG (Ht rfl) rfl) (ra rfl (ra rfl (R_nil (ts (ro rfl (op_ldBA A_34 Z_34 (Ht rfl) (i := 2) rfl rfl rfl) (ro rfl (cX Tryz.call18 (c_rImp (z := z1) (s := s1) (L := 2) hsh f2 f1 hp (by decide) (by decide) h1 (by omega) hg1 hx1) ⟨(Ht rfl), trivial⟩) (rm rfl (ro rfl (dG (Ht rfl) rfl) ?_))))))))))))))
   refine ro rfl (dG (Ht rfl) rfl) (ra rfl (ra rfl (R_nil (ts (ro rfl (op_ldBA A_30 Z_30 (Ht rfl) (i := 1) rfl rfl rfl) (ro rfl (cX Tryz.call19 (c_Adm (z := z1) (s := s1) (L := 2) hsh f2 f1 hp (by decide) (by decide) h1 (by omega) hg1 hx1) ⟨(Ht rfl), trivial⟩) (rm rfl (ro rfl (dG (Ht rfl) rfl) (ro rfl (dG (Ht rfl) rfl) (ra rfl (ra rfl (R_nil (ts (ro rfl (op_ldBA A_34 Z_34 (Ht rfl) (i := 2) rfl rfl rfl) (ro rfl (cX Tryz.call20 (c_rAdm (z := z1) (s := s1) (L := 2) hsh f2 f1 hp (by decide) (by decide) h1 (by omega) hg1 hx1) ⟨(Ht rfl), trivial⟩) ?_)))))))))))))))
   refine rm rfl (ro rfl (dG (Ht rfl) rfl) (ro rfl (dG (Ht rfl) rfl) (ra rfl (ra rfl (R_nil (cG (ts (rm rfl (rm rfl (ro rfl (op_neq (Ht rfl) (Ht rfl)) (rm rfl (R_step rfl rfl (S_when rfl rfl (Ht rfl) (fun h => cQ (Ht rfl))) (R_step rfl rfl (S_when rfl rfl (Ht rfl) (fun h => cQ (Ht rfl))) (R_step rfl rfl (S_when rfl rfl (Ht rfl) (fun h => op_neq (Has.w rfl h) (Has.w rfl h))) (ro rfl (op_or (Ht rfl) (fun h => (Has.w rfl h))) (rm rfl (R_step rfl rfl (S_when rfl rfl (Ht rfl) (fun h => cQ (Ht rfl))) (R_step rfl rfl (S_when rfl rfl (Ht rfl) (fun h => cQ (Ht rfl))) ?_))))))))))))))))))
   refine R_step rfl rfl (S_when rfl rfl (Ht rfl) (fun h => cX Tryz.call21 (c_AreRows g1 (by decide) (by decide) l1 r1) ⟨(Has.w rfl h), (Has.w rfl h), trivial⟩)) (R_step rfl rfl (S_when rfl rfl (Ht rfl) (fun h => op_not (Has.w rfl h))) (ro rfl (op_or (Ht rfl) (fun h => (Has.w rfl h))) (rm rfl (R_step rfl rfl (S_when rfl rfl (Ht rfl) (fun h => cQ (Ht rfl))) (R_step rfl rfl (S_when rfl rfl (Ht rfl) (fun h => cQ (Ht rfl))) (R_step rfl rfl (S_when rfl rfl (Ht rfl) (fun h => cX Tryz.call21 (c_AreRows g2 (by decide) (by decide) l2 r2) ⟨(Has.w rfl h), (Has.w rfl h), trivial⟩)) ?_))))))
   refine R_step rfl rfl (S_when rfl rfl (Ht rfl) (fun h => op_not (Has.w rfl h))) (ro rfl (op_or (Ht rfl) (fun h => (Has.w rfl h))) (R_nil (T_condF (Ht rfl) (by simp) ?_)))
   refine cK (ts (rm rfl (ro rfl (cX Tryz.call23 (c_lawList (by omega)) ⟨(Ht rfl), trivial⟩) (rm rfl (ro rfl (cX Tryz.call24 (c_lawRows (by omega) hall) ⟨(Ht rfl), trivial⟩) (ro rfl (cX Tryz.call22 (c_FromImp (z := (w.map Rt.q)) (m := (rq m)) (L := 2) f4 f3 (by decide) (by decide) (by omega) (by omega) hg2 hx2) ⟨(Ht rfl), (Ht rfl), trivial⟩) (rm rfl (ro rfl (dG (Ht rfl) rfl) (ro rfl (dG (Ht rfl) rfl) (rn rfl (new_alloc (Ts := [Is (.slice none 0 0), Is (.slice none 0 0)]) O_30 rfl (fun V => aW ⟨rfl, trivial⟩ (aW ⟨rfl, trivial⟩ (aG)))) fun B20 => ?_))))))))))
   refine R_stA Z_30 (Ht rfl) (Ht rfl) rfl (i := 3) rfl (Nat.le_of_ble_eq_true rfl) rfl rfl (ra rfl (R_nil (ts (rm rfl (ro rfl (cX Tryz.call26 (c_refList4 (by omega)) ⟨(Ht rfl), trivial⟩) (rm rfl (ro rfl (cX Tryz.call27 (c_refRows4 (by omega) hall) ⟨(Ht rfl), trivial⟩) (ro rfl (cX Tryz.call25 (c_rFromImp (z := (w.map Rt.q)) (m := (rq m)) (L := 2) f4 f3 (by decide) (by decide) (by omega) (by omega) hg2 hx2) ⟨(Ht rfl), (Ht rfl), trivial⟩) (rm rfl (ro rfl (dG (Ht rfl) rfl) (ro rfl (dG (Ht rfl) rfl) (rn rfl (new_alloc (Ts := [Is (.slice none 0 0), Is (.slice none 0 0)]) O_34 rfl (fun V => aW ⟨rfl, trivial⟩ (aW ⟨rfl, trivial⟩ (aG)))) fun B22 => ?_))))))))))))
   refine R_stA Z_34 (Ht rfl) (Ht rfl) rfl (i := 4) rfl (Nat.le_of_ble_eq_true rfl) rfl rfl (ra rfl (R_nil (ts (rm rfl (ro rfl (cX Tryz.call23 (c_lawList (by omega)) ⟨(Ht rfl), trivial⟩) (rm rfl (ro rfl (cX Tryz.call24 (c_lawRows (by omega) hall) ⟨(Ht rfl), trivial⟩) (ro rfl (cX Tryz.call28 (c_FromAdm (z := (w.map Rt.q)) (m := (rq m)) (L := 2) f4 f3 (by decide) (by decide) (by omega) (by omega) hg2 hx2) ⟨(Ht rfl), (Ht rfl), trivial⟩) (rm rfl (ro rfl (dG (Ht rfl) rfl) (ro rfl (dG (Ht rfl) rfl) (rn rfl (new_alloc (Ts := [Is (.slice none 0 0), Is (.slice none 0 0)]) O_30 rfl (fun V => aW ⟨rfl, trivial⟩ (aW ⟨rfl, trivial⟩ (aG)))) fun B24 => ?_))))))))))))
   refine R_stA Z_30 (Ht rfl) (Ht rfl) rfl (i := 5) rfl (Nat.le_of_ble_eq_true rfl) rfl rfl (ra rfl (R_nil (ts (rm rfl (ro rfl (cX Tryz.call26 (c_refList4 (by omega)) ⟨(Ht rfl), trivial⟩) (rm rfl (ro rfl (cX Tryz.call27 (c_refRows4 (by omega) hall) ⟨(Ht rfl), trivial⟩) (ro rfl (cX Tryz.call29 (c_rFromAdm (z := (w.map Rt.q)) (m := (rq m)) (L := 2) f4 f3 (by decide) (by decide) (by omega) (by omega) hg2 hx2) ⟨(Ht rfl), (Ht rfl), trivial⟩) (rm rfl (ro rfl (dG (Ht rfl) rfl) (ro rfl (dG (Ht rfl) rfl) (rn rfl (new_alloc (Ts := [Is (.slice none 0 0), Is (.slice none 0 0)]) O_34 rfl (fun V => aW ⟨rfl, trivial⟩ (aW ⟨rfl, trivial⟩ (aG)))) fun B26 => ?_))))))))))))
   refine R_stA Z_34 (Ht rfl) (Ht rfl) rfl (i := 6) rfl (Nat.le_of_ble_eq_true rfl) rfl rfl (ra rfl (R_nil (cG (T_keep [0, 1, 2, 3, 4, 5, 6] rfl (by decide) (cU (ro rfl (op_ldBA A_30 Z_30 (Ht rfl) (i := 3) rfl rfl rfl) (rm rfl (ro rfl (op_ldBA A_34 Z_34 (Ht rfl) (i := 4) rfl rfl rfl) (rm rfl (ro rfl (cX Tryz.call30 (c_ans4 (z5 _) g3 (by decide) (by decide) k3 (by omega)) ⟨(Ht rfl), (Ht rfl), (Ht rfl), (Ht rfl), trivial⟩) (rm rfl (R_step rfl rfl (S_when rfl rfl (Ht rfl) (fun h => op_ldBA A_30 Z_30 (Ht rfl) (i := 5) rfl rfl rfl)) ?_))))))))))))
   refine R_step rfl rfl (S_when rfl rfl (Ht rfl) (fun h => cQ (Ht rfl))) (R_step rfl rfl (S_when rfl rfl (Ht rfl) (fun h => op_ldBA A_34 Z_34 (Ht rfl) (i := 6) rfl rfl rfl)) (R_step rfl rfl (S_when rfl rfl (Ht rfl) (fun h => cQ (Ht rfl))) (R_step rfl rfl (S_when rfl rfl (Ht rfl) (fun h => cX Tryz.call30 (c_ans4 (z5 _) g4 (by decide) (by decide) k4 (by omega)) ⟨(Has.w rfl h), (Has.w rfl h), (Has.w rfl h), (Has.w rfl h), trivial⟩)) (ro rfl (op_and (Ht rfl) (fun h => (Has.w rfl h))) (rm rfl (R_step rfl rfl (S_when rfl rfl (Ht rfl) (fun h => cX Tryz.call15 c_awake4 trivial)) ?_))))))
   refine ro rfl (op_and (Ht rfl) (fun h => (Has.w rfl h))) (ra rfl (R_nil (T_ret1 rfl (rv_to (rv_tmp rfl) ?_))))
   exact (bool_of (by simp))
end
section
open Go Go.ChangeShapes Go.WideShapes Go.ChangeAt Go.RowKit Go.Deep
section
variable {H : Type} {enc : TypeId × Value → H} {W : World} {base : Nat} {sp : Nat → Bool} {held : Bool}
set_option maxRecDepth 100000 in
theorem s125 : S3 Tryz.prog 24 5 22 22 := ⟨⟨_, _, _, Tryz.underlying24, rfl, rfl, rfl, rfl, rfl, rfl⟩, by kernel_rfl, by kernel_rfl, by kernel_rfl, by kernel_rfl⟩
set_option maxRecDepth 100000 in
theorem trod_partT {b0 : Nat} {v : Value} {d : DataW H} {p : List MemPlace} (ho : Value.okWide Tryz.prog W .any b0 24 v) (h : DataW.Trod enc Tryz.prog W base sp held 24 v d p) : ∃ (a : Nat) (zl sl : List Rt), (AggT [NT .u8 a, RatsT zl, RatsT sl]).p v (hv W) ∧ a < 256 := by
  obtain ⟨cs, rfl, _⟩ := okWide_struct Tryz.underlying24 ho
  obtain ⟨n, hn⟩ := h
  obtain ⟨x0, x1, x2, m, y0, y1, y2, hcs, h0, h1, h2⟩ := s125.open hn
  obtain ⟨i, e0, _, w⟩ := DataW.trod_int Tryz.underlying5 h0
  obtain ⟨v1, z, e1, k1⟩ := open_rats h1
  obtain ⟨v2, s, e2, k2⟩ := open_rats h2
  simp only [List.cons.injEq, and_true] at e0 e1 e2
  subst e0 e1 e2
  have hw := wf_u8 w
  have e : ((i.toNat : Nat) : Int) = i := by omega
  have hi : ∀ V, (NT .u8 i.toNat).p (.int .u8 i) V := fun V => by rw [show NT .u8 i.toNat = IntT .u8 i from congrArg (IntT .u8) e]; rfl
  have hcs2 : cs.toList = [.int .u8 i, x1, x2] := hcs
  exact ⟨i.toNat, z, s, ⟨cs.toList, rfl, by rw [hcs2]; exact aW ⟨hi _, trivial⟩ (aW ⟨k1, (sl_cells k1).2⟩ (aW ⟨k2, (sl_cells k2).2⟩ aG))⟩, by omega⟩
end
end
end Go.Proofs.YteimkhgiekndjaaGreat
