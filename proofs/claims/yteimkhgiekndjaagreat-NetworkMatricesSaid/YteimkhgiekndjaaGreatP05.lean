/- What functions of the program compute, proved by walks over their code, and the plain mathematics of it; a part of the proof in the last text. -/
import Derived.Test.YteimkhgiekndjaaGreatP04
set_option linter.unusedVariables false
set_option linter.unusedSimpArgs false
namespace Go.Proofs.YteimkhgiekndjaaGreat
section
open Go Go.RowKit
theorem c_copied0 {M : List (List Qi)} {n m : Nat} (hM : Shp M n m) (hn : n ≤ 1000) (hm : m ≤ 1000) : FunO Tryz.prog 240 [NumM M, Is (.slice none 0 0)] [] Nat (fun B => Is (.slice (some ⟨B, 0, none⟩) n n)) (fun B => [matO B 27 45 5 (FRow NumT M)]) (fun _ => True) := by
  have h := c_copiedO (M := M) (bs := []) hM (fun b hb => by cases hb) hn hm (by simp)
  rw [copyM_nil hM] at h
  exact h.arg all2_nil
set_option maxHeartbeats 1000000 in
set_option maxRecDepth 20000 in
theorem c_Inv {M : List (List Qi)} {n L : Nat} (hM : Shp M n n) (hf : FitM M L) (hL : 1 ≤ L) (h1 : 1 ≤ n) (hn : n ≤ 32) (hg : 6 * grow L n + 4 ≤ 17592186044415) (hx : xgr (grow L n) (n + 1) ≤ 17592186044415) : Fun Tryz.prog 197 [NumM M] (TupT [NumM (okL (invE M n) (invX M n)), IntT .i64 (invE M n)]) := by
 have hMl := hM.1
 refine Fun.intro Tryz.func197 rfl Tryz.ntmps197 rfl (fun cx => (ts (ro rfl (bY cJ) (ro rfl (bY (cZ 0)) (R_nil (cG (ts (rm rfl (ro rfl (cX Tryz.call239 (c_square hM h1 hn) ⟨(Ht rfl), trivial⟩) (ro rfl (op_not (Ht rfl)) (R_nil (T_condF (Ht rfl) (by rfl) ?_))))))))))))
 refine cK (ts (rm rfl (R_call0 Tryz.call240 (c_copied0 hM (by omega) (by omega)) ⟨(Ht rfl), cJ, trivial⟩ rfl (fun B14 _ => (ra rfl (R_nil (cG (ts (rm rfl (ro rfl (dW U_28 (Ht rfl) (by rw [List.length_map, hMl])) ?_))))))))))
 refine ro rfl (cX K_91 (c_Id (n := n) hn) ⟨(Ht rfl), trivial⟩) (ro rfl (dW U_28 (Ht rfl) len_map) (ro rfl (cQ (cZ 0)) (R_nil (T_block ?_))))
 refine T_loop (fun (k : Nat) => k ≤ n ∧ ∀ i, i < k → slvE M (ek n i) n = 0) (fun (k : Nat) => n - k) (fun (k : Nat) => [(0, NumM M), (4, Is (.slice (some ⟨B14, 0, none⟩) n n)), (17, NumM (idM n)), (18, NT .i64 n), (19, NT .i64 k)]) (fun (k : Nat) => [matO B14 27 45 5 (FRow NumT (invP M n k 0))]) 0 ⟨Nat.zero_le _, fun i h => by omega⟩
  (aQ rfl (aQ rfl (aQ rfl (aZ rfl (nt_of (idM_shp n).1) (aQ rfl aX))))) (aK (matO_of (congrArg _ (invP_zero hM))) aU) (fun k ⟨hk, h0⟩ => ?_)
 refine ts (ro rfl (op_lssN (Ht rfl) (Ht rfl)) (R_nil (cG (cY (Ht rfl) (fun hd0 => ?_) (fun hd0 => ?_)))))
 ·simp only [decide_eq_true_eq] at hd0
  have hel := ek_len hd0
  refine cK (cG (T_block (ts (rm rfl (ro rfl (dX U_28 Z_27 (Ht rfl) (Ht rfl) rfl (dU (dK (d := []) (by rw [(idM_shp n).1]; exact hd0)))) ?_)))))
  refine ro rfl (dZ A_27 Z_27 (Ht rfl)) (ra rfl (ra rfl (R_nil (ts (rm rfl (rm rfl (ro rfl (cX Tryz.call177 (c_Solve (M := M) (b := ek n k) (n := n) (L := L) hM hel hf (ek_fit hL) hL h1 hn hg hx) ⟨(Ht rfl), (Ht rfl), trivial⟩) (rm rfl (ro rfl (dG (Ht rfl) rfl) (ro rfl (dG (Ht rfl) rfl) (ra rfl (ra rfl (R_nil (cG (ts (rm rfl (ro rfl (op_neq (Ht rfl) cJ) (R_nil (cY (Ht rfl) (fun he => ?_) (fun he => ?_))))))))))))))))))))
  ·have he2 : ¬ slvE M (ek n k) n = 0 := by simpa using he
   have hi := invE_at h0 hd0 he2
   refine ts (rm rfl (ro rfl (bY cJ) (ra rfl (R_nil (T_ret2 rfl (rv_to (rv_tmp rfl) ?_) (rv_to (rv_tmp rfl) ?_))))))
   ·exact (fun v V h => by rw [hi, okL, if_neg he2]; exact nil_slT v V h)
   ·exact (int_of hi.symm)
  ·have he2 : slvE M (ek n k) n = 0 := by simpa using he
   have hxl : (slvX M (ek n k) n).length = n := bkS_len _ _ _
   refine T_sub (E' := [(0, _), (4, _), (5, _), (7, _), (17, _), (18, _), (19, _)]) (aQ rfl (aQ rfl (aQ rfl (aZ rfl (slT_of (Us := (slvX M (ek n k) n).map NumT) (by rw [he2]; rfl)) (aQ rfl (aQ rfl (aQ rfl aX))))))) ?_
   refine cK (ts (rm rfl (ro rfl (dW U_27 (Ht rfl) len_map) (ro rfl (cQ (cZ 0)) (R_nil (T_block ?_))))))
   refine T_loop (fun (i : Nat) => i ≤ n) (fun (i : Nat) => n - i) (fun (i : Nat) => [(0, NumM M), (4, Is (.slice (some ⟨B14, 0, none⟩) n n)), (5, NT .i64 k), (7, NumsT (slvX M (ek n k) n)), (17, NumM (idM n)), (18, NT .i64 n), (19, NT .i64 k), (34, NT .i64 n), (35, NT .i64 i)]) (fun (i : Nat) => [matO B14 27 45 5 (FRow NumT (invP M n k i))]) 0 (Nat.zero_le _)
    (aQ rfl (aQ rfl (aQ rfl (aQ rfl (aQ rfl (aQ rfl (aQ rfl (aZ rfl (nt_of hxl) (aQ rfl aX))))))))) (HSub.refl _) (fun i hi => ?_)
   refine ts (ro rfl (op_lssN (Ht rfl) (Ht rfl)) (R_nil (cG (cY (Ht rfl) (fun hf2 => ?_) (fun hf2 => ?_)))))
   ·simp only [decide_eq_true_eq] at hf2
    have hpl := (invP_shp M n k i).1
    have hpr : ((invP M n k i).getD i []).length = n := (invP_shp M n k i).row hf2
    refine T_focus 0 (i) rfl (frow_get (by omega)) (fun v => (cK (cG (T_block (ts (rm rfl (ra rfl (R_nil (C.D_start (m := 9) (dp 4 rfl (cQ (Ht rfl)) (dp 9 rfl (cQ (Ht rfl)) (dqq 38 0 39 1 rfl (op_idxB U_28 Z_27 (Ht rfl) (Ht rfl) rfl (by omega) (by rw [Nat.mul_one, Nat.zero_add])) ?_))))))))))))
    refine dq 40 2 rfl (op_ldH A_27 Z_27 (Ht rfl) (j := 0) rfl) (dp 5 rfl (cQ (Ht rfl)) (dp 7 rfl (cQ (Ht rfl)) (dp 9 rfl (cQ (Ht rfl)) (dqq 43 5 44 6 rfl (dX U_27 Z_45 (Ht rfl) (Ht rfl) rfl (dU (dK (d := Qi.zero) (by omega)))) (dq 45 7 rfl (dZ A_45 Z_45 (Ht rfl)) (C.D_done mixed rfl (by kernel_rfl) (aJ (aJ (aJ (aJ (aJ (aJ (aJ (aJ (aJ (aV (ro rfl (op_idxO U_27 Z_45 (Ht rfl) (Ht rfl) rfl (i := 1) rfl (by rw [List.length_map]; omega) rfl) ?_)))))))))))))))))
    refine R_stO Z_45 (Ht rfl) (Ht rfl) (El.ag rfl) (i := 1) rfl rfl (by rw [List.length_map]; omega) rfl ?_
    refine R_nil (T_blk (T_unfocus 0 1 rfl rfl (by decide) (by simp only [FRow, List.length_map]; omega) ?_))
    refine cU (ro rfl (dJ (Ht rfl) (cZ 1) (by show _ < 9223372036854775808; first | omega | (simp only [lim]; omega))) (rm rfl (R_nil (T_keep [0] rfl (by decide) (T_again (i + 1) hf2 (by omega) (aQ rfl (aQ rfl (aQ rfl (aQ rfl (aQ rfl (aQ rfl (aQ rfl (aQ rfl (aQ rfl aX))))))))) (aK (matO_of (by rw [set_mapF, set_FRow, invP_next hf2 hd0])) aU))))))
   ·simp only [decide_eq_false_iff_not] at hf2
    obtain rfl : n = i := Nat.le_antisymm (by omega) hi
    refine T_exit rfl (T_blk (cU (ro rfl (dJ (Ht rfl) (cZ 1) (by show _ < 9223372036854775808; first | omega | (simp only [lim]; omega))) (rm rfl (R_nil ?_)))))
    refine T_again (k + 1) ⟨hd0, fun j h => by
     by_cases e : j = k
     ·rw [e]; exact he2
     ·exact h0 j (by omega)⟩ (by omega) (aQ rfl (aQ rfl (aQ rfl (aQ rfl (aQ rfl aX))))) (aK (matO_of (by rw [invP_col])) aU)
 ·simp only [decide_eq_false_iff_not] at hd0
  obtain rfl : n = k := Nat.le_antisymm (by omega) hk
  have hi := invE_zero h0
  refine T_freeze (i := 0) (tt := 4) rfl rfl (frz_matF (s := 5) (M := invP M n n 0) (invP_shp M n n 0).1.symm) (T_exit rfl (ts (rm rfl (ra rfl (ro rfl (bY (cZ 0)) (R_nil (T_ret2 rfl (rv_to (rv_tmp rfl) ?_) (rv_to (rv_tmp rfl) ?_))))))))
  ·exact (slT_of (by rw [hi, invP_fin]; rfl))
  ·exact (int_of hi.symm)
set_option maxRecDepth 20000 in
theorem c_sum1 {m : Bool} {a b : List (List Qi)} {n i j L M : Nat} (ha : Shp a n n) (hb : Shp b n n) (hfa : FitM a L) (hfb : FitM b M) (h1 : 1 ≤ L) (h2 : 1 ≤ M) (hg : L + M + 1 ≤ 17592186044415) (hi : i < n) (hj : j < n) : Fun Tryz.prog 198 [NT .i64 i, NT .i64 j, PT (BoolT m), PT (NumM a), PT (NumM b)] (NumT (if m = true then gm a i j - gm b i j else gm a i j + gm b i j)) := by
 have hal := ha.1
 have hbl := hb.1
 have har := ha.row hi
 have hbr := hb.row hi
 haveI f1 : FitC (gm a i j) L := hfa.get h1 i j
 haveI f2 : FitC (gm b i j) M := hfb.get h2 i j
 refine Fun.intro Tryz.func198 rfl Tryz.ntmps198 rfl (fun cx => (ts (rn rfl (new_alloc (Ts := [Is (.bool false), Is (.slice none 0 0), Is (.bool false), Is (.slice none 0 0), Is (.slice none 0 0)]) O_45 rfl (fun V => aW ⟨rfl, trivial⟩ (aW ⟨rfl, trivial⟩ (aW ⟨rfl, trivial⟩ (aW ⟨rfl, trivial⟩ (aW ⟨rfl, trivial⟩ (aG))))))) fun B7 => (R_nil (cG (ts (ro rfl (dZ A_4 Z_4 (Ht rfl)) (R_nil (cY (Ht rfl) (fun hm => ?_) (fun hm => ?_))))))))))
 ·refine cG (C.D_start (m := 15) (dp 3 rfl (dZ A_28 Z_28 (Ht rfl)) (dp 0 rfl (cQ (Ht rfl)) (dqq 9 0 10 1 rfl (dX U_28 Z_27 (Ht rfl) (Ht rfl) rfl (dU (dK (d := []) (by omega)))) (dq 11 2 rfl (dZ A_27 Z_27 (Ht rfl)) (dp 1 rfl (cQ (Ht rfl)) (dqq 12 3 13 4 rfl (dX U_27 Z_45 (Ht rfl) (Ht rfl) rfl (dU (dK (d := Qi.zero) (by omega)))) (dq 14 5 rfl (dZ A_45 Z_45 (Ht rfl)) (dq 15 6 rfl (op_iface mkif_45 (Ht rfl)) (dp 4 rfl (dZ A_28 Z_28 (Ht rfl)) ?_))))))))))
  refine dp 0 rfl (cQ (Ht rfl)) (dqq 17 8 18 9 rfl (dX U_28 Z_27 (Ht rfl) (Ht rfl) rfl (dU (dK (d := []) (by omega)))) (dq 19 10 rfl (dZ A_27 Z_27 (Ht rfl)) (dp 1 rfl (cQ (Ht rfl)) (dqq 20 11 21 12 rfl (dX U_27 Z_45 (Ht rfl) (Ht rfl) rfl (dU (dK (d := Qi.zero) (by omega)))) (dq 22 13 rfl (dZ A_45 Z_45 (Ht rfl)) (C.D_done mixed rfl (by kernel_rfl) (aJ (aJ (aJ (aJ (aJ (aJ (aJ (aJ (aJ (aJ (aJ (aJ (aJ (aJ (aJ (aV ?_))))))))))))))))))))))
  refine ro rfl (op_invoke meth_45_Sub Tryz.call66 (c_Sub (x := gm a i j) (y := gm b i j) (L := L) (M := M) hg) (Ht rfl) ⟨(Ht rfl), trivial⟩) (R_stA Z_45 (Ht rfl) (Ht rfl) rfl (i := 0) rfl (Nat.le_of_ble_eq_true rfl) rfl rfl (R_nil (T_ret1 rfl (rv_to (rv_cell A_45 Z_45 rfl (i := 0) rfl rfl) ?_))))
  exact (num_of (by rw [if_pos hm]))
 ·refine cK (cG (C.D_start (m := 15) (dp 3 rfl (dZ A_28 Z_28 (Ht rfl)) (dp 0 rfl (cQ (Ht rfl)) (dqq 25 0 26 1 rfl (dX U_28 Z_27 (Ht rfl) (Ht rfl) rfl (dU (dK (d := []) (by omega)))) (dq 27 2 rfl (dZ A_27 Z_27 (Ht rfl)) (dp 1 rfl (cQ (Ht rfl)) (dqq 28 3 29 4 rfl (dX U_27 Z_45 (Ht rfl) (Ht rfl) rfl (dU (dK (d := Qi.zero) (by omega)))) (dq 30 5 rfl (dZ A_45 Z_45 (Ht rfl)) (dq 31 6 rfl (op_iface mkif_45 (Ht rfl)) (dp 4 rfl (dZ A_28 Z_28 (Ht rfl)) ?_)))))))))))
  refine dp 0 rfl (cQ (Ht rfl)) (dqq 33 8 34 9 rfl (dX U_28 Z_27 (Ht rfl) (Ht rfl) rfl (dU (dK (d := []) (by omega)))) (dq 35 10 rfl (dZ A_27 Z_27 (Ht rfl)) (dp 1 rfl (cQ (Ht rfl)) (dqq 36 11 37 12 rfl (dX U_27 Z_45 (Ht rfl) (Ht rfl) rfl (dU (dK (d := Qi.zero) (by omega)))) (dq 38 13 rfl (dZ A_45 Z_45 (Ht rfl)) (C.D_done mixed rfl (by kernel_rfl) (aJ (aJ (aJ (aJ (aJ (aJ (aJ (aJ (aJ (aJ (aJ (aJ (aJ (aJ (aJ (aV ?_))))))))))))))))))))))
  refine ro rfl (op_invoke meth_45_Add Tryz.call68 (c_Add (x := gm a i j) (y := gm b i j) (L := L) (M := M) hg) (Ht rfl) ⟨(Ht rfl), trivial⟩) (R_stA Z_45 (Ht rfl) (Ht rfl) rfl (i := 0) rfl (Nat.le_of_ble_eq_true rfl) rfl rfl (R_nil (T_ret1 rfl (rv_to (rv_cell A_45 Z_45 rfl (i := 0) rfl rfl) ?_))))
  exact (num_of (by rw [if_neg (by rw [hm]; decide)]))
set_option maxRecDepth 20000 in
theorem c_sum {m : Bool} {a b : List (List Qi)} {n L M : Nat} (ha : Shp a n n) (hb : Shp b n n) (hfa : FitM a L) (hfb : FitM b M) (h1 : 1 ≤ L) (h2 : 1 ≤ M) (hg : L + M + 1 ≤ 17592186044415) (hn : n ≤ 1000) : Fun Tryz.prog 93 [NumM a, NumM b, BoolT m] (NumM (pmM m a b n)) := by
 have hal := ha.1
 refine Fun.intro Tryz.func93 rfl Tryz.ntmps93 rfl (fun cx => (ts (rn rfl (new_box1 (Ht rfl)) fun B3 => (rn rfl (new_box1 (Ht rfl)) fun B4 => (rn rfl (new_box1 (Ht rfl)) fun B5 => (ro rfl (bY cJ) (R_nil (cG (T_freeze (i := 0) (tt := 3) rfl rfl frz_ptr1 (T_freeze (i := 1) (tt := 4) rfl rfl frz_ptr1 (T_freeze (i := 2) (tt := 5) rfl rfl frz_ptr1 (cU (ro rfl (dZ A_28 Z_28 (Ht rfl)) (ro rfl (dW U_28 (Ht rfl) (by rw [List.length_map, hal])) ?_))))))))))))))
 refine ro rfl (op_clos (γ := Fin n × Fin n) (Ts := fun x => [NT .i64 x.1.1, NT .i64 x.2.1]) (U := fun x => NumT (if m = true then gm a x.1.1 x.2.1 - gm b x.1.1 x.2.1 else gm a x.1.1 x.2.1 + gm b x.1.1 x.2.1)) Tryz.call198 (fun x => c_sum1 ha hb hfa hfb h1 h2 hg x.1.2 x.2.2) ⟨(Ht rfl), (Ht rfl), (Ht rfl), trivial⟩) (ro rfl (cX Tryz.call119 (c_fill (n := n) (f := fun i j => if m = true then gm a i j - gm b i j else gm a i j + gm b i j) hn) ⟨(Ht rfl), (Ht rfl), trivial⟩) (ra rfl (R_nil ?_)))
 exact T_ret1 rfl (rv_tmp rfl)
set_option maxRecDepth 20000 in
theorem c_overE {Y M : List (List Qi)} {n L : Nat} (hM : Shp M n n) (hf : FitM M L) (hL : 1 ≤ L) (h1 : 1 ≤ n) (hn : n ≤ 32) (hg : 6 * grow L n + 4 ≤ 17592186044415) (hx : xgr (grow L n) (n + 1) ≤ 17592186044415) (hE : invE M n ≠ 0) : Fun Tryz.prog 92 [NumM Y, NumM M] (TupT [NumM [], IntT .i64 5]) := by
 refine Fun.intro Tryz.func92 rfl Tryz.ntmps92 rfl (fun cx => (ts (ro rfl (bY cJ) (ro rfl (bY (cZ 0)) (R_nil (ts (rm rfl (ro rfl (cX Tryz.call197 (c_Inv hM hf hL h1 hn hg hx) ⟨(Ht rfl), trivial⟩) (rm rfl (ro rfl (dG (Ht rfl) rfl) (ro rfl (dG (Ht rfl) rfl) (ra rfl (ra rfl (R_nil (cG (ts (rm rfl (ro rfl (op_neq (Ht rfl) cJ) (R_nil (T_condT (Ht rfl) (by simp [hE]) ?_))))))))))))))))))))
 refine ts (ro rfl (bY cJ) (ro rfl (bY (cZ 5)) (R_nil (T_ret2 rfl (rv_to (rv_tmp rfl) ?_) (rv_tmp rfl)))))
 exact (fun v V h => nil_slT v V h)
set_option maxRecDepth 20000 in
theorem c_ImpE {z : List Qi} {s : List (List Qi)} {L : Nat} (hs : Shp s z.length z.length) (hf : FitM s L) (hL : 1 ≤ L) (h1 : 1 ≤ z.length) (hn : z.length ≤ 8) (hg : 6 * grow (L + 2) z.length + 4 ≤ 17592186044415) (hx : xgr (grow (L + 2) z.length) (z.length + 1) ≤ 17592186044415) (hE : invE (pmM true (idM z.length) s z.length) z.length ≠ 0) : Fun Tryz.prog 17 [NetT z s] (TupT [NumM [], IntT .i64 5]) := by
 have hgl := grow_le (L + 2) z.length
 have hid := idM_shp z.length
 have hif : FitM (idM z.length) 1 := idM_fit (Nat.le_refl 1)
 have hpf : FitM (pmM true (idM z.length) s z.length) (L + 2) := by have h := pmM_fit (m := true) (n := z.length) hif hf (Nat.le_refl 1) hL; rw [show L + 2 = 1 + L + 1 by omega]; exact h
 refine Fun.intro Tryz.func17 rfl Tryz.ntmps17 rfl (fun cx => (ts (rn rfl (new_box (Ht rfl)) fun B1 => (ro rfl (bY cJ) (ro rfl (bY (cZ 0)) (R_nil (ts (ro rfl (op_fldB fa_30_0 (Ht rfl) rfl) (ro rfl (op_ldB A_27 Z_27 (Ht rfl) (i := 0) rfl rfl) (ro rfl (dW U_27 (Ht rfl) len_map) (ro rfl (cX K_91 (c_Id (n := z.length) (by omega)) ⟨(Ht rfl), trivial⟩) (ra rfl (R_nil (cG (C.D_start (m := 13) (dp 4 rfl (cQ (Ht rfl)) (dp 1 rfl (op_fldB fa_30_1 (Ht rfl) rfl) (dq 13 1 rfl (op_ldB A_28 Z_28 (Ht rfl) (i := 0) rfl rfl) ?_))))))))))))))))))
 refine dqq 12 0 14 2 rfl (cX K_93 (c_sum (m := false) (n := z.length) (L := 1) (M := L) hid hs hif hf (Nat.le_refl 1) hL (by omega) (by omega)) ⟨(Ht rfl), (Ht rfl), cJ, trivial⟩) (dp 4 rfl (cQ (Ht rfl)) (dp 1 rfl (op_fldB fa_30_1 (Ht rfl) rfl) (dq 17 5 rfl (op_ldB A_28 Z_28 (Ht rfl) (i := 0) rfl rfl) (dqq 16 4 18 6 rfl (cX K_93 (c_sum (m := true) (n := z.length) (L := 1) (M := L) hid hs hif hf (Nat.le_refl 1) hL (by omega) (by omega)) ⟨(Ht rfl), (Ht rfl), cJ, trivial⟩) (dqq 15 3 19 7 rfl (cX Tryz.call92 (c_overE (n := z.length) (L := L + 2) pmM_shp hpf (by omega) h1 (by omega) hg hx hE) ⟨(Ht rfl), (Ht rfl), trivial⟩) ?_)))))
 refine dq 20 8 rfl (cQ (Ht rfl)) (dq 11 9 rfl (dG (Ht rfl) rfl) (dq 11 9 rfl (dG (Ht rfl) rfl) (dq 21 10 rfl (bY (Ht rfl)) (C.D_done mixed rfl (by kernel_rfl) (aJ (aJ (aJ (aJ (aJ (aJ (aJ (aJ (aJ (aJ (aJ (aJ (aJ (aV (ra rfl (R_nil (cG (ts (rm rfl (ro rfl (op_neq (Ht rfl) cJ) (R_nil (T_condT (Ht rfl) (by rfl) ?_))))))))))))))))))))))))))
 refine ts (rm rfl (ro rfl (bY cJ) (ra rfl (R_nil (T_ret2 rfl (rv_to (rv_tmp rfl) ?_) (rv_tmp rfl))))))
 exact (fun v V h => nil_slT v V h)
end
section
open Go Go.RowKit
section
variable {P : Program} {R : Post} {cx : Cx} {n : Nat} {k : List It} {E : Env} {H : Hp}
theorem T_frzcellG (i l off : Nat) {B : Nat} {BT : TypeId} {Us : List Ty} {v : Value} {A : SA} {T : Ty} (hB : H[i]? = some (box B BT Us)) (hU : Us[off]? = some (Is v)) (hL : H[l]? = some A) (hne : i ≠ l) (hT : ∀ S V, A.h S V V → T.p v V)
    (h : Tr P R cx n k E ((H.set l SA.emp).set i (box B BT (Us.set off T)))) : Tr P R cx n k E H := fun a w ⟨V, hi, hs⟩ => by
  obtain ⟨V', S, hle, hi', hA⟩ := hi.freeze hL
  have hT := hT S V' hA
  refine h a w ⟨V', hi'.withHH ?_, hs.mono hle⟩
  obtain ⟨F, h1, h2⟩ := hi'.hp
  have hB' : (H.set l SA.emp)[i]? = some (box B BT Us) := by rw [List.getElem?_set_ne (Ne.symm hne)]; exact hB
  have hil := (List.getElem?_eq_some_iff.1 hB').1
  refine ⟨F, fun q A hq => ?_, fun q r b hq hr => h2 q r b (by simpa using hq) (by simpa using hr)⟩
  by_cases c : i = q
  · subst c
    rw [List.getElem?_set_self hil] at hq
    obtain rfl := Option.some.inj hq
    obtain ⟨⟨k1, cs, k2, k3⟩, k4⟩ := h1 i _ hB'
    obtain ⟨u, u1, u2⟩ := k3.get hU
    obtain rfl : u = v := u2
    have hset : cs.set off u = cs := by
      apply List.ext_getElem?
      intro j
      by_cases cj : off = j
      · subst cj; rw [List.getElem?_set_self (List.getElem?_eq_some_iff.1 u1).1, u1]
      · rw [List.getElem?_set_ne cj]
    refine ⟨⟨k1, cs, k2, ?_⟩, k4⟩
    have := k3.set off (v := u) hT (k3.pl u (List.mem_of_getElem? u1))
    rwa [hset] at this
  · rw [List.getElem?_set_ne c] at hq
    exact h1 q A hq
theorem frzM {B e l : Nat} {BT : TypeId} {F : Qi → Ty} {q : Value → Prop} {M : List (List Qi)} (hl : l = M.length) : ∀ S V, (matP q B BT e 5 (FRow F M)).h S V V → (SlT 1 (M.map fun r => SlT 5 (r.map F))).p (.slice (some ⟨B, 0, none⟩) l l) V := fun S V h =>
  frz_matF (s := 5) (M := M) hl _ S V rfl h
end
def skp (p i : Nat) : Nat := if i < p then i else i + 1
abbrev IntsT (l : List Nat) : Ty := SlT 1 (l.map (NT .i64))
def lftL (p n : Nat) : List Nat := tab n fun j => skp p j + 1
def cnt (p i : Nat) : Nat := if i ≤ p then i else i - 1
theorem cnt_fin {p n : Nat} (h : p < n) : cnt p n = n - 1 := by unfold cnt; split <;> omega
theorem skp_lt {p i n : Nat} (h : i < n - 1) (hp : p < n) : skp p i < n := by unfold skp; split <;> omega
theorem lft_get {p n j : Nat} (h : j < n) : (lftL p n)[j]? = some (skp p j + 1) := tab_get h
def prtZ (z : List Qi) (p m : Nat) : List Qi := tab m fun i => gv z (skp p i)
def prtS (s : List (List Qi)) (p m : Nat) : List (List Qi) := tab m fun i => tab m fun j => gm s (skp p i) (skp p j)
def trmX (s : List (List Qi)) (p : Nat) (f : Qi) (i j : Nat) : Qi := gm s (skp p i) (skp p j) + gm s (skp p i) p * (f * gm s p (skp p j))
def trmS (s : List (List Qi)) (p m : Nat) (f : Qi) : List (List Qi) := tab m fun i => tab m fun j => trmX s p f i j
def trmF (s : List (List Qi)) (p : Nat) (g : Qi) : Qi := g / (Qi.ofInt 1 - gm s p p * g)
def trmE (z : List Qi) (s : List (List Qi)) (port : Int) (g : Qi) : Int :=
  if ¬ (1 ≤ port ∧ port ≤ z.length) then 1 else if z.length = 1 then 4 else if Qi.ofInt 1 - gm s (port - 1).toNat (port - 1).toNat * g = Qi.zero then 6 else 0
def trmRZ (z : List Qi) (s : List (List Qi)) (port : Int) (g : Qi) : List Qi := okL (trmE z s port g) (prtZ z (port - 1).toNat (z.length - 1))
def trmRS (z : List Qi) (s : List (List Qi)) (port : Int) (g : Qi) : List (List Qi) := okL (trmE z s port g) (trmS s (port - 1).toNat (z.length - 1) (trmF s (port - 1).toNat g))
theorem trm_bad {z : List Qi} {s : List (List Qi)} {port : Int} {g : Qi} {e : Int} (h : trmE z s port g = e) (he : e ≠ 0) : ∀ v V, (NetT [] []).p v V → (NetT (trmRZ z s port g) (trmRS z s port g)).p v V := by
  rw [trmRZ, trmRS, okL, okL, h, if_neg he, if_neg he]; exact fun _ _ k => k
theorem trm_p (p : Nat) : ((p : Int) + 1 - 1).toNat = p := by omega
theorem trm_good {z : List Qi} {s : List (List Qi)} {p : Nat} {g : Qi} (h : trmE z s ((p : Int) + 1) g = 0) : ∀ v V, (NetT (prtZ z p (z.length - 1)) (trmS s p (z.length - 1) (trmF s p g))).p v V → (NetT (trmRZ z s ((p : Int) + 1) g) (trmRS z s ((p : Int) + 1) g)).p v V := by
  rw [trmRZ, trmRS, okL, okL, h, if_pos rfl, if_pos rfl, trm_p]; exact fun _ _ k => k
theorem trmE_1 {z : List Qi} {s : List (List Qi)} {port : Int} {g : Qi} (h : ¬ (1 ≤ port ∧ port ≤ z.length)) : trmE z s port g = 1 := by rw [trmE, if_pos h]
theorem trmE_4 {z : List Qi} {s : List (List Qi)} {port : Int} {g : Qi} (h : 1 ≤ port ∧ port ≤ z.length) (h1 : z.length = 1) : trmE z s port g = 4 := by rw [trmE, if_neg (fun k => k h), if_pos h1]
theorem trmE_d {z : List Qi} {s : List (List Qi)} {p : Nat} {g : Qi} (h : p < z.length) (h1 : ¬ z.length = 1) : trmE z s ((p : Int) + 1) g = if Qi.ofInt 1 - gm s p p * g = Qi.zero then 6 else 0 := by
  rw [trmE, if_neg (fun k => k (by omega)), if_neg h1, trm_p]
theorem trmF_fit {s : List (List Qi)} {p L : Nat} {g : Qi} (hs : FitM s L) (hg : FitC g L) (hL : 1 ≤ L) (hd : Qi.ofInt 1 - gm s p p * g ≠ Qi.zero) : FitC (trmF s p g) (7 * L + 11) := by
  haveI f0 := fit_one
  haveI f1 := hs.get hL p p
  haveI f2 := hg
  have f3 : FitC (Qi.ofInt 1 - gm s p p * g) (1 + (L + L + 1) + 1) := @fitSub _ _ _ _ f0 inferInstance
  have : FitC (trmF s p g) (L + 3 * (1 + (L + L + 1) + 1) + 2) := ⟨f2.fit.div f3.fit hd⟩
  exact this.le (by omega)
end
section
open Go Go.RowKit
abbrev gnI (G : List Nat) : List Int := G.map fun (q : Nat) => (q : Int) + 1
def lfG (G : List Nat) : Nat → List Nat
  | 0 => []
  | k + 1 => lfG G k ++ (if k ∈ G then [] else [k])
theorem lfG_len (G : List Nat) : ∀ k, (lfG G k).length ≤ k
  | 0 => Nat.le_refl _
  | k + 1 => by
    have := lfG_len G k
    simp only [lfG, List.length_append]
    split
    · simp; omega
    · simp; omega
theorem lfG_one {p : Nat} : ∀ {k : Nat}, lfG [p] k = tab (cnt p k) (skp p)
  | 0 => by rw [lfG, show cnt p 0 = 0 by unfold cnt; split <;> omega]; rfl
  | k + 1 => by
    rw [lfG, lfG_one]
    by_cases c : k = p
    · subst c
      rw [if_pos (by simp), List.append_nil, show cnt k (k + 1) = cnt k k by unfold cnt; split <;> split <;> omega]
    · rw [if_neg (by simpa using c)]
      have e1 : skp p (cnt p k) = k := by unfold skp cnt; split <;> split <;> omega
      have e2 : cnt p (k + 1) = cnt p k + 1 := by unfold cnt; split <;> split <;> omega
      rw [e2, tab_succ, e1]
theorem lfG_lft {p n : Nat} (h : p < n) : (lfG [p] n).map Nat.succ = lftL p (n - 1) := by rw [lfG_one, cnt_fin h, tab_map]; rfl
theorem gn_any {G : List Nat} {i : Nat} : ((gnI G).any fun x => decide (((i + 1 : Nat) : Int) = x)) = decide (i ∈ G) := by
  rw [Bool.eq_iff_iff]
  simp only [gnI, List.any_map, List.any_eq_true, Function.comp, decide_eq_true_eq]
  constructor
  · rintro ⟨q, h1, h2⟩
    obtain rfl : i = q := by omega
    exact h1
  · intro h; exact ⟨i, h, by omega⟩
abbrev qat (Q : List Nat) (i : Nat) : Nat := Q.getD i 0
def subZ (z : List Qi) (Q : List Nat) : List Qi := tab Q.length fun i => gv z (qat Q i)
def subM (s : List (List Qi)) (Q : List Nat) : List (List Qi) := tab Q.length fun i => tab Q.length fun j => gm s (qat Q i) (qat Q j)
theorem qat_lt {Q : List Nat} {n i : Nat} (h : ∀ x, x ∈ Q → x < n) (hi : i < Q.length) : qat Q i < n := h _ (by rw [show qat Q i = Q[i] by simp [qat, List.getD, hi]]; exact List.getElem_mem hi)
theorem suc_get {Q : List Nat} {i : Nat} (h : i < Q.length) : (Q.map Nat.succ)[i]? = some (qat Q i + 1) := by simp [qat, List.getD, h]
theorem tabQ_get {m i : Nat} {p : Nat} (h : i < m) : qat (tab m (skp p)) i = skp p i := tab_getD h
theorem subZ_skp (z : List Qi) (p m : Nat) : subZ z (tab m (skp p)) = prtZ z p m := by
  rw [subZ, tab_len]; exact tab_congr fun i hi => by rw [tabQ_get hi]
theorem subM_skp (s : List (List Qi)) (p m : Nat) : subM s (tab m (skp p)) = prtS s p m := by
  rw [subM, tab_len]; exact tab_congr fun i hi => tab_congr fun j hj => by rw [tabQ_get hi, tabQ_get hj]
theorem skp_all {p m n : Nat} (hp : p < n) (hm : m = n - 1) : ∀ x, x ∈ tab m (skp p) → x < n := fun x hx => by
  obtain ⟨i, hi, rfl⟩ := tab_mem.1 hx; exact skp_lt (by omega) hp
theorem lft_skp (p m : Nat) : (tab m (skp p)).map Nat.succ = lftL p m := by rw [tab_map]; rfl
end
section
open Go Go.RowKit
theorem info_3 : Tryz.prog.info? 3 = some Tryz.t3 := by kernel_rfl
theorem und_69 : Tryz.prog.underlying 69 = some (.slice 3) := by kernel_rfl
end
section
open Go Go.RowKit
set_option maxRecDepth 20000 in
theorem c_IndexInt {l : List Int} {v : Int} (hl : l.length ≤ 1000000) : Fun Tryz.prog 242 [SlT 1 (l.map (IntT .i64)), IntT .i64 v] (IntT .i64 (idxZ (fun x => decide (v = x)) l)) := by
 refine Fun.intro Tryz.func242 rfl Tryz.ntmps242 rfl (fun cx => (ts (ro rfl (bY (cZ 0)) (R_nil (cG (ts (rm rfl (ro rfl (dW U_69 (Ht rfl) len_map) (ro rfl (cQ (cZ 0)) (R_nil (T_block ?_)))))))))))
 refine T_loop (fun (k : Nat) => k ≤ l.length ∧ ∀ (i : Nat) (x : Int), i < k → l[i]? = some x → decide (v = x) = false) (fun (k : Nat) => l.length - k) (fun (k : Nat) => [(0, SlT 1 (l.map (IntT .i64))), (1, IntT .i64 v), (7, NT .i64 l.length), (8, NT .i64 k)]) (fun (k : Nat) => []) 0 ⟨Nat.zero_le _, fun i x h => by omega⟩
  (aQ rfl (aQ rfl (aQ rfl (aQ rfl aX)))) aU (fun k ⟨hk, hn⟩ => ?_)
 refine ts (ro rfl (op_lssN (Ht rfl) (Ht rfl)) (R_nil (cG (cY (Ht rfl) (fun hb => ?_) (fun hb => ?_)))))
 ·simp only [decide_eq_true_eq] at hb
  refine cK (cG (T_block (ts (rm rfl (ra rfl (R_nil (ts (rm rfl (rm rfl (rm rfl (ro rfl (dX U_69 Z_3 (Ht rfl) (Ht rfl) rfl (dU (getq hb))) (ro rfl (dZ A_3 Z_3 (Ht rfl)) (ro rfl (op_eql (Ht rfl) (Ht rfl)) (R_nil (cY (Ht rfl) (fun hc => ?_) (fun hc => ?_))))))))))))))))
  ·refine ts (rm rfl (ra rfl (R_nil (T_ret1 rfl (rv_to (rv_tmp rfl) ?_)))))
   exact (int_of (idxZ_at (p := fun x => decide (v = x)) (getq hb) hc hn).symm)
  ·refine cK (T_blk (cU (ro rfl (dJ (Ht rfl) (cZ 1) (by show _ < 9223372036854775808; first | omega | (simp only [lim]; omega))) (rm rfl (R_nil ?_)))))
   refine T_again (k + 1) ⟨hb, fun i x h1 h2 => by
    by_cases e : i = k
    ·subst e; rw [getq hb] at h2; obtain rfl := Option.some.inj h2; exact hc
    ·exact hn i x (by omega) h2⟩ (by omega) (aQ rfl (aQ rfl (aQ rfl (aQ rfl aX)))) aU
 ·simp only [decide_eq_false_iff_not] at hb
  refine T_exit rfl (ts (ro rfl (bY cJ) (R_nil (T_ret1 rfl (rv_to (rv_tmp rfl) ?_)))))
  exact (int_of (idxZ_none (p := fun x => decide (v = x)) (fun i x h => hn i x (by have := (List.getElem?_eq_some_iff.1 h).1; omega) h)).symm)
set_option maxRecDepth 20000 in
theorem c_ContainsInt {l : List Int} {v : Int} (hl : l.length ≤ 1000000) : Fun Tryz.prog 178 [SlT 1 (l.map (IntT .i64)), IntT .i64 v] (BoolT (l.any fun x => decide (v = x))) := by
 refine Fun.intro Tryz.func178 rfl Tryz.ntmps178 rfl (fun cx => (ts (ro rfl (bY cJ) (R_nil (ts (rm rfl (rm rfl (ro rfl (cX Tryz.call242 (c_IndexInt (by omega)) ⟨(Ht rfl), (Ht rfl), trivial⟩) (ro rfl (op_geq (Ht rfl) cJ) (ra rfl (R_nil (T_ret1 rfl (rv_to (rv_tmp rfl) ?_)))))))))))))
 exact (bool_of (idxZ_any _ l))
set_option maxRecDepth 20000 in
theorem c_leftG {z : List Qi} {s : List (List Qi)} {G : List Nat} (hl : z.length ≤ 1000) (hG : G.length ≤ 1000) : Fun Tryz.prog 112 [NetT z s, SlT 1 ((gnI G).map (IntT .i64))] (IntsT ((lfG G z.length).map Nat.succ)) := by
 refine Fun.intro Tryz.func112 rfl Tryz.ntmps112 rfl (fun cx => (ts (rn rfl (new_box (Ht rfl)) fun B2 => (ro rfl (bY cJ) (R_nil (ts (ro rfl (bY cJ) (R_nil (cG (ts (ro rfl (bY (cZ 1)) (R_nil (T_block (T_row 3 1 ?_))))))))))))))
 refine T_loop2 (fun (i : Nat) (v : Value) => i ≤ z.length) (fun (i : Nat) (v : Value) => z.length - i) (fun (i : Nat) (v : Value) => [(1, SlT 1 ((gnI G).map (IntT .i64))), (2, PtrB B2 0), (5, Is v), (6, NT .i64 (i + 1))]) (fun (i : Nat) (v : Value) => [box B2 30 [NumsT z, NumM s], rowO 3 1 v (((lfG G i).map Nat.succ).map (NT .i64))]) 0 (.slice none 0 0) (Nat.zero_le _)
  (aQ rfl (aQ rfl (aQ rfl (aQ rfl aX)))) (aK (box_of rfl) (aK (rowO_of rfl) aU)) (fun i v hi => ?_)
 refine cG (ts (rm rfl (ro rfl (op_fldB fa_30_0 (Ht rfl) rfl) (ro rfl (op_ldB A_27 Z_27 (Ht rfl) (i := 0) rfl rfl) (ro rfl (dW U_27 (Ht rfl) len_map) (ro rfl (op_leqN (Ht rfl) (Ht rfl)) (R_nil (cY (Ht rfl) (fun hd => ?_) (fun hd => ?_)))))))))
 ·simp only [decide_eq_true_eq] at hd
  have hcl := lfG_len G i
  refine cK (cG (T_block (T_join (fun (v2 : Value) => True) (fun (v2 : Value) => [(1, SlT 1 ((gnI G).map (IntT .i64))), (2, PtrB B2 0), (5, Is v2), (6, NT .i64 (i + 1))]) (fun (v2 : Value) => [box B2 30 [NumsT z, NumM s], rowO 3 1 v2 (((lfG G (i + 1)).map Nat.succ).map (NT .i64))]) ?_ (fun v2 _ => ?_))))
  ·refine ts (rm rfl (rm rfl (ro rfl (cX Tryz.call178 (c_ContainsInt (l := gnI G) (v := ((i + 1 : Nat) : Int)) (by rw [List.length_map]; omega)) ⟨(Ht rfl), (Ht rfl), trivial⟩) ?_)))
   refine ro rfl (op_not (Ht rfl)) (R_nil (cY (Ht rfl) (fun he => ?_) (fun he => ?_)))
   ·rw [gn_any] at he
    have he2 : i ∉ G := by simpa using he
    have hnx : lfG G (i + 1) = lfG G i ++ [i] := by rw [lfG, if_neg he2]
    refine cU (rm rfl (rm rfl (ro rfl (op_bslice (xs := [.tmp 19]) U_69 Z_3 Tryz.zeroValue3 (cV (Ht rfl) cW) rfl rfl rfl) (R_append (inf := Tryz.t3) und_69 info_3 rfl rfl rfl (Ht rfl) (Ht rfl) (i := 1) rfl (by simp) (fun T hT => by simp at hT; subst hT; exact El.one) (by show _ * 8 ≤ _; simp only [List.length_map, List.length_cons, List.length_nil]; omega) (by simp only [List.length_map, List.length_cons, List.length_nil]; omega) rfl (fun v3 => ?_)))))
    refine ra rfl (R_nil (T_joined v3 trivial (aQ rfl (aQ rfl (aQ rfl (aQ rfl aX)))) (aK (box_of rfl) (aK (rowO_of (by rw [hnx, List.map_append, List.map_append]; rfl)) aU))))
   ·rw [gn_any] at he
    have he2 : i ∈ G := by simpa using he
    have hnx : lfG G (i + 1) = lfG G i := by rw [lfG, if_pos he2, List.append_nil]
    refine cK (T_joined v trivial (aQ rfl (aQ rfl (aQ rfl (aQ rfl aX)))) (aK (box_of rfl) (aK (rowO_of (by rw [hnx])) aU)))
  ·refine T_blk (cU (rm rfl (ro rfl (dJ (Ht rfl) (cZ 1) (by show _ < 9223372036854775808; first | omega | (simp only [lim]; omega))) (ra rfl (R_nil (T_again (i + 1, v2) hd (by dsimp only; omega) (aQ rfl (aQ rfl (aQ rfl (aQ rfl aX)))) (HSub.refl _)))))))
 ·simp only [decide_eq_false_iff_not] at hd
  obtain rfl : z.length = i := Nat.le_antisymm (by omega) hi
  refine T_exit rfl (T_freeze (i := 1) (tt := 5) rfl rfl frz_row (ts (rm rfl (ra rfl (R_nil ?_)))))
  exact T_ret1 rfl (rv_tmp rfl)
theorem c_left {z : List Qi} {s : List (List Qi)} {p : Nat} (hp : p < z.length) (hl : z.length ≤ 1000) : Fun Tryz.prog 112 [NetT z s, SlT 1 [IntT .i64 ((p : Int) + 1)]] (IntsT (lftL p (z.length - 1))) := by
  rw [← lfG_lft hp]; exact c_leftG (G := [p]) hl (by simp)
set_option maxRecDepth 20000 in
theorem c_part1 {z : List Qi} {s : List (List Qi)} {Q : List Nat} {m : Nat} (hs : Shp s z.length z.length) (hQ : ∀ x, x ∈ Q → x < z.length) (hm : Q.length = m) (hm2 : m ≤ 1000) (hl : z.length ≤ 1000) {i j : Nat} (hi : i < m) (hj : j < m) : Fun Tryz.prog 210 [NT .i64 i, NT .i64 j, PT (NetT z s), PT (IntsT (Q.map Nat.succ))] (NumT (gm s (qat Q i) (qat Q j))) := by
 have hki : qat Q i < z.length := qat_lt hQ (by omega)
 have hkj : qat Q j < z.length := qat_lt hQ (by omega)
 have hsl := hs.1
 have hsr := hs.row hki
 refine Fun.intro Tryz.func210 rfl Tryz.ntmps210 rfl (fun cx => (ts (rn rfl (new_alloc (Ts := [Is (.bool false), Is (.slice none 0 0), Is (.bool false), Is (.slice none 0 0), Is (.slice none 0 0)]) O_45 rfl (fun V => aW ⟨rfl, trivial⟩ (aW ⟨rfl, trivial⟩ (aW ⟨rfl, trivial⟩ (aW ⟨rfl, trivial⟩ (aW ⟨rfl, trivial⟩ (aG))))))) fun B6 => (R_nil (cG (C.D_start (m := 14) (dp 2 rfl (op_fld1 fa_30_1 (Ht rfl) rfl) (dq 7 0 rfl (dZ A_28 Z_28 (Ht rfl)) (dp 3 rfl (dZ A_69 Z_69 (Ht rfl)) (dp 0 rfl (cQ (Ht rfl)) ?_))))))))))
 refine dqq 9 2 10 3 rfl (dX U_69 Z_3 (Ht rfl) (Ht rfl) rfl (dU (suc_get (by omega)))) (dq 11 4 rfl (dZ A_3 Z_3 (Ht rfl)) (dq 12 5 rfl (OpTy.nat (dV (Ht rfl) (cZ 1) (by omega) (by show _ < 9223372036854775808; first | omega | (simp only [lim]; omega))) (show qat Q i + 1 - 1 = qat Q i by omega)) (dqq 8 1 13 6 rfl (dX U_28 Z_27 (Ht rfl) (Ht rfl) rfl (dU (dK (d := []) (by omega)))) (dq 14 7 rfl (dZ A_27 Z_27 (Ht rfl)) (dp 3 rfl (dZ A_69 Z_69 (Ht rfl)) ?_)))))
 refine dp 1 rfl (cQ (Ht rfl)) (dqq 16 9 17 10 rfl (dX U_69 Z_3 (Ht rfl) (Ht rfl) rfl (dU (suc_get (by omega)))) (dq 18 11 rfl (dZ A_3 Z_3 (Ht rfl)) (dq 19 12 rfl (OpTy.nat (dV (Ht rfl) (cZ 1) (by omega) (by show _ < 9223372036854775808; first | omega | (simp only [lim]; omega))) (show qat Q j + 1 - 1 = qat Q j by omega)) (C.D_done mixed rfl (by kernel_rfl) (aJ (aJ (aJ (aJ (aJ (aJ (aJ (aJ (aJ (aJ (aJ (aJ (aJ (aJ (aV (ro rfl (dX U_27 Z_45 (Ht rfl) (Ht rfl) rfl (dU (dK (d := Qi.zero) (by omega)))) ?_))))))))))))))))))))
 refine ro rfl (dZ A_45 Z_45 (Ht rfl)) (R_stA Z_45 (Ht rfl) (Ht rfl) rfl (i := 0) rfl (Nat.le_of_ble_eq_true rfl) rfl rfl (R_nil ?_))
 exact T_ret1 rfl (rv_cell A_45 Z_45 rfl (i := 0) rfl rfl)
set_option maxRecDepth 20000 in
theorem c_partG {z : List Qi} {s : List (List Qi)} {Q : List Nat} {m : Nat} (hs : Shp s z.length z.length) (hQ : ∀ x, x ∈ Q → x < z.length) (hm : Q.length = m) (hm2 : m ≤ 1000) (hl : z.length ≤ 1000) : FunO Tryz.prog 111 [NetT z s, IntsT (Q.map Nat.succ)] [] (Nat) (fun B => AggT [NumsT (subZ z Q), Is (.slice (some ⟨B, 0, none⟩) m m)]) (fun B => [matO B 27 45 5 (FRow NumT (subM s Q))]) (fun _ => True) := by
 have hll : (Q.map Nat.succ).length = m := by rw [List.length_map]; exact hm
 refine FunO.intro Tryz.func111 rfl Tryz.ntmps111 rfl (fun cx Z => (ts (rn rfl (new_box (Ht rfl)) fun B2 => (rn rfl (new_box1 (Ht rfl)) fun B3 => (rn rfl (new_alloc (Ts := [Is (.slice none 0 0), Is (.slice none 0 0)]) O_30 rfl (fun V => aW ⟨rfl, trivial⟩ (aW ⟨rfl, trivial⟩ (aG)))) fun B4 => (R_nil (cG (T_freeze (i := 1) (tt := 2) rfl rfl frz_ptr (T_freeze (i := 2) (tt := 3) rfl rfl frz_ptr1 (cU (ro rfl (dZ A_69 Z_69 (Ht rfl)) (ro rfl (dW U_69 (Ht rfl) (by rw [List.length_map, hll])) ?_))))))))))))
 refine rn rfl (new_makeO (T := NumT Qi.zero) (i := Tryz.t45) und_27 info_45 rfl rfl (Ht rfl) rfl num_zero_p (El.ag rfl) (by show 88 * _ ≤ _; omega) (by omega)) fun B10 => ra rfl (R_nil (cG (ts (ro rfl (dZ A_69 Z_69 (Ht rfl)) (ro rfl (dW U_69 (Ht rfl) (by rw [List.length_map, hll])) ?_)))))
 refine ro rfl (cQ (cZ 0)) (R_nil (T_block (T_keep [0, 3, 4] rfl (by decide) ?_)))
 refine T_loop (fun (i : Nat) => i ≤ m) (fun (i : Nat) => m - i) (fun (i : Nat) => [(2, PT (NetT z s)), (3, PT (IntsT (Q.map Nat.succ))), (4, PtrB B4 0), (5, Is B10), (11, IntsT (Q.map Nat.succ)), (12, NT .i64 m), (13, NT .i64 i)]) (fun (i : Nat) => [Z, box B4 30 [Is (.slice none 0 0), Is (.slice none 0 0)], rowO 45 5 B10 ((mixT (fun i => gv z (qat Q i)) Qi.zero m i).map NumT)]) 0 (Nat.zero_le _)
  (aQ rfl (aQ rfl (aQ rfl (aQ rfl (aQ rfl (aQ rfl (aQ rfl aX))))))) (aK (fun _ _ _ h => h) (aK (fun _ _ _ h => h) (aK (rowO_of (by rw [← mix_zero]; exact tab_rep NumT m)) aU))) (fun i hi => ?_)
 refine ts (ro rfl (op_lssN (Ht rfl) (Ht rfl)) (R_nil (cG (cY (Ht rfl) (fun hd => ?_) (fun hd => ?_)))))
 ·simp only [decide_eq_true_eq] at hd
  have hki : qat Q i < z.length := qat_lt hQ (by omega)
  refine cK (cG (T_block (ts (rm rfl (ro rfl (dX U_69 Z_3 (Ht rfl) (Ht rfl) rfl (dU (suc_get (by omega)))) (ro rfl (dZ A_3 Z_3 (Ht rfl)) (ra rfl (ra rfl (R_nil (cU (rm rfl (rm rfl (ro rfl (op_fld1 fa_30_0 (Ht rfl) rfl) (ro rfl (dZ A_27 Z_27 (Ht rfl)) (rm rfl (ro rfl (OpTy.nat (dV (Ht rfl) (cZ 1) (by omega) (by show _ < 9223372036854775808; first | omega | (simp only [lim]; omega))) (show qat Q i + 1 - 1 = qat Q i by omega)) (ro rfl (dX U_27 Z_45 (Ht rfl) (Ht rfl) rfl (dU (dK (d := Qi.zero) hki))) ?_)))))))))))))))))
  refine ro rfl (dZ A_45 Z_45 (Ht rfl)) (ro rfl (op_idxO U_27 Z_45 (Ht rfl) (Ht rfl) rfl (i := 2) rfl (by rw [List.length_map, mix_len]; omega) rfl) ?_)
  refine R_stO Z_45 (Ht rfl) (Ht rfl) (El.ag rfl) (i := 2) rfl rfl (by rw [List.length_map, mix_len]; omega) rfl ?_
  refine R_nil (T_blk (cU (ro rfl (dJ (Ht rfl) (cZ 1) (by show _ < 9223372036854775808; first | omega | (simp only [lim]; omega))) (rm rfl (R_nil (T_again (i + 1) hd (by omega) (aQ rfl (aQ rfl (aQ rfl (aQ rfl (aQ rfl (aQ rfl (aQ rfl aX))))))) (aK (fun _ _ _ h => h) (aK (fun _ _ _ h => h) (aK (rowO_of (by rw [set_mapF, ← mix_set (f := (fun i => gv z (qat Q i)))])) aU)))))))))
 ·simp only [decide_eq_false_iff_not] at hd
  obtain rfl : m = i := Nat.le_antisymm (by omega) hi
  rw [mix_fin]
  refine T_exit rfl (T_freeze (i := 2) (tt := 5) rfl rfl frz_row ?_)
  rw [show subZ z Q = tab m fun i => gv z (qat Q i) from by rw [subZ, hm], show subM s Q = tab m fun i => tab m fun j => gm s (qat Q i) (qat Q j) from by rw [subM, hm]]
  refine ts (rm rfl (ro rfl (dZ A_69 Z_69 (Ht rfl)) (ro rfl (dW U_69 (Ht rfl) (by rw [List.length_map, hll])) ?_)))
  refine ro rfl (op_clos (γ := Fin m × Fin m) (Ts := fun x => [NT .i64 x.1.1, NT .i64 x.2.1]) (U := fun x => NumT (gm s (qat Q x.1.1) (qat Q x.2.1))) Tryz.call210 (fun x => c_part1 hs hQ hm hm2 hl x.1.2 x.2.2) ⟨(Ht rfl), (Ht rfl), trivial⟩) (R_call0 Tryz.call119 (c_fillO (n := m) (f := fun i j => gm s (qat Q i) (qat Q j)) (by omega)) ⟨(Ht rfl), (Ht rfl), trivial⟩ rfl (fun B32 _ => (ro rfl (bld_30_0_1 (Ht rfl) (Ht rfl)) (R_stA Z_30 (Ht rfl) (Ht rfl) rfl (i := 1) rfl (Nat.le_of_ble_eq_true rfl) rfl rfl (R_nil ?_)))))
  exact T_retO B32 trivial [0, 3] ⟨⟨_, rfl, fun _ _ _ h => h⟩, ⟨_, rfl, fun _ _ _ h => h⟩, trivial⟩ (by decide) (rvs1 rfl (rv_cell A_30 Z_30 rfl (i := 1) rfl rfl))
theorem c_partO {z : List Qi} {s : List (List Qi)} {p m : Nat} (hs : Shp s z.length z.length) (hp : p < z.length) (hm : m = z.length - 1) (hl : z.length ≤ 1000) : FunO Tryz.prog 111 [NetT z s, IntsT (lftL p m)] [] Nat (fun B => AggT [NumsT (prtZ z p m), Is (.slice (some ⟨B, 0, none⟩) m m)]) (fun B => [matO B 27 45 5 (FRow NumT (prtS s p m))]) (fun _ => True) := by
  have h := c_partG (Q := tab m (skp p)) hs (skp_all hp hm) (tab_len _ _) (by omega) hl
  rw [subZ_skp, subM_skp, lft_skp] at h
  exact h
set_option maxRecDepth 20000 in
theorem c_whole {n : Int} (h1 : -9223372036854775808 ≤ n) (h2 : n ≤ 9223372036854775807) : Fun Tryz.prog 121 [IntT .i64 n] (NumT (Qi.ofInt n)) := by
 refine Fun.intro Tryz.func121 rfl Tryz.ntmps121 rfl (fun cx => (ts (rn rfl (new_alloc (Ts := [Is (.bool false), Is (.slice none 0 0), Is (.bool false), Is (.slice none 0 0), Is (.slice none 0 0)]) O_45 rfl (fun V => aW ⟨rfl, trivial⟩ (aW ⟨rfl, trivial⟩ (aW ⟨rfl, trivial⟩ (aW ⟨rfl, trivial⟩ (aW ⟨rfl, trivial⟩ (aG))))))) fun B2 => (R_nil (ts (rn rfl (new_alloc (Ts := [Is (.bool false), Is (.slice none 0 0), Is (.bool false), Is (.slice none 0 0), Is (.slice none 0 0)]) O_45 rfl (fun V => aW ⟨rfl, trivial⟩ (aW ⟨rfl, trivial⟩ (aW ⟨rfl, trivial⟩ (aW ⟨rfl, trivial⟩ (aW ⟨rfl, trivial⟩ (aG))))))) fun B3 => ?_))))))
 refine R_nil (cG (C.D_start (m := 4) (dp 3 rfl (op_ldBA A_45 Z_45 (Ht rfl) (i := 1) rfl rfl rfl) (dq 4 0 rfl (op_iface mkif_45 (Ht rfl)) (dp 0 rfl (cQ (Ht rfl)) (dq 6 2 rfl (cX Tryz.call86 (c_Int (n := n) h1 h2) ⟨(Ht rfl), trivial⟩) (C.D_done mixed rfl (by kernel_rfl) (aJ (aJ (aJ (aJ (aV (ro rfl (op_invoke meth_45_Of Tryz.call302 c_OfZ (Ht rfl) ⟨(Ht rfl), trivial⟩) (R_stA Z_45 (Ht rfl) (Ht rfl) rfl (i := 0) rfl (Nat.le_of_ble_eq_true rfl) rfl rfl (R_nil ?_)))))))))))))))
 exact T_ret1 rfl (rv_cell A_45 Z_45 rfl (i := 0) rfl rfl)
end
section
open Go Go.RowKit
set_option maxHeartbeats 1000000 in
set_option maxRecDepth 20000 in
theorem c_Term {z : List Qi} {s : List (List Qi)} {port : Int} {g : Qi} {L : Nat} (hs : Shp s z.length z.length) (hf : FitM s L) (hg : FitC g L) (hL : 1 ≤ L) (hLb : L ≤ 1000000) (hl : z.length ≤ 1000) : Fun Tryz.prog 60 [NetT z s, IntT .i64 port, NumT g] (TupT [NetT (trmRZ z s port g) (trmRS z s port g), IntT .i64 (trmE z s port g)]) := by
 haveI := hg
 have hsl := hs.1
 refine Fun.intro Tryz.func60 rfl Tryz.ntmps60 rfl (fun cx => (ts (rn rfl (new_box (Ht rfl)) fun B3 => (rn rfl (new_box (Ht rfl)) fun B5 => (rn rfl (new_alloc (Ts := [Is (.slice none 0 0), Is (.slice none 0 0)]) O_30 rfl (fun V => aW ⟨rfl, trivial⟩ (aW ⟨rfl, trivial⟩ (aG)))) fun B6 => (ro rfl (bY (cZ 0)) (R_nil (cG (T_block (ts (ro rfl (op_ldBA A_30 Z_30 (Ht rfl) (i := 0) rfl rfl rfl) (rm rfl (ro rfl (cX Tryz.call171 c_has ⟨(Ht rfl), (Ht rfl), trivial⟩) (ro rfl (op_not (Ht rfl)) (ra rfl (R_nil (cY (Ht rfl) (fun hb => ?_) (fun hb => ?_))))))))))))))))))
 ·have he : trmE z s port g = 1 := trmE_1 (by simpa only [Bool.not_eq_true', decide_eq_false_iff_not] using hb)
  refine ts (ro rfl (OpTy.imp (bld_30_ ) net_nil) (R_stA Z_30 (Ht rfl) (Ht rfl) rfl (i := 2) rfl (Nat.le_of_ble_eq_true rfl) rfl rfl (ro rfl (bY (cZ 1)) (R_nil (T_ret2 rfl (rv_to (rv_cell A_30 Z_30 rfl (i := 2) rfl rfl) ?_) (rv_to (rv_tmp rfl) ?_))))))
  ·exact (trm_bad he (by decide))
  ·exact (int_of he.symm)
 ·have hb2 : 1 ≤ port ∧ port ≤ (z.length : Int) := by simpa using hb
  obtain ⟨p, rfl⟩ : ∃ p : Nat, port = (p : Int) + 1 := ⟨(port - 1).toNat, by omega⟩
  have hp : p < z.length := by omega
  refine ts (ro rfl (op_fldB fa_30_0 (Ht rfl) rfl) (ro rfl (op_ldB A_27 Z_27 (Ht rfl) (i := 0) rfl rfl) (ro rfl (dW U_27 (Ht rfl) len_map) (ro rfl (op_eqlN (Ht rfl) (cZ 1)) (ra rfl (R_nil (cY (Ht rfl) (fun hc => ?_) (fun hc => ?_))))))))
  ·have he : trmE z s ((p : Int) + 1) g = 4 := trmE_4 hb2 (by simpa using hc)
   refine ts (ro rfl (OpTy.imp (bld_30_ ) net_nil) (R_stA Z_30 (Ht rfl) (Ht rfl) rfl (i := 2) rfl (Nat.le_of_ble_eq_true rfl) rfl rfl (ro rfl (bY (cZ 4)) (R_nil (T_ret2 rfl (rv_to (rv_cell A_30 Z_30 rfl (i := 2) rfl rfl) ?_) (rv_to (rv_tmp rfl) ?_))))))
   ·exact (trm_bad he (by decide))
   ·exact (int_of he.symm)
  ·have hn1 : ¬ z.length = 1 := by simpa using hc
   have htd := trmE_d (s := s) (g := g) hp hn1
   obtain ⟨m, hm⟩ : ∃ m, m = z.length - 1 := ⟨_, rfl⟩
   have hspl := hs.row hp
   haveI f0 : FitC (Qi.ofInt 1) 1 := fit_one
   haveI f1 : FitC (gm s p p) L := hf.get hL p p
   refine cK (T_blk (ts (rm rfl (ro rfl (op_sub (Ht rfl) cJ (r := ((p : Nat) : Int)) ((w64 (z := (p : Int) + 1 - 1) (by omega)).trans (by omega))) ?_))))
   refine ra rfl (R_nil (cG (Y.D_start (m := 22) [] (bU (Ei := [(5, _)]) rfl rfl (aY (bZ rfl rfl) bQ) rfl rfl (dQ rfl (op_ldBA A_45 Z_45 (Ht rfl) (i := 1) rfl rfl rfl)) (bU (Ei := [(32, _)]) rfl rfl (aY (bX 0 rfl rfl) bQ) rfl rfl (dQ rfl (op_iface mkif_45 (Ht rfl))) (bU (Ei := []) rfl rfl bQ rfl rfl (dQ rfl (cX Tryz.call121 (c_whole (n := 1) (by decide) (by decide)) ⟨(cZ 1), trivial⟩)) (bU (Ei := [(34, _)]) rfl rfl (aY (bX 2 rfl rfl) bQ) rfl rfl (dQ rfl (op_iface mkif_45 (Ht rfl))) ?_)))))))
   refine bU (Ei := [(3, _)]) rfl rfl (aY (bZ rfl rfl) bQ) rfl rfl (dQ rfl (op_fldB fa_30_1 (Ht rfl) rfl)) (bU (Ei := [(36, _)]) rfl rfl (aY (bX 4 rfl rfl) bQ) rfl rfl (dQ rfl (op_ldB A_28 Z_28 (Ht rfl) (i := 0) rfl rfl)) (bU (Ei := [(8, _)]) rfl rfl (aY (bZ rfl rfl) bQ) rfl rfl (dQ rfl (cQ (Ht rfl))) (bU (Ei := [(37, _), (38, _)]) rfl rfl (aY (bX 5 rfl rfl) (aY (bX 6 rfl rfl) bQ)) rfl rfl (dQ rfl (dX U_28 Z_27 (Ht rfl) (Ht rfl) rfl (dU (dK (d := []) (by omega))))) ?_)))
   refine bU (Ei := [(39, _)]) rfl rfl (aY (bX 7 rfl rfl) bQ) rfl rfl (dQ rfl (dZ A_27 Z_27 (Ht rfl))) (bU (Ei := [(8, _)]) rfl rfl (aY (bZ rfl rfl) bQ) rfl rfl (dQ rfl (cQ (Ht rfl))) (bU (Ei := [(40, _), (41, _)]) rfl rfl (aY (bX 8 rfl rfl) (aY (bX 9 rfl rfl) bQ)) rfl rfl (dQ rfl (dX U_27 Z_45 (Ht rfl) (Ht rfl) rfl (dU (dK (d := Qi.zero) (by omega))))) (bU (Ei := [(42, _)]) rfl rfl (aY (bX 10 rfl rfl) bQ) rfl rfl (dQ rfl (dZ A_45 Z_45 (Ht rfl))) ?_)))
   refine bU (Ei := [(43, _)]) rfl rfl (aY (bX 11 rfl rfl) bQ) rfl rfl (dQ rfl (op_iface mkif_45 (Ht rfl))) (bU (Ei := [(5, _)]) rfl rfl (aY (bZ rfl rfl) bQ) rfl rfl (dQ rfl (op_ldBA A_45 Z_45 (Ht rfl) (i := 1) rfl rfl rfl)) (bU (Ei := [(44, _), (45, _)]) rfl rfl (aY (bX 12 rfl rfl) (aY (bX 13 rfl rfl) bQ)) rfl rfl (dQ rfl (op_invoke meth_45_Mul K_67 (c_Mul (x := gm s p p) (y := g) (L := L) (M := L) (by omega)) (Ht rfl) ⟨(Ht rfl), trivial⟩)) (bU (Ei := [(35, _), (46, _)]) rfl rfl (aY (bX 3 rfl rfl) (aY (bX 14 rfl rfl) bQ)) rfl rfl (dQ rfl (op_invoke meth_45_Sub Tryz.call66 (c_Sub (x := Qi.ofInt 1) (y := gm s p p * g) (L := 1) (M := L + L + 1) (hx := f0) (by omega)) (Ht rfl) ⟨(Ht rfl), trivial⟩)) ?_)))
   refine bU (Ei := [(33, _), (47, _)]) rfl rfl (aY (bX 1 rfl rfl) (aY (bX 15 rfl rfl) bQ)) rfl rfl (dQ rfl (op_invoke meth_45_Div Tryz.call59 (c_Div (x := g) (y := Qi.ofInt 1 - gm s p p * g) (L := L) (M := 1 + (L + L + 1) + 1) (hy := @fitSub _ _ _ _ f0 inferInstance) (by omega)) (Ht rfl) ⟨(Ht rfl), trivial⟩)) (bU (Ei := [(48, _)]) rfl rfl (aY (bX 16 rfl rfl) bQ) rfl rfl (dQ rfl (cQ (Ht rfl))) (bU (Ei := [(31, _)]) rfl rfl (aY (bX 17 rfl rfl) bQ) rfl rfl (dQ rfl (dG (Ht rfl) rfl)) ?_))
   refine bU (Ei := [(31, _)]) rfl rfl (aY (bX 17 rfl rfl) bQ) rfl rfl (dQ rfl (dG (Ht rfl) rfl)) (Y.D_newp (Ei := []) (fun bb => box bb 45 [BoolT (decide ((trmF s p g).a < 0)), NatT (trmF s p g).a.natAbs, BoolT (decide ((trmF s p g).b < 0)), NatT (trmF s p g).b.natAbs, NatT (du (trmF s p g))]) 21 rfl rfl rfl bQ rfl rfl (by kernel_rfl) (new_alloc (Ts := [Is (.bool false), Is (.slice none 0 0), Is (.bool false), Is (.slice none 0 0), Is (.slice none 0 0)]) O_45 rfl (fun V => aW ⟨rfl, trivial⟩ (aW ⟨rfl, trivial⟩ (aW ⟨rfl, trivial⟩ (aW ⟨rfl, trivial⟩ (aW ⟨rfl, trivial⟩ (aG))))))) ?_)
   refine Y.D_putN (Ei := [(49, _)]) 20 rfl rfl rfl rfl rfl rfl (aY (bX 18 rfl rfl) bQ) (fun bb => P_stA Z_45 (Ht rfl) (Ht rfl) rfl (i := 0) rfl (Nat.le_of_ble_eq_true rfl) rfl rfl) (Y.D_done mixed rfl (by kernel_rfl) rfl (by simp [Y.okP]) rfl rfl (bK (bK (bK (bK (bK (bK (bK (bK (bK (bK (bK (bK (bK (bK (bK (bK (bK (bK (bK (bK (Y.F_newp (fun B9 => Y.F_putN (Y.F_nil ?_))))))))))))))))))))))))
   refine ra rfl (R_nil (cG (ts (rm rfl (ro rfl (op_neq (Ht rfl) cJ) (R_nil (cY (Ht rfl) (fun he => ?_) (fun he => ?_))))))))
   ·have hz : Qi.ofInt 1 - gm s p p * g = Qi.zero := by simp at he; exact he
    have he : trmE z s ((p : Int) + 1) g = 6 := by rw [htd, if_pos hz]
    refine ts (ro rfl (OpTy.imp (bld_30_ ) net_nil) (R_stA Z_30 (Ht rfl) (Ht rfl) rfl (i := 2) rfl (Nat.le_of_ble_eq_true rfl) rfl rfl (ro rfl (bY (cZ 6)) (R_nil (T_ret2 rfl (rv_to (rv_cell A_30 Z_30 rfl (i := 2) rfl rfl) ?_) (rv_to (rv_tmp rfl) ?_))))))
    ·exact (trm_bad he (by decide))
    ·exact (int_of he.symm)
   ·have hz : Qi.ofInt 1 - gm s p p * g ≠ Qi.zero := by simp at he; exact he
    have he : trmE z s ((p : Int) + 1) g = 0 := by rw [htd, if_neg hz]
    haveI ff : FitC (trmF s p g) (7 * L + 11) := trmF_fit hf hg hL hz
    have hll : (lftL p m).length = m := tab_len _ _
    refine cK (ts (ro rfl (op_ldBA A_30 Z_30 (Ht rfl) (i := 0) rfl rfl rfl) (rm rfl (ro rfl (op_bslice (xs := [.tmp 55]) U_69 Z_3 Tryz.zeroValue3 (cV (Ht rfl) cW) rfl rfl rfl) (ro rfl (cX Tryz.call112 (dY (c_left (z := z) (s := s) (p := p) hp hl) (slT_of (by rw [← hm]))) ⟨(Ht rfl), (Ht rfl), trivial⟩) ?_)))))
    refine ra rfl (R_nil (ts (ro rfl (op_ldBA A_30 Z_30 (Ht rfl) (i := 0) rfl rfl rfl) (rm rfl (R_call0 Tryz.call111 (c_partO (p := p) (m := m) hs hp hm hl) ⟨(Ht rfl), (Ht rfl), trivial⟩ rfl (fun B60 _ => (rn rfl (new_alloc (Ts := [Is (.slice none 0 0), Is (.slice none 0 0)]) O_30 rfl (fun V => aW ⟨rfl, trivial⟩ (aW ⟨rfl, trivial⟩ (aG)))) fun B12 => (R_stA Z_30 (Ht rfl) (Ht rfl) rfl (i := 5) rfl (Nat.le_of_ble_eq_true rfl) rfl rfl (R_nil (cG (ts (rm rfl (ro rfl (dW U_69 (Ht rfl) (by rw [List.length_map, hll])) ?_)))))))))))))
    refine ro rfl (cQ (cZ 0)) (R_nil (T_block (T_keep [0, 2, 3, 4, 5] rfl (by decide) ?_)))
    refine T_loop (fun (i : Nat) => i ≤ m) (fun (i : Nat) => m - i) (fun (i : Nat) => [(3, PtrB B3 0), (6, PtrB B6 0), (8, NT .i64 p), (9, PtrB B9 0), (11, IntsT (lftL p m)), (12, PtrB B12 0), (61, IntsT (lftL p m)), (62, NT .i64 m), (63, NT .i64 i)]) (fun (i : Nat) => [box B3 30 [NumsT z, NumM s], box B6 30 [Is (.slice none 0 0), Is (.slice none 0 0)], box B9 45 [BoolT (decide ((trmF s p g).a < 0)), NatT (trmF s p g).a.natAbs, BoolT (decide ((trmF s p g).b < 0)), NatT (trmF s p g).b.natAbs, NatT (du (trmF s p g))], matO B60 27 45 5 (FRow NumT (mixG (fun i => tab m fun j => trmX s p (trmF s p g) i j) (fun i => tab m fun j => gm s (skp p i) (skp p j)) m i)), box B12 30 [NumsT (prtZ z p m), Is (.slice (some ⟨B60, 0, none⟩) m m)]]) 0 (Nat.zero_le _)
     (aQ rfl (aQ rfl (aQ rfl (aQ rfl (aQ rfl (aQ rfl (aQ rfl (aQ rfl (aQ rfl aX))))))))) (aK (fun _ _ _ h => h) (aK (fun _ _ _ h => h) (aK (box_of rfl) (aK (matO_of (by rw [← mixG_zero]; rfl)) (aK (box_of rfl) aU))))) (fun i hi => ?_)
    refine ts (ro rfl (op_lssN (Ht rfl) (Ht rfl)) (R_nil (cG (cY (Ht rfl) (fun hd => ?_) (fun hd => ?_)))))
    ·simp only [decide_eq_true_eq] at hd
     have hki : skp p i < z.length := skp_lt (by omega) hp
     have hsr := hs.row hki
     refine T_focus 3 (i) rfl (frow_mixG hd) (fun v => (cK (cG (T_block (ts (rm rfl (ro rfl (dX U_69 Z_3 (Ht rfl) (Ht rfl) rfl (dU (lft_get hd))) (ro rfl (dZ A_3 Z_3 (Ht rfl)) (ra rfl (ra rfl (R_nil (ts (rm rfl (ro rfl (dW U_69 (Ht rfl) (by rw [List.length_map, hll])) ?_))))))))))))))
     refine ro rfl (cQ (cZ 0)) (R_nil (T_block ?_))
     refine T_loop (fun (j : Nat) => j ≤ m) (fun (j : Nat) => m - j) (fun (j : Nat) => [(3, PtrB B3 0), (6, PtrB B6 0), (8, NT .i64 p), (9, PtrB B9 0), (11, IntsT (lftL p m)), (12, PtrB B12 0), (13, NT .i64 i), (14, NT .i64 (skp p i + 1)), (61, IntsT (lftL p m)), (62, NT .i64 m), (63, NT .i64 i), (68, IntsT (lftL p m)), (69, NT .i64 m), (70, NT .i64 j)]) (fun (j : Nat) => [box B3 30 [NumsT z, NumM s], box B6 30 [Is (.slice none 0 0), Is (.slice none 0 0)], box B9 45 [BoolT (decide ((trmF s p g).a < 0)), NatT (trmF s p g).a.natAbs, BoolT (decide ((trmF s p g).b < 0)), NatT (trmF s p g).b.natAbs, NatT (du (trmF s p g))], matH B60 27 45 5 (FRow NumT (mixG (fun i => tab m fun j => trmX s p (trmF s p g) i j) (fun i => tab m fun j => gm s (skp p i) (skp p j)) m i)) i v, box B12 30 [NumsT (prtZ z p m), Is (.slice (some ⟨B60, 0, none⟩) m m)], rowO 45 5 v ((mixG (fun j => trmX s p (trmF s p g) i j) (fun j => gm s (skp p i) (skp p j)) m j).map NumT)]) 0 (Nat.zero_le _)
      (aQ rfl (aQ rfl (aQ rfl (aQ rfl (aQ rfl (aQ rfl (aQ rfl (aQ rfl (aQ rfl (aQ rfl (aQ rfl (aQ rfl (aQ rfl (aQ rfl aX)))))))))))))) (aK (fun _ _ _ h => h) (aK (fun _ _ _ h => h) (aK (fun _ _ _ h => h) (aK (fun _ _ _ h => h) (aK (fun _ _ _ h => h) (aK (rowO_of (by rw [← mixG_zero])) aU)))))) (fun j hj => ?_)
     refine ts (ro rfl (op_lssN (Ht rfl) (Ht rfl)) (R_nil (cG (cY (Ht rfl) (fun hf2 => ?_) (fun hf2 => ?_)))))
     ·simp only [decide_eq_true_eq] at hf2
      have hkj : skp p j < z.length := skp_lt (by omega) hp
      have hrl := mixG_len (fun j => trmX s p (trmF s p g) i j) (fun j => gm s (skp p i) (skp p j)) m j
      haveI g1 : FitC (gm s (skp p i) (skp p j)) L := hf.get hL _ _
      haveI g2 : FitC (gm s (skp p i) p) L := hf.get hL _ _
      haveI g3 : FitC (gm s p (skp p j)) L := hf.get hL _ _
      refine cK (cG (T_block (ts (rm rfl (ro rfl (dX U_69 Z_3 (Ht rfl) (Ht rfl) rfl (dU (lft_get hf2))) (ro rfl (dZ A_3 Z_3 (Ht rfl)) (ra rfl (ra rfl (R_nil (C.D_start (m := 39) (dp 12 rfl (op_fldB fa_30_1 (Ht rfl) rfl) (dq 75 0 rfl (op_ldB A_28 Z_28 (Ht rfl) (i := 4) rfl rfl) (dp 13 rfl (cQ (Ht rfl)) (dqq 76 1 77 2 rfl (op_idxB U_28 Z_27 (Ht rfl) (Ht rfl) rfl (by omega) (by rw [Nat.mul_one, Nat.zero_add])) ?_))))))))))))))
      refine dq 78 3 rfl (op_ldH A_27 Z_27 (Ht rfl) (j := 3) rfl) (dp 15 rfl (cQ (Ht rfl)) (dp 12 rfl (op_fldB fa_30_1 (Ht rfl) rfl) (dq 81 6 rfl (op_ldB A_28 Z_28 (Ht rfl) (i := 4) rfl rfl) (dp 13 rfl (cQ (Ht rfl)) (dqq 82 7 83 8 rfl (op_idxB U_28 Z_27 (Ht rfl) (Ht rfl) rfl (by omega) (by rw [Nat.mul_one, Nat.zero_add])) ?_)))))
      refine dq 84 9 rfl (op_ldH A_27 Z_27 (Ht rfl) (j := 3) rfl) (dp 15 rfl (cQ (Ht rfl)) (dqq 85 10 86 11 rfl (op_idxO U_27 Z_45 (Ht rfl) (Ht rfl) rfl (i := 5) rfl (by simp only [List.length_map, hrl]; omega) rfl) ?_))
      refine dq 87 12 rfl (op_ldO A_45 Z_45 (Ht rfl) (i := 5) rfl rfl (dU (mixG_get hf2))) (dq 88 13 rfl (op_iface mkif_45 (Ht rfl)) (dp 3 rfl (op_fldB fa_30_1 (Ht rfl) rfl) (dq 90 15 rfl (op_ldB A_28 Z_28 (Ht rfl) (i := 0) rfl rfl) (dp 14 rfl (cQ (Ht rfl)) (dq 92 17 rfl (OpTy.nat (dV (Ht rfl) (cZ 1) (by omega) (by show _ < 9223372036854775808; first | omega | (simp only [lim]; omega))) (show skp p i + 1 - 1 = skp p i by omega)) (dqq 91 16 93 18 rfl (dX U_28 Z_27 (Ht rfl) (Ht rfl) rfl (dU (dK (d := []) (by omega)))) ?_))))))
      refine dq 94 19 rfl (dZ A_27 Z_27 (Ht rfl)) (dp 8 rfl (cQ (Ht rfl)) (dqq 95 20 96 21 rfl (dX U_27 Z_45 (Ht rfl) (Ht rfl) rfl (dU (dK (d := Qi.zero) (by omega)))) (dq 97 22 rfl (dZ A_45 Z_45 (Ht rfl)) (dq 98 23 rfl (op_iface mkif_45 (Ht rfl)) (dp 9 rfl (op_ldBA A_45 Z_45 (Ht rfl) (i := 2) rfl rfl rfl) (dq 100 25 rfl (op_iface mkif_45 (Ht rfl)) (dp 3 rfl (op_fldB fa_30_1 (Ht rfl) rfl) (dq 102 27 rfl (op_ldB A_28 Z_28 (Ht rfl) (i := 0) rfl rfl) (dp 8 rfl (cQ (Ht rfl)) ?_)))))))))
      refine dqq 103 28 104 29 rfl (dX U_28 Z_27 (Ht rfl) (Ht rfl) rfl (dU (dK (d := []) (by omega)))) (dq 105 30 rfl (dZ A_27 Z_27 (Ht rfl)) (dp 16 rfl (cQ (Ht rfl)) (dq 107 32 rfl (OpTy.nat (dV (Ht rfl) (cZ 1) (by omega) (by show _ < 9223372036854775808; first | omega | (simp only [lim]; omega))) (show skp p j + 1 - 1 = skp p j by omega)) (dqq 106 31 108 33 rfl (dX U_27 Z_45 (Ht rfl) (Ht rfl) rfl (dU (dK (d := Qi.zero) (by omega)))) (dq 109 34 rfl (dZ A_45 Z_45 (Ht rfl)) ?_)))))
      refine dqq 101 26 110 35 rfl (op_invoke meth_45_Mul K_67 (c_Mul (x := trmF s p g) (y := gm s p (skp p j)) (L := 7 * L + 11) (M := L) (by omega)) (Ht rfl) ⟨(Ht rfl), trivial⟩) (dqq 99 24 111 36 rfl (op_invoke meth_45_Mul K_67 (c_Mul (x := gm s (skp p i) p) (y := trmF s p g * gm s p (skp p j)) (L := L) (M := 7 * L + 11 + L + 1) (by omega)) (Ht rfl) ⟨(Ht rfl), trivial⟩) (dqq 89 14 112 37 rfl (op_invoke meth_45_Add Tryz.call68 (c_Add (x := gm s (skp p i) (skp p j)) (y := gm s (skp p i) p * (trmF s p g * gm s p (skp p j))) (L := L) (M := L + (7 * L + 11 + L + 1) + 1) (by omega)) (Ht rfl) ⟨(Ht rfl), trivial⟩) ?_))
      refine C.D_done mixed rfl (by kernel_rfl) (aJ (aJ (aJ (aJ (aJ (aJ (aJ (aJ (aJ (aJ (aJ (aJ (aJ (aJ (aJ (aJ (aJ (aJ (aJ (aJ (aJ (aJ (aJ (aJ (aJ (aJ (aJ (aJ (aJ (aJ (aJ (aJ (aJ (aJ (aJ (aJ (aJ (aJ (aJ (aV (ro rfl (op_idxO U_27 Z_45 (Ht rfl) (Ht rfl) rfl (i := 5) rfl (by simp only [List.length_map, hrl]; omega) rfl) ?_)))))))))))))))))))))))))))))))))))))))))
      refine R_stO Z_45 (Ht rfl) (Ht rfl) (El.ag rfl) (i := 5) rfl rfl (by simp only [List.length_map, hrl]; omega) rfl ?_
      refine R_nil (T_blk (cU (ro rfl (dJ (Ht rfl) (cZ 1) (by show _ < 9223372036854775808; first | omega | (simp only [lim]; omega))) (rm rfl (R_nil (T_again (j + 1) hf2 (by omega) (aQ rfl (aQ rfl (aQ rfl (aQ rfl (aQ rfl (aQ rfl (aQ rfl (aQ rfl (aQ rfl (aQ rfl (aQ rfl (aQ rfl (aQ rfl (aQ rfl aX)))))))))))))) (aK (fun _ _ _ h => h) (aK (fun _ _ _ h => h) (aK (fun _ _ _ h => h) (aK (fun _ _ _ h => h) (aK (fun _ _ _ h => h) (aK (rowO_of (by rw [set_mapF, ← mixG_set (f := fun j => trmX s p (trmF s p g) i j)]; rfl)) aU))))))))))))
     ·simp only [decide_eq_false_iff_not] at hf2
      obtain rfl : m = j := Nat.le_antisymm (by omega) hj
      refine T_exit rfl (T_blk (T_unfocus 3 5 rfl rfl (by decide) (by simp only [FRow, List.length_map, mixG_len]; omega) ?_))
      refine cU (ro rfl (dJ (Ht rfl) (cZ 1) (by show _ < 9223372036854775808; first | omega | (simp only [lim]; omega))) (rm rfl (R_nil (T_keep [0, 1, 2, 3, 4] rfl (by decide) (T_again (i + 1) hd (by omega) (aQ rfl (aQ rfl (aQ rfl (aQ rfl (aQ rfl (aQ rfl (aQ rfl (aQ rfl (aQ rfl aX))))))))) (aK (fun _ _ _ h => h) (aK (fun _ _ _ h => h) (aK (fun _ _ _ h => h) (aK (matO_of (by rw [set_FRow, mixG_fin, ← mixG_set (f := (fun i => tab m fun j => trmX s p (trmF s p g) i j))])) (aK (fun _ _ _ h => h) aU))))))))))
    ·simp only [decide_eq_false_iff_not] at hd
     obtain rfl : m = i := Nat.le_antisymm (by omega) hi
     rw [mixG_fin]
     refine T_exit rfl (cG (T_frzcellG 4 3 1 rfl rfl rfl (by decide) (frzM (q := fun _ => True) (M := trmS s p m (trmF s p g)) (tab_len _ _).symm) ?_))
     subst hm
     refine cU (ro rfl (op_ldBA A_30 Z_30 (Ht rfl) (i := 4) rfl rfl rfl) (R_stA Z_30 (Ht rfl) (Ht rfl) rfl (i := 1) rfl (Nat.le_of_ble_eq_true rfl) rfl rfl (ro rfl (bY (cZ 0)) (R_nil (T_ret2 rfl (rv_to (rv_cell A_30 Z_30 rfl (i := 1) rfl rfl) ?_) (rv_to (rv_tmp rfl) ?_))))))
     ·exact (trm_good he)
     ·exact (int_of he.symm)
end
section
open Go Go.RowKit
def fwZ : List Qi := [r50, r50].map Rt.q
def fwS : List (List Qi) := rq [[rHalf, rHalf], [rHalf, rHalf]]
def fwTZ : List Qi := trmRZ fwZ fwS 2 (Qi.ofInt 1)
def fwTS : List (List Qi) := trmRS fwZ fwS 2 (Qi.ofInt 1)
theorem fw_err : netErr fwZ fwS = 0 := by decide +kernel
theorem fw_shp : Shp fwS fwZ.length fwZ.length := (netErr_ok fw_err).2.2.1
theorem fw_trm : trmE fwZ fwS 2 (Qi.ofInt 1) = 0 := by decide +kernel
theorem fw_tz : fwTZ.length = 1 := by decide +kernel
theorem fw_ts : fwTS = [[Qi.ofInt 1]] := by decide +kernel
theorem fw_inv : invE (pmM true (idM fwZ.length) fwS fwZ.length) fwZ.length ≠ 0 := by decide +kernel
theorem fw_fz : FitL fwZ 2 := FitL.rt
theorem fw_fs : FitM fwS 2 := FitM.rt
theorem fw_f1 : FitC (Qi.ofInt 1) 2 := fit_one.le (by decide)
theorem fw_net : ∀ v V, (TupT [NetT (okL (netErr fwZ fwS) fwZ) (okL (netErr fwZ fwS) fwS), IntT .i64 (netErr fwZ fwS)]).p v V → (TupT [NetT fwZ fwS, IntT .i64 0]).p v V := by rw [fw_err]; exact fun _ _ h => h
theorem fw_ter : ∀ v V, (TupT [NetT (trmRZ fwZ fwS ((2 : Nat) : Int) (Qi.ofInt 1)) (trmRS fwZ fwS ((2 : Nat) : Int) (Qi.ofInt 1)), IntT .i64 (trmE fwZ fwS ((2 : Nat) : Int) (Qi.ofInt 1))]).p v V → (TupT [NetT fwTZ fwTS, IntT .i64 0]).p v V := by
  rw [show trmE fwZ fwS ((2 : Nat) : Int) (Qi.ofInt 1) = 0 from fw_trm]; exact fun _ _ h => h
theorem fw_tsh : Shp fwTS fwTZ.length fwTZ.length := by rw [fw_tz, fw_ts]; exact ⟨rfl, by simp⟩
theorem fw_at : ∀ v V, (TupT [NumT (pkm fwTZ.length fwTS ((1 : Nat) : Int) ((1 : Nat) : Int)), IntT .i64 (if (1 ≤ ((1 : Nat) : Int) ∧ ((1 : Nat) : Int) ≤ fwTZ.length) ∧ 1 ≤ ((1 : Nat) : Int) ∧ ((1 : Nat) : Int) ≤ fwTZ.length then 0 else 1)]).p v V → (TupT [NumT (Qi.ofInt 1), IntT .i64 0]).p v V := by
  rw [fw_tz, fw_ts, if_pos (by decide)]
  rw [show pkm 1 [[Qi.ofInt 1]] ((1 : Nat) : Int) ((1 : Nat) : Int) = Qi.ofInt 1 from rfl]
  exact fun _ _ h => h
theorem fw_t : txt (Qi.ofInt 1) = [49] := by decide +kernel
end
section
open Go Go.RowKit
set_option maxHeartbeats 1000000 in
set_option maxRecDepth 20000 in
theorem c_awake4  : Fun Tryz.prog 15 [] (BoolT true) := by
 refine Fun.intro Tryz.func15 rfl Tryz.ntmps15 rfl (fun cx => (ts (ro rfl (bY cJ) (R_nil (ts (ro rfl (bld_91_0_2 cJ cJ) (rn rfl (new_alloc (Ts := [Is (.int .i64 0), Is (.int .i64 0), Is (.int .i64 0)]) O_91 rfl (fun V => aW ⟨rfl, trivial⟩ (aW ⟨rfl, trivial⟩ (aW ⟨rfl, trivial⟩ (aG))))) fun B1 => (R_stA Z_91 (Ht rfl) (Ht rfl) rfl (i := 0) rfl (Nat.le_of_ble_eq_true rfl) rfl rfl (R_nil (cG (Y.D_start (m := 18) [] (bU (Ei := []) rfl rfl bQ rfl rfl (dQ rfl (bld_91_0 cJ)) (bU (Ei := []) rfl rfl bQ rfl rfl (dQ rfl (bld_91_0 cJ)) ?_)))))))))))))
 refine bU (Ei := [(12, _), (13, _)]) rfl rfl (aY (bX 0 rfl rfl) (aY (bX 1 rfl rfl) bQ)) rfl rfl (dQ rfl (op_bslice (xs := [.tmp 12, .tmp 13]) U_22 Z_91 O_91 (cV (Ht rfl) (cV (Ht rfl) cW)) rfl rfl rfl)) (bU (Ei := [(14, _)]) rfl rfl (aY (bX 2 rfl rfl) bQ) rfl rfl (dQ rfl (cX Tryz.call23 (c_lawList (l := [r50, r50]) (by decide)) ⟨(Ht rfl), trivial⟩)) (bU (Ei := [(1, _)]) rfl rfl (aY (bZ rfl rfl) bQ) rfl rfl (dQ rfl (op_ldBA A_91 Z_91 (Ht rfl) (i := 0) rfl rfl rfl)) ?_))
 refine bU (Ei := [(1, _)]) rfl rfl (aY (bZ rfl rfl) bQ) rfl rfl (dQ rfl (op_ldBA A_91 Z_91 (Ht rfl) (i := 0) rfl rfl rfl)) (bU (Ei := [(16, _), (17, _)]) rfl rfl (aY (bX 4 rfl rfl) (aY (bX 5 rfl rfl) bQ)) rfl rfl (dQ rfl (op_bslice (xs := [.tmp 16, .tmp 17]) U_22 Z_91 O_91 (cV (Ht rfl) (cV (Ht rfl) cW)) rfl rfl rfl)) (bU (Ei := [(1, _)]) rfl rfl (aY (bZ rfl rfl) bQ) rfl rfl (dQ rfl (op_ldBA A_91 Z_91 (Ht rfl) (i := 0) rfl rfl rfl)) ?_))
 refine bU (Ei := [(1, _)]) rfl rfl (aY (bZ rfl rfl) bQ) rfl rfl (dQ rfl (op_ldBA A_91 Z_91 (Ht rfl) (i := 0) rfl rfl rfl)) (bU (Ei := [(19, _), (20, _)]) rfl rfl (aY (bX 7 rfl rfl) (aY (bX 8 rfl rfl) bQ)) rfl rfl (dQ rfl (op_bslice (xs := [.tmp 19, .tmp 20]) U_22 Z_91 O_91 (cV (Ht rfl) (cV (Ht rfl) cW)) rfl rfl rfl)) (bU (Ei := [(18, _), (21, _)]) rfl rfl (aY (bX 6 rfl rfl) (aY (bX 9 rfl rfl) bQ)) rfl rfl (dQ rfl (op_bslice (xs := [.tmp 18, .tmp 21]) U_25 Z_22 Tryz.zeroValue22 (cV (Ht rfl) (cV (Ht rfl) cW)) rfl rfl rfl)) ?_))
 refine bU (Ei := [(22, _)]) rfl rfl (aY (bX 10 rfl rfl) bQ) rfl rfl (dQ rfl (cX Tryz.call24 (c_lawRows (m := [[rHalf, rHalf], [rHalf, rHalf]]) (by decide) (by intro r hr; simp at hr; subst hr; decide)) ⟨(Ht rfl), trivial⟩)) ?_
 refine bU (Ei := [(15, _), (23, _)]) rfl rfl (aY (bX 3 rfl rfl) (aY (bX 11 rfl rfl) bQ)) rfl rfl (dQ rfl (cX Tryz.call85 (dY (c_netNew (z := fwZ) (s := fwS) (L := 2) fw_fz (by decide) (by decide) (by decide)) fw_net) ⟨(Ht rfl), (Ht rfl), trivial⟩)) (bU (Ei := [(24, _)]) rfl rfl (aY (bX 12 rfl rfl) bQ) rfl rfl (dQ rfl (cQ (Ht rfl))) (bU (Ei := [(11, _)]) rfl rfl (aY (bX 13 rfl rfl) bQ) rfl rfl (dQ rfl (dG (Ht rfl) rfl)) (bU (Ei := [(11, _)]) rfl rfl (aY (bX 13 rfl rfl) bQ) rfl rfl (dQ rfl (dG (Ht rfl) rfl)) ?_)))
 refine Y.D_newp (Ei := []) (fun bb => box bb 30 [NumsT fwZ, NumM fwS]) 17 rfl rfl rfl bQ rfl rfl (by kernel_rfl) (new_alloc (Ts := [Is (.slice none 0 0), Is (.slice none 0 0)]) O_30 rfl (fun V => aW ⟨rfl, trivial⟩ (aW ⟨rfl, trivial⟩ (aG)))) (Y.D_putN (Ei := [(25, _)]) 16 rfl rfl rfl rfl rfl rfl (aY (bX 14 rfl rfl) bQ) (fun bb => P_stA Z_30 (Ht rfl) (Ht rfl) rfl (i := 0) rfl (Nat.le_of_ble_eq_true rfl) rfl rfl) (Y.D_done mixed rfl (by kernel_rfl) rfl (by simp [Y.okP]) rfl rfl (bK (bK (bK (bK (bK (bK (bK (bK (bK (bK (bK (bK (bK (bK (bK (bK (Y.F_newp (fun B2 => Y.F_putN (Y.F_nil ?_)))))))))))))))))))))
 refine ra rfl (R_nil (cG (Y.D_start (m := 8) [] (bU (Ei := [(2, _)]) rfl rfl (aY (bZ rfl rfl) bQ) rfl rfl (dQ rfl (op_ldBA A_30 Z_30 (Ht rfl) (i := 1) rfl rfl rfl)) (bU (Ei := []) rfl rfl bQ rfl rfl (dQ rfl (cX Tryz.call86 (c_Int (n := 1) (by decide) (by decide)) ⟨(cZ 1), trivial⟩)) (bU (Ei := [(28, _), (29, _)]) rfl rfl (aY (bX 0 rfl rfl) (aY (bX 1 rfl rfl) bQ)) rfl rfl (dQ rfl (cX Tryz.call60 (dY (c_Term (z := fwZ) (s := fwS) (port := ((2 : Nat) : Int)) (g := Qi.ofInt 1) (L := 2) fw_shp fw_fs fw_f1 (by decide) (by decide) (by decide)) fw_ter) ⟨(Ht rfl), (cZ 2), (Ht rfl), trivial⟩)) ?_))))))
 refine bU (Ei := [(30, _)]) rfl rfl (aY (bX 2 rfl rfl) bQ) rfl rfl (dQ rfl (cQ (Ht rfl))) (bU (Ei := [(27, _)]) rfl rfl (aY (bX 3 rfl rfl) bQ) rfl rfl (dQ rfl (dG (Ht rfl) rfl)) (bU (Ei := [(27, _)]) rfl rfl (aY (bX 3 rfl rfl) bQ) rfl rfl (dQ rfl (dG (Ht rfl) rfl)) (Y.D_newp (Ei := []) (fun bb => box bb 30 [NumsT fwTZ, NumM fwTS]) 7 rfl rfl rfl bQ rfl rfl (by kernel_rfl) (new_alloc (Ts := [Is (.slice none 0 0), Is (.slice none 0 0)]) O_30 rfl (fun V => aW ⟨rfl, trivial⟩ (aW ⟨rfl, trivial⟩ (aG)))) ?_)))
 refine Y.D_putN (Ei := [(31, _)]) 6 rfl rfl rfl rfl rfl rfl (aY (bX 4 rfl rfl) bQ) (fun bb => P_stA Z_30 (Ht rfl) (Ht rfl) rfl (i := 0) rfl (Nat.le_of_ble_eq_true rfl) rfl rfl) (Y.D_done mixed rfl (by kernel_rfl) rfl (by simp [Y.okP]) rfl rfl (bK (bK (bK (bK (bK (bK (Y.F_newp (fun B4 => Y.F_putN (Y.F_nil ?_))))))))))
 refine ra rfl (R_nil (ts (ro rfl (op_ldBA A_30 Z_30 (Ht rfl) (i := 2) rfl rfl rfl) (ro rfl (cX Tryz.call65 (dY (c_At (z := fwTZ) (s := fwTS) (i := ((1 : Nat) : Int)) (j := ((1 : Nat) : Int)) fw_tsh (by rw [fw_tz]; decide)) fw_at) ⟨(Ht rfl), (cZ 1), (cZ 1), trivial⟩) ?_))))
 refine rm rfl (ro rfl (dG (Ht rfl) rfl) (ro rfl (dG (Ht rfl) rfl) (rn rfl (new_alloc (Ts := [Is (.bool false), Is (.slice none 0 0), Is (.bool false), Is (.slice none 0 0), Is (.slice none 0 0)]) O_45 rfl (fun V => aW ⟨rfl, trivial⟩ (aW ⟨rfl, trivial⟩ (aW ⟨rfl, trivial⟩ (aW ⟨rfl, trivial⟩ (aW ⟨rfl, trivial⟩ (aG))))))) fun B6 => (R_stA Z_45 (Ht rfl) (Ht rfl) rfl (i := 3) rfl (Nat.le_of_ble_eq_true rfl) rfl rfl (ra rfl (R_nil (ts (ro rfl (op_ldBA A_30 Z_30 (Ht rfl) (i := 1) rfl rfl rfl) ?_))))))))
 refine ro rfl (cX Tryz.call17 (c_ImpE (z := fwZ) (s := fwS) (L := 2) fw_shp fw_fs (by decide) (by decide) (by decide) (by decide +kernel) (by decide +kernel) fw_inv) ⟨(Ht rfl), trivial⟩) (rm rfl (ro rfl (dG (Ht rfl) rfl) (ro rfl (dG (Ht rfl) rfl) (ra rfl (ra rfl (R_nil (ts (rm rfl (ro rfl (op_eql (Ht rfl) cJ) (rm rfl (R_step rfl rfl (S_when rfl rfl (Ht rfl) (fun h => cQ (Ht rfl))) (R_step rfl rfl (S_when rfl rfl (Ht rfl) (fun h => op_eql (Has.w rfl h) cJ)) (ro rfl (op_and (Ht rfl) (fun h => (Has.w rfl h))) (rm rfl (R_step rfl rfl (S_when rfl rfl (Ht rfl) (fun h => cQ (Ht rfl))) ?_)))))))))))))))
 refine R_step rfl rfl (S_when rfl rfl (Ht rfl) (fun h => op_eql (Has.w rfl h) cJ)) (ro rfl (op_and (Ht rfl) (fun h => (Has.w rfl h))) (rm rfl (R_step rfl rfl (S_when rfl rfl (Ht rfl) (fun h => cQ (Ht rfl))) (R_step rfl rfl (S_when rfl rfl (Ht rfl) (fun h => op_eql (Has.w rfl h) cJ)) (ro rfl (op_and (Ht rfl) (fun h => (Has.w rfl h))) (rm rfl (R_step rfl rfl (S_when rfl rfl (Ht rfl) (fun h => op_ldBA A_30 Z_30 (Ht rfl) (i := 1) rfl rfl rfl)) (R_step rfl rfl (S_when rfl rfl (Ht rfl) (fun h => cX Tryz.call37 c_Ports ⟨(Has.w rfl h), trivial⟩)) (R_step rfl rfl (S_when rfl rfl (Ht rfl) (fun h => op_eqlN (Has.w rfl h) (cZ 2))) ?_)))))))))
 refine ro rfl (op_and (Ht rfl) (fun h => (Has.w rfl h))) (rm rfl (R_step rfl rfl (S_when rfl rfl (Ht rfl) (fun h => op_ldBA A_45 Z_45 (Ht rfl) (i := 3) rfl rfl rfl)) (R_step rfl rfl (S_when rfl rfl (Ht rfl) (fun h => cX Tryz.call87 (c_Text (x := Qi.ofInt 1) (L := 2) (hx := fw_f1) (by decide)) ⟨(Has.w rfl h), trivial⟩)) (R_step rfl rfl (S_when rfl rfl (Ht rfl) (fun h => op_eqS (Has.w rfl h) (Has.cS (l := [49]) rfl))) (ro rfl (op_and (Ht rfl) (fun h => (Has.w rfl h))) (ra rfl (R_nil (T_ret1 rfl (rv_to (rv_tmp rfl) ?_)))))))))
 exact (bool_of (by rw [fw_t]; rfl))
end
section
open Go Go.RowKit
set_option maxRecDepth 20000 in
theorem c_refList4 {l : List Rt} (hl : l.length ≤ 1000000) : Fun Tryz.prog 26 [RatsT l] (QsT (l.map Rt.q)) := by
 refine Fun.intro Tryz.func26 rfl Tryz.ntmps26 rfl (fun cx => (ts (ro rfl (bY cJ) (R_nil (ts (rm rfl (ro rfl (dW U_22 (Ht rfl) len_map) (rn rfl (new_makeO (T := ZQ) (i := Tryz.t98) und_31 info_98 rfl rfl (Ht rfl) rfl zq_p (El.ag rfl) (by show 88 * _ ≤ _; omega) (by omega)) fun B8 => (ra rfl (R_nil (cG (ts (rm rfl (ro rfl (dW U_22 (Ht rfl) len_map) (ro rfl (cQ (cZ 0)) (R_nil (T_block ?_)))))))))))))))))
 refine T_loop (fun (k : Nat) => k ≤ l.length) (fun (k : Nat) => l.length - k) (fun (k : Nat) => [(3, Is B8), (9, RatsT l), (10, NT .i64 l.length), (11, NT .i64 k)]) (fun (k : Nat) => [rowO 98 5 B8 (mixT (fun i => QT (l.getD i default).q) ZQ l.length k)]) 0 (Nat.zero_le _)
  (aQ rfl (aQ rfl (aQ rfl (aQ rfl aX)))) (aK (rowO_of (by rw [← mix_zero]; exact rep_tab _ _)) aU) (fun k hk => ?_)
 refine ts (ro rfl (op_lssN (Ht rfl) (Ht rfl)) (R_nil (cG (cY (Ht rfl) (fun hd => ?_) (fun hd => ?_)))))
 ·simp only [decide_eq_true_eq] at hd
  refine cK (cG (T_block (ts (rm rfl (ro rfl (dX U_22 Z_91 (Ht rfl) (Ht rfl) rfl (dU (dK (d := default) hd))) (ro rfl (dZ A_91 Z_91 (Ht rfl)) (rn rfl (new_alloc (Ts := [Is (.int .i64 0), Is (.int .i64 0), Is (.int .i64 0)]) O_91 rfl (fun V => aW ⟨rfl, trivial⟩ (aW ⟨rfl, trivial⟩ (aW ⟨rfl, trivial⟩ (aG))))) fun B5 => (ra rfl (R_stA Z_91 (Ht rfl) (Ht rfl) rfl (i := 1) rfl (Nat.le_of_ble_eq_true rfl) rfl rfl (R_nil (cU (rm rfl (rm rfl (ro rfl (op_ldBA A_91 Z_91 (Ht rfl) (i := 1) rfl rfl rfl) ?_))))))))))))))
  refine ro rfl (cX Tryz.call52 c_rOf ⟨(Ht rfl), trivial⟩) (ro rfl (op_idxO U_31 Z_98 (Ht rfl) (Ht rfl) rfl (i := 0) rfl (by rw [mix_len]; omega) rfl) ?_)
  refine R_stO Z_98 (Ht rfl) (Ht rfl) (El.ag rfl) (i := 0) rfl rfl (by rw [mix_len]; omega) rfl ?_
  refine R_nil (T_blk (cU (ro rfl (dJ (Ht rfl) (cZ 1) (by show _ < 9223372036854775808; first | omega | (simp only [lim]; omega))) (rm rfl (R_nil (T_keep [0] rfl (by decide) (T_again (k + 1) hd (by omega) (aQ rfl (aQ rfl (aQ rfl (aQ rfl aX)))) (aK (rowO_of (mix_set (f := fun i => QT (l.getD i default).q))) aU))))))))
 ·simp only [decide_eq_false_iff_not] at hd
  obtain rfl : k = l.length := Nat.le_antisymm hk (by omega)
  rw [mix_fin]
  refine T_exit rfl (T_freeze (i := 0) (tt := 3) rfl rfl frz_row (ts (rm rfl (ra rfl (R_nil (T_ret1 rfl (rv_to (rv_tmp rfl) ?_)))))))
  exact (slT_of (by rw [← tab_list l Rt.q, tab_map]))
set_option maxRecDepth 20000 in
theorem c_refRows4 {m : List (List Rt)} (hm : m.length ≤ 1000) (hr : ∀ r, r ∈ m → r.length ≤ 1000) : Fun Tryz.prog 27 [RatM m] (QM (rq m)) := by
 refine Fun.intro Tryz.func27 rfl Tryz.ntmps27 rfl (fun cx => (ts (ro rfl (bY cJ) (R_nil (ts (rm rfl (ro rfl (dW U_25 (Ht rfl) len_map) (rn rfl (new_makeO (T := QsT []) (i := Tryz.t31) und_32 info_31 rfl rfl (Ht rfl) rfl (fun V => nil_slT _ _ rfl) El.one (by show 24 * _ ≤ _; omega) (by omega)) fun B8 => (ra rfl (R_nil (cG (ts (rm rfl (ro rfl (dW U_25 (Ht rfl) len_map) (ro rfl (cQ (cZ 0)) (R_nil (T_block ?_)))))))))))))))))
 refine T_loop2 (fun (k : Nat) (out : List (List Qi)) => FillS (fun i => (m.getD i default).map Rt.q) m.length out k) (fun (k : Nat) (out : List (List Qi)) => m.length - k) (fun (k : Nat) (out : List (List Qi)) => [(3, Is B8), (9, RatM m), (10, NT .i64 m.length), (11, NT .i64 k)]) (fun (k : Nat) (out : List (List Qi)) => [rowO 31 1 B8 (out.map QsT)]) 0 (List.replicate m.length []) (FillS.start _ _ _)
  (aQ rfl (aQ rfl (aQ rfl (aQ rfl aX)))) (aK (rowO_of (rep_mapF QsT _ _)) aU) (fun k out hS => ?_)
 refine ts (ro rfl (op_lssN (Ht rfl) (Ht rfl)) (R_nil (cG (cY (Ht rfl) (fun hk => ?_) (fun hk => ?_)))))
 ·simp only [decide_eq_true_eq] at hk
  have hlen := hS.len
  have hrk : (m.getD k default).length ≤ 1000 := by
   have e : m.getD k default = m[k] := by simp [List.getD, hk]
   rw [e]; exact hr _ (List.getElem_mem hk)
  refine cK (cG (T_block (ts (rm rfl (ro rfl (dX U_25 Z_22 (Ht rfl) (Ht rfl) rfl (dU (dK (d := default) hk))) (ro rfl (dZ A_22 Z_22 (Ht rfl)) (ra rfl (ra rfl (R_nil (cU (rm rfl (rm rfl (rm rfl (ro rfl (cX Tryz.call26 (c_refList4 (by omega)) ⟨(Ht rfl), trivial⟩) (ro rfl (op_idxO U_32 Z_31 (Ht rfl) (Ht rfl) rfl (i := 0) rfl (by first | omega | (simp; omega)) rfl) (R_stO Z_31 (Ht rfl) (Ht rfl) El.one (i := 0) rfl rfl (by first | omega | (simp; omega)) rfl (R_nil (T_blk ?_))))))))))))))))))
  refine cU (ro rfl (dJ (Ht rfl) (cZ 1) (by show _ < 9223372036854775808; first | omega | (simp only [lim]; omega))) (rm rfl (R_nil (T_again (k + 1, _) (hS.next hk rfl) (by dsimp only; omega) (aQ rfl (aQ rfl (aQ rfl (aQ rfl aX)))) (aK (rowO_of (set_mapF QsT _ _ _)) aU)))))
 ·simp only [decide_eq_false_iff_not] at hk
  obtain rfl : k = m.length := Nat.le_antisymm hS.kle (by omega)
  have hfin := hS.fin
  rw [tab_list m (fun r => r.map Rt.q)] at hfin
  refine T_exit rfl (T_freeze (i := 0) (tt := 3) rfl rfl frz_row (ts (rm rfl (ra rfl (R_nil (T_ret1 rfl (rv_to (rv_tmp rfl) ?_)))))))
  exact (slT_of (by rw [hfin]))
set_option maxRecDepth 20000 in
theorem c_is4 {z : List Qi} {s : List (List Qi)} {L : Nat} (hz : FitL z L) (hs : FitM s L) (hL1 : 1 ≤ L) (hL : L ≤ 8796093022208) (hsh : Shp s z.length z.length) (hl : z.length ≤ 1000) : Fun Tryz.prog 90 [NetT z s, RNetT z s] (BoolT true) := by
 have hs1 := hsh.1
 refine Fun.intro Tryz.func90 rfl Tryz.ntmps90 rfl (fun cx => (ts (rn rfl (new_box (Ht rfl)) fun B2 => (rn rfl (new_box (Ht rfl)) fun B3 => (ro rfl (bY cJ) (R_nil (cG (cG (C.D_start (m := 5) (dp 2 rfl (op_ldBA A_30 Z_30 (Ht rfl) (i := 0) rfl rfl rfl) (dq 13 0 rfl (cX Tryz.call37 c_Ports ⟨(Ht rfl), trivial⟩) (dp 3 rfl (op_fldB fa_34_0 (Ht rfl) rfl) (dq 15 2 rfl (op_ldB A_31 Z_31 (Ht rfl) (i := 1) rfl rfl) (dq 16 3 rfl (dW U_31 (Ht rfl) len_map) (C.D_done mixed rfl (by kernel_rfl) (aJ (aJ (aJ (aJ (aJ (aV ?_)))))))))))))))))))))
 refine ro rfl (op_neqN (Ht rfl) (Ht rfl)) (R_nil (T_condF (Ht rfl) (by simp) ?_))
 refine cK (cG (ts (ro rfl (op_fldB fa_34_0 (Ht rfl) rfl) (ro rfl (op_ldB A_31 Z_31 (Ht rfl) (i := 1) rfl rfl) (ro rfl (dW U_31 (Ht rfl) len_map) (ro rfl (cQ (cZ 0)) (R_nil (T_block ?_))))))))
 refine T_loop (fun (i : Nat) => i ≤ z.length) (fun (i : Nat) => z.length - i) (fun (i : Nat) => [(2, PtrB B2 0), (3, PtrB B3 0), (20, QsT z), (21, NT .i64 z.length), (22, NT .i64 i)]) (fun (i : Nat) => [box B2 30 [NumsT z, NumM s], box B3 34 [QsT z, QM s]]) 0 (Nat.zero_le _)
  (aQ rfl (aQ rfl (aQ rfl (aQ rfl (aQ rfl aX))))) (HSub.refl _) (fun i hi => ?_)
 refine ts (ro rfl (op_lssN (Ht rfl) (Ht rfl)) (R_nil (cG (cY (Ht rfl) (fun hd => ?_) (fun hd => ?_)))))
 ·simp only [decide_eq_true_eq] at hd
  haveI f1 : FitC (gv z i) L := hz.get hL1 i
  have hsr := hsh.row hd
  refine cK (cG (T_block (ts (rm rfl (ro rfl (dX U_31 Z_98 (Ht rfl) (Ht rfl) rfl (dU (dK (d := Qi.zero) hd))) (ro rfl (dZ A_98 Z_98 (Ht rfl)) (rn rfl (new_alloc (Ts := [Is (.bool false), Is (.slice none 0 0), Is (.bool false), Is (.slice none 0 0), Is (.slice none 0 0)]) O_98 rfl (fun V => aW ⟨rfl, trivial⟩ (aW ⟨rfl, trivial⟩ (aW ⟨rfl, trivial⟩ (aW ⟨rfl, trivial⟩ (aW ⟨rfl, trivial⟩ (aG))))))) fun B6 => (ra rfl (R_stA Z_98 (Ht rfl) (Ht rfl) rfl (i := 2) rfl (Nat.le_of_ble_eq_true rfl) rfl rfl ?_)))))))))
  refine R_nil (ts (ro rfl (op_ldBA A_30 Z_30 (Ht rfl) (i := 0) rfl rfl rfl) (rm rfl (ro rfl (dJ (Ht rfl) (cZ 1) (by show _ < 9223372036854775808; first | omega | (simp only [lim]; omega))) (ro rfl (cX Tryz.call63 (dY (c_Ref (z := z) (s := s) (i := ((i + 1 : Nat) : Int)) (by omega)) (is_ref hd)) ⟨(Ht rfl), (Ht rfl), trivial⟩) (rm rfl (ro rfl (dG (Ht rfl) rfl) (ro rfl (dG (Ht rfl) rfl) (rn rfl (new_alloc (Ts := [Is (.bool false), Is (.slice none 0 0), Is (.bool false), Is (.slice none 0 0), Is (.slice none 0 0)]) O_45 rfl (fun V => aW ⟨rfl, trivial⟩ (aW ⟨rfl, trivial⟩ (aW ⟨rfl, trivial⟩ (aW ⟨rfl, trivial⟩ (aW ⟨rfl, trivial⟩ (aG))))))) fun B7 => ?_)))))))))
  refine R_stA Z_45 (Ht rfl) (Ht rfl) rfl (i := 3) rfl (Nat.le_of_ble_eq_true rfl) rfl rfl (ra rfl (R_nil (cG (ts (rm rfl (ro rfl (op_neq (Ht rfl) cJ) (rm rfl (R_step rfl rfl (S_when rfl rfl (Ht rfl) (fun h => op_ldBA A_45 Z_45 (Ht rfl) (i := 3) rfl rfl rfl)) (R_step rfl rfl (S_when rfl rfl (Ht rfl) (fun h => op_ldBA A_98 Z_98 (Ht rfl) (i := 2) rfl rfl rfl)) (R_step rfl rfl (S_when rfl rfl (Ht rfl) (fun h => cX Tryz.call139 (c_lawIs (x := gv z i) (y := gv z i) (L := L) (M := L) hL hL) ⟨(Has.w rfl h), (Has.w rfl h), trivial⟩)) (R_step rfl rfl (S_when rfl rfl (Ht rfl) (fun h => op_not (Has.w rfl h))) ?_)))))))))))
  refine ro rfl (op_or (Ht rfl) (fun h => (Has.w rfl h))) (R_nil (T_condF (Ht rfl) (by simp) ?_))
  refine cK (ts (ro rfl (op_fldB fa_34_1 (Ht rfl) rfl) (ro rfl (op_ldB A_32 Z_32 (Ht rfl) (i := 1) rfl rfl) (rm rfl (ro rfl (dX U_32 Z_31 (Ht rfl) (Ht rfl) rfl (dU (dK (d := []) (by omega)))) (ro rfl (dZ A_31 Z_31 (Ht rfl)) (ro rfl (dW U_31 (Ht rfl) len_map) (ro rfl (cQ (cZ 0)) (R_nil (T_block (T_keep [0, 1] rfl (by decide) ?_)))))))))))
  refine T_loop (fun (j : Nat) => j ≤ z.length) (fun (j : Nat) => z.length - j) (fun (j : Nat) => [(2, PtrB B2 0), (3, PtrB B3 0), (5, NT .i64 i), (20, QsT z), (21, NT .i64 z.length), (22, NT .i64 i), (46, QsT (s.getD i [])), (47, NT .i64 z.length), (48, NT .i64 j)]) (fun (j : Nat) => [box B2 30 [NumsT z, NumM s], box B3 34 [QsT z, QM s]]) 0 (Nat.zero_le _)
   (aQ rfl (aQ rfl (aQ rfl (aQ rfl (aQ rfl (aQ rfl (aQ rfl (aZ rfl (nt_of hsr) (aQ rfl aX))))))))) (HSub.refl _) (fun j hj => ?_)
  refine ts (ro rfl (op_lssN (Ht rfl) (Ht rfl)) (R_nil (cG (cY (Ht rfl) (fun hf => ?_) (fun hf => ?_)))))
  ·simp only [decide_eq_true_eq] at hf
   haveI f2 : FitC (gm s i j) L := hs.get hL1 i j
   refine cK (cG (T_block (ts (rm rfl (ro rfl (dX U_31 Z_98 (Ht rfl) (Ht rfl) rfl (dU (dK (d := Qi.zero) (by omega)))) (ro rfl (dZ A_98 Z_98 (Ht rfl)) (rn rfl (new_alloc (Ts := [Is (.bool false), Is (.slice none 0 0), Is (.bool false), Is (.slice none 0 0), Is (.slice none 0 0)]) O_98 rfl (fun V => aW ⟨rfl, trivial⟩ (aW ⟨rfl, trivial⟩ (aW ⟨rfl, trivial⟩ (aW ⟨rfl, trivial⟩ (aW ⟨rfl, trivial⟩ (aG))))))) fun B10 => (ra rfl (R_stA Z_98 (Ht rfl) (Ht rfl) rfl (i := 2) rfl (Nat.le_of_ble_eq_true rfl) rfl rfl ?_)))))))))
   refine R_nil (ts (ro rfl (op_ldBA A_30 Z_30 (Ht rfl) (i := 0) rfl rfl rfl) (rm rfl (ro rfl (dJ (Ht rfl) (cZ 1) (by show _ < 9223372036854775808; first | omega | (simp only [lim]; omega))) (rm rfl (ro rfl (dJ (Ht rfl) (cZ 1) (by show _ < 9223372036854775808; first | omega | (simp only [lim]; omega))) (ro rfl (cX Tryz.call65 (dY (c_At (z := z) (s := s) (i := ((i + 1 : Nat) : Int)) (j := ((j + 1 : Nat) : Int)) hsh (by omega)) (is_at hd hf)) ⟨(Ht rfl), (Ht rfl), (Ht rfl), trivial⟩) (rm rfl (ro rfl (dG (Ht rfl) rfl) (ro rfl (dG (Ht rfl) rfl) ?_))))))))))
   refine rn rfl (new_alloc (Ts := [Is (.bool false), Is (.slice none 0 0), Is (.bool false), Is (.slice none 0 0), Is (.slice none 0 0)]) O_45 rfl (fun V => aW ⟨rfl, trivial⟩ (aW ⟨rfl, trivial⟩ (aW ⟨rfl, trivial⟩ (aW ⟨rfl, trivial⟩ (aW ⟨rfl, trivial⟩ (aG))))))) fun B11 => R_stA Z_45 (Ht rfl) (Ht rfl) rfl (i := 3) rfl (Nat.le_of_ble_eq_true rfl) rfl rfl (ra rfl (R_nil (ts (rm rfl (ro rfl (op_neq (Ht rfl) cJ) (rm rfl (R_step rfl rfl (S_when rfl rfl (Ht rfl) (fun h => op_ldBA A_45 Z_45 (Ht rfl) (i := 3) rfl rfl rfl)) ?_)))))))
   refine R_step rfl rfl (S_when rfl rfl (Ht rfl) (fun h => op_ldBA A_98 Z_98 (Ht rfl) (i := 2) rfl rfl rfl)) (R_step rfl rfl (S_when rfl rfl (Ht rfl) (fun h => cX Tryz.call139 (c_lawIs (x := gm s i j) (y := gm s i j) (L := L) (M := L) hL hL) ⟨(Has.w rfl h), (Has.w rfl h), trivial⟩)) (R_step rfl rfl (S_when rfl rfl (Ht rfl) (fun h => op_not (Has.w rfl h))) (ro rfl (op_or (Ht rfl) (fun h => (Has.w rfl h))) (R_nil (T_condF (Ht rfl) (by simp) ?_)))))
   refine cK (T_blk (cU (ro rfl (dJ (Ht rfl) (cZ 1) (by show _ < 9223372036854775808; first | omega | (simp only [lim]; omega))) (rm rfl (R_nil (T_keep [0, 1] rfl (by decide) (T_again (j + 1) hf (by omega) (aQ rfl (aQ rfl (aQ rfl (aQ rfl (aQ rfl (aQ rfl (aQ rfl (aQ rfl (aQ rfl aX))))))))) (HSub.refl _))))))))
  ·refine T_exit rfl (T_blk (cU (ro rfl (dJ (Ht rfl) (cZ 1) (by show _ < 9223372036854775808; first | omega | (simp only [lim]; omega))) (rm rfl (R_nil (T_keep [0, 1] rfl (by decide) (T_again (i + 1) hd (by omega) (aQ rfl (aQ rfl (aQ rfl (aQ rfl (aQ rfl aX))))) (HSub.refl _))))))))
 ·refine T_exit rfl (ts (ro rfl (bY cJ) (R_nil ?_)))
  exact T_ret1 rfl (rv_tmp rfl)
set_option maxRecDepth 20000 in
theorem c_ans4 {z : List Qi} {s : List (List Qi)} {e : Int} {L : Nat} (hz : FitL z L) (hs : FitM s L) (hL1 : 1 ≤ L) (hL : L ≤ 8796093022208) (hsh : Shp s z.length z.length) (hl : z.length ≤ 1000) : Fun Tryz.prog 30 [NetT z s, IntT .i64 e, RNetT z s, IntT .i64 e] (BoolT true) := by
 refine Fun.intro Tryz.func30 rfl Tryz.ntmps30 rfl (fun cx => (ts (rn rfl (new_box (Ht rfl)) fun B4 => (rn rfl (new_box (Ht rfl)) fun B6 => (ro rfl (bY cJ) (R_nil (ts (rm rfl (rm rfl (ro rfl (op_eql (Ht rfl) (Ht rfl)) (rm rfl (R_step rfl rfl (S_when rfl rfl (Ht rfl) (fun h => op_ldBA A_30 Z_30 (Ht rfl) (i := 0) rfl rfl rfl)) (R_step rfl rfl (S_when rfl rfl (Ht rfl) (fun h => op_ldBA A_34 Z_34 (Ht rfl) (i := 1) rfl rfl rfl)) (R_step rfl rfl (S_when rfl rfl (Ht rfl) (fun h => cX Tryz.call90 (c_is4 hz hs hL1 hL hsh hl) ⟨(Has.w rfl h), (Has.w rfl h), trivial⟩)) ?_))))))))))))))
 refine ro rfl (op_and (Ht rfl) (fun h => (Has.w rfl h))) (ra rfl (R_nil (T_ret1 rfl (rv_to (rv_tmp rfl) ?_))))
 exact (bool_of (by simp))
end
section
open Go Go.RowKit
theorem tm_bound (x : Int) {b : Int} (h : 0 < b) : -b < x.tmod b ∧ x.tmod b < b := by
  by_cases hx : 0 ≤ x
  · rw [Int.tmod_eq_emod_of_nonneg hx]
    have h1 := Int.emod_nonneg x (by omega : b ≠ 0)
    have h2 := Int.emod_lt_of_pos x h
    omega
  · have e : x.tmod b = -((-x).tmod b) := by rw [Int.neg_tmod, Int.neg_neg]
    rw [e, Int.tmod_eq_emod_of_nonneg (by omega : 0 ≤ -x)]
    have h1 := Int.emod_nonneg (-x) (by omega : b ≠ 0)
    have h2 := Int.emod_lt_of_pos (-x) h
    omega
def absI (x : Int) : Int := if x < 0 then -x else x
theorem absI_b {x : Int} {b : Int} (h : -b < x ∧ x < b) : 0 ≤ absI x ∧ absI x < b := by unfold absI; split <;> omega
def smR (r : Rt) : Rt where
  re := r.re.tmod 9
  im := r.im.tmod 9
  den := absI (r.den.tmod 4) + 1
  h1 := by have := tm_bound r.re (b := 9) (by decide); omega
  h2 := by have := tm_bound r.re (b := 9) (by decide); omega
  h3 := by have := tm_bound r.im (b := 9) (by decide); omega
  h4 := by have := tm_bound r.im (b := 9) (by decide); omega
  h5 := by have := absI_b (tm_bound r.den (b := 4) (by decide)); omega
  h6 := by have := absI_b (tm_bound r.den (b := 4) (by decide)); omega
def imR (r : Rt) : Rt where
  re := absI (smR r).re + 1
  im := 0
  den := (smR r).den
  h1 := by have := absI_b (tm_bound r.re (b := 9) (by decide)); show _ ≤ absI (r.re.tmod 9) + 1; omega
  h2 := by have := absI_b (tm_bound r.re (b := 9) (by decide)); show absI (r.re.tmod 9) + 1 ≤ _; omega
  h3 := by decide
  h4 := by decide
  h5 := (smR r).h5
  h6 := (smR r).h6
def pkR (l : List Rt) (i : Nat) : Rt := if l.length = 0 then default else l.getD (i % l.length) default
def plN (a : Nat) : Nat := a % 4 + 1
def plZ (a : Nat) (zl : List Rt) : List Rt := tab (plN a) fun i => imR (pkR zl i)
def plS (a : Nat) (sl : List Rt) : List (List Rt) := tab (plN a) fun i => tab (plN a) fun j => smR (pkR sl (plN a * i + j))
theorem imR_pos (r : Rt) : posQ (imR r).q = true := by
  have h1 := absI_b (tm_bound r.re (b := 9) (by decide))
  have h2 := absI_b (tm_bound r.den (b := 4) (by decide))
  have hd : (imR r).d = absI (r.den.tmod 4) + 1 := by
    show (if absI (r.den.tmod 4) + 1 = 0 then 1 else absI (r.den.tmod 4) + 1) = _
    rw [if_neg (by omega)]
  have hq : (imR r).q = Qi.frac (absI (r.re.tmod 9) + 1) 0 (absI (r.den.tmod 4) + 1) := by rw [Rt.q, hd]; rfl
  have hb : (imR r).q.b = 0 := Qi.b_zero.2 (by rw [hq]; show ((0 : Int) : Rat) / _ = 0; rw [Rat.div_def]; exact Rat.zero_mul _)
  have ha : 0 < (imR r).q.a := by
    rw [Qi.a_pos, hq]
    show (0 : Rat) < ((absI (r.re.tmod 9) + 1 : Int) : Rat) / ((absI (r.den.tmod 4) + 1 : Int) : Rat)
    rw [Rat.div_def]
    refine Rat.mul_pos (Rat.intCast_pos.2 (by omega)) (Rat.inv_pos.2 (Rat.intCast_pos.2 (by omega)))
  simp only [posQ, hb, ha, and_self, decide_true]
theorem pl_err (a : Nat) (zl sl : List Rt) : netErr ((plZ a zl).map Rt.q) (rq (plS a sl)) = 0 := by
  have hz : ((plZ a zl).map Rt.q).length = plN a := by rw [List.length_map, plZ, tab_len]
  have hs : (rq (plS a sl)).length = plN a := by rw [List.length_map, plS, tab_len]
  have hn : plN a ≤ 4 := by unfold plN; omega
  have hn1 : 1 ≤ plN a := by unfold plN; omega
  rw [netErr, if_neg, if_pos]
  · rw [List.all_eq_true]
    intro x hx
    obtain ⟨r, hr, rfl⟩ := List.mem_map.1 hx
    obtain ⟨i, _, rfl⟩ := tab_mem.1 hr
    exact imR_pos _
  · rw [hz, hs]
    rintro (h | h | h | h)
    · omega
    · omega
    · exact h rfl
    · obtain ⟨r, hr, h2⟩ := List.any_eq_true.1 h
      obtain ⟨y, hy, rfl⟩ := List.mem_map.1 hr
      obtain ⟨i, _, rfl⟩ := tab_mem.1 hy
      simp [tab_len] at h2
end
section
open Go Go.RowKit
theorem bld_91_0_1_2 {n : Nat} {E : Env} {H : Hp} {d : Option Tmp} {t : TypeId} {pos : String} {af : Array Edge} {g : Option (Nat × Bool)} {x0 x1 x2 : Operand} {T0 T1 T2 : Ty} [s0 : Shape T0 1 false] (h0 : Has E x0 T0) [s1 : Shape T1 1 false] (h1 : Has E x1 T1) [s2 : Shape T2 1 false] (h2 : Has E x2 T2) :
    OpTy Tryz.prog n E H ⟨d, .build 91 #[(0, x0), (1, x1), (2, x2)], t, pos, af, g⟩ (AggT [T0, T1, T2]) :=
  op_build (parts := [(0, x0), (1, x1), (2, x2)]) fun a V w hs => by
    have p0 := h0 n V a hs
    generalize e0 : a.eval x0 = v0 at p0
    have q0 := (s0.ok v0 V p0).2.2 rfl
    have p1 := h1 n V a hs
    generalize e1 : a.eval x1 = v1 at p1
    have q1 := (s1.ok v1 V p1).2.2 rfl
    have p2 := h2 n V a hs
    generalize e2 : a.eval x2 = v2 at p2
    have q2 := (s2.ok v2 V p2).2.2 rfl
    refine ⟨.agg #[v0, v1, v2], ?_, [v0, v1, v2], rfl, aW (⟨p0, q0⟩) (aW (⟨p1, q1⟩) (aW (⟨p2, q2⟩) (aG)))⟩
    simp [e0, e1, e2, Instr.build, Instr.fill, Sem.run_bind, Result.andThen, cells_agg, q0.cells, q1.cells, q2.cells, O_91, U_91, Z_2]
end
section
open Go Go.RowKit
set_option maxRecDepth 20000 in
theorem c_AreAll {l : List Qi} {L : Nat} (hf : FitL l L) (hL1 : 1 ≤ L) (hL : L ≤ 8796093022208) (hl : l.length ≤ 1000) : Fun Tryz.prog 103 [NumsT l, QsT l] (BoolT true) := by
 refine Fun.intro Tryz.func103 rfl Tryz.ntmps103 rfl (fun cx => (ts (ro rfl (bY cJ) (R_nil (cG (ts (rm rfl (ro rfl (dW U_27 (Ht rfl) len_map) (rm rfl (ro rfl (dW U_31 (Ht rfl) len_map) (ro rfl (op_neqN (Ht rfl) (Ht rfl)) (R_nil (T_condF (Ht rfl) (by simp) ?_)))))))))))))
 refine cK (cG (ts (rm rfl (ro rfl (dW U_27 (Ht rfl) len_map) (ro rfl (cQ (cZ 0)) (R_nil (T_block ?_)))))))
 refine T_loop (fun (k : Nat) => k ≤ l.length) (fun (k : Nat) => l.length - k) (fun (k : Nat) => [(0, NumsT l), (1, QsT l), (12, NumsT l), (13, NT .i64 l.length), (14, NT .i64 k)]) (fun (k : Nat) => []) 0 (Nat.zero_le _)
  (aQ rfl (aQ rfl (aQ rfl (aQ rfl (aQ rfl aX))))) aU (fun k hk => ?_)
 refine ts (ro rfl (op_lssN (Ht rfl) (Ht rfl)) (R_nil (cG (cY (Ht rfl) (fun hd => ?_) (fun hd => ?_)))))
 ·simp only [decide_eq_true_eq] at hd
  haveI f1 : FitC (gv l k) L := hf.get hL1 k
  refine cK (cG (T_block (ts (rm rfl (ro rfl (dX U_27 Z_45 (Ht rfl) (Ht rfl) rfl (dU (dK (d := Qi.zero) hd))) (ro rfl (dZ A_45 Z_45 (Ht rfl)) (rn rfl (new_alloc (Ts := [Is (.bool false), Is (.slice none 0 0), Is (.bool false), Is (.slice none 0 0), Is (.slice none 0 0)]) O_45 rfl (fun V => aW ⟨rfl, trivial⟩ (aW ⟨rfl, trivial⟩ (aW ⟨rfl, trivial⟩ (aW ⟨rfl, trivial⟩ (aW ⟨rfl, trivial⟩ (aG))))))) fun B6 => (ra rfl (R_stA Z_45 (Ht rfl) (Ht rfl) rfl (i := 0) rfl (Nat.le_of_ble_eq_true rfl) rfl rfl ?_)))))))))
  refine R_nil (cG (C.D_start (m := 5) (dp 6 rfl (op_ldBA A_45 Z_45 (Ht rfl) (i := 0) rfl rfl rfl) (dp 1 rfl (cQ (Ht rfl)) (dp 5 rfl (cQ (Ht rfl)) (dqq 20 1 21 2 rfl (dX U_31 Z_98 (Ht rfl) (Ht rfl) rfl (dU (dK (d := Qi.zero) hd))) (dq 22 3 rfl (dZ A_98 Z_98 (Ht rfl)) (C.D_done mixed rfl (by kernel_rfl) (aJ (aJ (aJ (aJ (aJ (aV (ro rfl (cX Tryz.call139 (c_lawIs (x := gv l k) (y := gv l k) (L := L) (M := L) hL hL) ⟨(Ht rfl), (Ht rfl), trivial⟩) (ro rfl (op_not (Ht rfl)) ?_))))))))))))))))
  refine R_nil (T_condF (Ht rfl) (by simp) ?_)
  refine cK (T_blk (cU (ro rfl (dJ (Ht rfl) (cZ 1) (by show _ < 9223372036854775808; first | omega | (simp only [lim]; omega))) (rm rfl (R_nil (T_keep [] rfl (by decide) (T_again (k + 1) hd (by omega) (aQ rfl (aQ rfl (aQ rfl (aQ rfl (aQ rfl aX))))) aU)))))))
 ·refine T_exit rfl (ts (ro rfl (bY cJ) (R_nil ?_)))
  exact T_ret1 rfl (rv_tmp rfl)
set_option maxRecDepth 20000 in
theorem c_small {r : Rt} : Fun Tryz.prog 161 [RatT r] (RatT (smR r)) := by
 have b1 := tm_bound r.den (b := 4) (by decide)
 refine Fun.intro Tryz.func161 rfl Tryz.ntmps161 rfl (fun cx => (ts (rn rfl (new_box (Ht rfl)) fun B1 => (rn rfl (new_alloc (Ts := [Is (.int .i64 0), Is (.int .i64 0), Is (.int .i64 0)]) O_91 rfl (fun V => aW ⟨rfl, trivial⟩ (aW ⟨rfl, trivial⟩ (aW ⟨rfl, trivial⟩ (aG))))) fun B2 => (R_nil (ts (ro rfl (op_fldB fa_91_2 (Ht rfl) rfl) (ro rfl (op_ldB A_2 Z_2 (Ht rfl) (i := 0) rfl rfl) (ro rfl (op_rem (Ht rfl) cJ (by decide) rfl) (ra rfl (R_nil (cG (T_join (fun (d : Int) => d = absI (r.den.tmod 4)) (fun (d : Int) => [(1, PtrB B1 0), (2, PtrB B2 0), (3, IntT .i64 d)]) (fun (d : Int) => [box B1 91 [IntT .i64 r.re, IntT .i64 r.im, IntT .i64 r.den], box B2 91 [Is (.int .i64 0), Is (.int .i64 0), Is (.int .i64 0)]]) ?_ (fun d hd => ?_))))))))))))))
 ·refine ts (rm rfl (ro rfl (op_lss (Ht rfl) cJ) (R_nil (cY (Ht rfl) (fun hb => ?_) (fun hb => ?_)))))
  ·have hb2 : r.den.tmod 4 < 0 := of_decide_eq_true hb
   refine cU (rm rfl (ro rfl (op_neg (Ht rfl) (w64 (by omega))) (ra rfl (R_nil (T_joined (-(r.den.tmod 4)) (by rw [absI, if_pos hb2]) (aQ rfl (aQ rfl (aQ rfl aX))) (HSub.refl _))))))
  ·have hb2 : ¬ r.den.tmod 4 < 0 := of_decide_eq_false hb
   refine cK (T_joined (r.den.tmod 4) (by rw [absI, if_neg hb2]) (aQ rfl (aQ rfl (aQ rfl aX))) (HSub.refl _))
 ·have b2 := absI_b b1
  rw [← hd] at b2
  refine ts (ro rfl (op_fldB fa_91_0 (Ht rfl) rfl) (ro rfl (op_ldB A_2 Z_2 (Ht rfl) (i := 0) rfl rfl) (ro rfl (op_rem (Ht rfl) cJ (by decide) rfl) (ro rfl (op_fldB fa_91_1 (Ht rfl) rfl) (ro rfl (op_ldB A_2 Z_2 (Ht rfl) (i := 0) rfl rfl) (ro rfl (op_rem (Ht rfl) cJ (by decide) rfl) (rm rfl (ro rfl (op_add (Ht rfl) cJ (w64 (by omega))) (ro rfl (bld_91_0_1_2 (Ht rfl) (Ht rfl) (Ht rfl)) (R_stA Z_91 (Ht rfl) (Ht rfl) rfl (i := 1) rfl (Nat.le_of_ble_eq_true rfl) rfl rfl (R_nil (T_ret1 rfl (rv_to (rv_cell A_91 Z_91 rfl (i := 1) rfl rfl) ?_)))))))))))))
  exact (fun v V h => by rw [hd] at h; exact h)
set_option maxRecDepth 20000 in
theorem c_imped {r : Rt} : Fun Tryz.prog 74 [RatT r] (RatT (imR r)) := by
 have b1 : -9 < (smR r).re ∧ (smR r).re < 9 := tm_bound r.re (b := 9) (by decide)
 refine Fun.intro Tryz.func74 rfl Tryz.ntmps74 rfl (fun cx => (ts (rn rfl (new_box (Ht rfl)) fun B1 => (rn rfl (new_alloc (Ts := [Is (.int .i64 0), Is (.int .i64 0), Is (.int .i64 0)]) O_91 rfl (fun V => aW ⟨rfl, trivial⟩ (aW ⟨rfl, trivial⟩ (aW ⟨rfl, trivial⟩ (aG))))) fun B2 => (R_nil (ts (ro rfl (op_ldBA A_91 Z_91 (Ht rfl) (i := 0) rfl rfl rfl) (ro rfl (cX Tryz.call161 c_small ⟨(Ht rfl), trivial⟩) (rn rfl (new_alloc (Ts := [Is (.int .i64 0), Is (.int .i64 0), Is (.int .i64 0)]) O_91 rfl (fun V => aW ⟨rfl, trivial⟩ (aW ⟨rfl, trivial⟩ (aW ⟨rfl, trivial⟩ (aG))))) fun B3 => ?_)))))))))
 refine R_stA Z_91 (Ht rfl) (Ht rfl) rfl (i := 2) rfl (Nat.le_of_ble_eq_true rfl) rfl rfl (R_nil (cG (T_join (fun (x : Int) => x = absI (smR r).re) (fun (x : Int) => [(1, PtrB B1 0), (2, PtrB B2 0), (3, PtrB B3 0)]) (fun (x : Int) => [box B1 91 [IntT .i64 r.re, IntT .i64 r.im, IntT .i64 r.den], box B2 91 [Is (.int .i64 0), Is (.int .i64 0), Is (.int .i64 0)], box B3 91 [IntT .i64 x, IntT .i64 (smR r).im, IntT .i64 (smR r).den]]) ?_ (fun x hx => ?_))))
 ·refine ts (ro rfl (op_fldB fa_91_0 (Ht rfl) rfl) (ro rfl (op_ldB A_2 Z_2 (Ht rfl) (i := 2) rfl rfl) (ro rfl (op_lss (Ht rfl) cJ) (R_nil (cY (Ht rfl) (fun hb => ?_) (fun hb => ?_))))))
  ·have hb2 : (smR r).re < 0 := of_decide_eq_true hb
   refine cU (ro rfl (op_fldB fa_91_0 (Ht rfl) rfl) (ro rfl (op_ldB A_2 Z_2 (Ht rfl) (i := 2) rfl rfl) (ro rfl (op_neg (Ht rfl) (w64 (by omega))) (ro rfl (op_fldB fa_91_0 (Ht rfl) rfl) (R_st Z_2 (Ht rfl) (Ht rfl) (i := 2) rfl (Nat.le_of_ble_eq_true rfl) rfl (R_nil (T_joined (-((smR r).re)) (by rw [absI, if_pos hb2]) (aQ rfl (aQ rfl (aQ rfl aX))) (HSub.refl _))))))))
  ·have hb2 : ¬ (smR r).re < 0 := of_decide_eq_false hb
   refine cK (T_joined ((smR r).re) (by rw [absI, if_neg hb2]) (aQ rfl (aQ rfl (aQ rfl aX))) (HSub.refl _))
 ·have b2 := absI_b b1
  rw [← hx] at b2
  refine ts (ro rfl (op_fldB fa_91_0 (Ht rfl) rfl) (ro rfl (op_ldB A_2 Z_2 (Ht rfl) (i := 2) rfl rfl) (ro rfl (op_add (Ht rfl) cJ (w64 (by omega))) (ro rfl (op_fldB fa_91_2 (Ht rfl) rfl) (ro rfl (op_ldB A_2 Z_2 (Ht rfl) (i := 2) rfl rfl) (ro rfl (bld_91_0_2 (Ht rfl) (Ht rfl)) (R_stA Z_91 (Ht rfl) (Ht rfl) rfl (i := 1) rfl (Nat.le_of_ble_eq_true rfl) rfl rfl (R_nil (T_ret1 rfl (rv_to (rv_cell A_91 Z_91 rfl (i := 1) rfl rfl) ?_))))))))))
  exact (fun v V h => by rw [hx] at h; exact h)
set_option maxRecDepth 20000 in
theorem c_pick {l : List Rt} {i : Nat} : Fun Tryz.prog 75 [RatsT l, NT .i64 i] (RatT (pkR l i)) := by
 refine Fun.intro Tryz.func75 rfl Tryz.ntmps75 rfl (fun cx => (ts (rn rfl (new_alloc (Ts := [Is (.int .i64 0), Is (.int .i64 0), Is (.int .i64 0)]) O_91 rfl (fun V => aW ⟨rfl, trivial⟩ (aW ⟨rfl, trivial⟩ (aW ⟨rfl, trivial⟩ (aG))))) fun B4 => (R_nil (cG (ts (rm rfl (ro rfl (dW U_22 (Ht rfl) len_map) (ro rfl (op_eqlN (Ht rfl) (cZ 0)) (R_nil (cY (Ht rfl) (fun hb => ?_) (fun hb => ?_))))))))))))
 ·have hb2 : l.length = 0 := by simpa only [decide_eq_true_eq] using hb
  refine ts (ro rfl (bld_91_ ) (R_stA Z_91 (Ht rfl) (Ht rfl) rfl (i := 0) rfl (Nat.le_of_ble_eq_true rfl) rfl rfl (R_nil (T_ret1 rfl (rv_to (rv_cell A_91 Z_91 rfl (i := 0) rfl rfl) ?_)))))
  exact (fun v V h => by rw [pkR, if_pos hb2]; exact h)
 ·have hb2 : ¬ l.length = 0 := by simpa only [decide_eq_false_iff_not] using hb
  have hm := Nat.mod_lt i (Nat.pos_of_ne_zero hb2)
  refine cK (ts (rm rfl (rm rfl (rm rfl (ro rfl (dW U_22 (Ht rfl) len_map) (ro rfl (op_remN (Ht rfl) (Ht rfl) (by omega)) (ro rfl (dX U_22 Z_91 (Ht rfl) (Ht rfl) rfl (dU (dK (d := default) hm))) (ro rfl (dZ A_91 Z_91 (Ht rfl)) (R_stA Z_91 (Ht rfl) (Ht rfl) rfl (i := 0) rfl (Nat.le_of_ble_eq_true rfl) rfl rfl (R_nil (T_ret1 rfl (rv_to (rv_cell A_91 Z_91 rfl (i := 0) rfl rfl) ?_))))))))))))
  exact (fun v V h => by rw [pkR, if_neg hb2]; exact h)
end
section
open Go Go.RowKit
namespace Qi
def npow' (x : Qi) : Nat → Qi
  | 0 => Qi.ofInt 1
  | k + 1 => npow' x k * x
theorem one_mul2 (x : Qi) : Qi.ofInt 1 * x = x := ext' (by show ((1 : Int) : Rat) * x.re - 0 * x.im = x.re; grind) (by show ((1 : Int) : Rat) * x.im + 0 * x.re = x.im; grind)
theorem mul_one2 (x : Qi) : x * Qi.ofInt 1 = x := by rw [mul_comm', one_mul2]
end Qi
instance qiField : Lean.Grind.CommRing Qi where
  natCast := ⟨fun n => Qi.ofInt n⟩
  ofNat n := ⟨Qi.ofInt n⟩
  nsmul := ⟨fun n x => Qi.ofInt n * x⟩
  npow := ⟨Qi.npow'⟩
  add_zero := Qi.add_zero'
  add_comm := Qi.add_comm'
  add_assoc := Qi.add_assoc'
  mul_assoc := Qi.mul_assoc'
  mul_comm := Qi.mul_comm'
  mul_one := Qi.mul_one2
  one_mul := Qi.one_mul2
  left_distrib := Qi.mul_add'
  right_distrib := Qi.add_mul'
  zero_mul := Qi.zero_mul'
  mul_zero := Qi.mul_zero'
  pow_zero _ := rfl
  pow_succ _ _ := rfl
  ofNat_succ n := Qi.ext' (by show (((n + 1 : Nat) : Int) : Rat) = ((n : Int) : Rat) + ((1 : Int) : Rat); rw [Int.natCast_add, Rat.intCast_add]; rfl) (by show (0 : Rat) = 0 + 0; grind)
  intCast := ⟨Qi.ofInt⟩
  zsmul := ⟨fun n x => Qi.ofInt n * x⟩
  neg_add_cancel x := Qi.ext' (by show -x.re + x.re = ((0 : Int) : Rat); grind) (by show -x.im + x.im = 0; grind)
  sub_eq_add_neg := Qi.sub_def
  neg_zsmul i x := Qi.ext' (by show ((-i : Int) : Rat) * x.re - 0 * x.im = -((i : Rat) * x.re - 0 * x.im); rw [Rat.intCast_neg]; grind) (by show ((-i : Int) : Rat) * x.im + 0 * x.re = -((i : Rat) * x.im + 0 * x.re); rw [Rat.intCast_neg]; grind)
  intCast_neg i := Qi.ext' (Rat.intCast_neg i) (by show (0 : Rat) = -0; grind)
theorem q0 : Qi.zero = 0 := rfl
theorem q1 : Qi.ofInt 1 = 1 := rfl
theorem mul_inv2 {x : Qi} (h : x ≠ 0) : x * Qi.inv x = 1 := by
  have hn : x.nrm ≠ 0 := fun e => h (Qi.nrm_zero.1 e)
  have e : x.re * x.re + x.im * x.im = x.nrm := rfl
  refine Qi.ext' ?_ ?_
  · show x.re * (x.re / x.nrm) - x.im * (-x.im / x.nrm) = ((1 : Int) : Rat)
    grind
  · show x.re * (-x.im / x.nrm) + x.im * (x.re / x.nrm) = 0
    grind
theorem div_eq {x y : Qi} (h : y ≠ 0) : x / y * y = x := by
  rw [Qi.div_def]
  have := mul_inv2 h
  grind
theorem mul_zero_or {x y : Qi} (h : x * y = 0) : x = 0 ∨ y = 0 := by
  by_cases e : x = 0
  · exact .inl e
  · right; have := mul_inv2 e; grind
end
section
open Go Go.RowKit
theorem sumN_sub (m : Nat) (f : Qi) (a b : Nat → Qi) : sumN m (fun k => a k - f * b k) = sumN m a - f * sumN m b := by
  induction m with
  | zero => simp only [sumN, q0]; grind
  | succ m ih => simp only [sumN, ih]; grind
theorem sumN_single {m i : Nat} (hi : i < m) {f : Nat → Qi} (h : ∀ k, k < m → k ≠ i → f k = 0) : sumN m f = f i := by
  induction m with
  | zero => omega
  | succ m ih =>
    by_cases e : i = m
    · subst e
      have : sumN i f = 0 := by
        rw [← q0, ← sumN_zero i]
        exact sumN_congr fun k hk => h k (by omega) (by omega)
      simp only [sumN, this]; grind
    · have h1 := ih (by omega) (fun k hk => h k (by omega))
      have h2 := h m (by omega) (by omega)
      simp only [sumN, h1, h2]; grind
theorem sumN_two {m i c : Nat} (hi : i < m) (hc : c < m) (hic : i ≠ c) {f : Nat → Qi} (h : ∀ k, k < m → k ≠ i → k ≠ c → f k = 0) : sumN m f = f i + f c := by
  have e : sumN m f = sumN m fun k => (if k = i then f i else 0) + (if k = c then f c else 0) := sumN_congr fun k hk => by
    by_cases e1 : k = i
    · subst e1; rw [if_pos rfl, if_neg hic]; grind
    · by_cases e2 : k = c
      · subst e2; rw [if_neg e1, if_pos rfl]; grind
      · rw [if_neg e1, if_neg e2, h k hk e1 e2]; grind
  rw [e, sumN_add, sumN_single hi (fun k _ hk => if_neg hk), sumN_single hc (fun k _ hk => if_neg hk), if_pos rfl, if_pos rfl]
theorem sumN_all0 {m : Nat} {f : Nat → Qi} (h : ∀ k, k < m → f k = 0) : sumN m f = 0 := by
  rw [← q0, ← sumN_zero m]; exact sumN_congr h
def Ker (M : List (List Qi)) (n m : Nat) (x : Nat → Qi) : Prop := ∀ i, i < n → sumN m (fun k => gm M i k * x k) = 0
def redJR (rr rc : List Qi) (c k : Nat) : List Qi := tab rr.length fun j => if c ≤ j ∧ j < k then gv rr j - gv rr c / gv rc c * gv rc j else gv rr j
def redJ (M : List (List Qi)) (c r : Nat) : List (List Qi) := tab M.length fun i => if i ≠ c ∧ i < r then redJR (rw' M i) (rw' M c) c (rw' M i).length else rw' M i
def gjTo (M : List (List Qi)) : Nat → Option (List (List Qi))
  | 0 => some M
  | c + 1 => (gjTo M c).bind fun A => if pv A c M.length = M.length then none else some (redJ (swp [] A (pv A c M.length) c) c M.length)
theorem redJ_len (M : List (List Qi)) (c r : Nat) : (redJ M c r).length = M.length := tab_len _ _
theorem redJR_len (rr rc : List Qi) (c k : Nat) : (redJR rr rc c k).length = rr.length := tab_len _ _
theorem redJ_row {M : List (List Qi)} {c r i : Nat} (hi : i < M.length) : rw' (redJ M c r) i = if i ≠ c ∧ i < r then redJR (rw' M i) (rw' M c) c (rw' M i).length else rw' M i := by
  simp only [rw', redJ, List.getD]; rw [tab_get hi]; rfl
theorem redJ_shp {M : List (List Qi)} {n m c r : Nat} (h : Shp M n m) : Shp (redJ M c r) n m := by
  refine ⟨(redJ_len _ _ _).trans h.1, fun x hx => ?_⟩
  obtain ⟨i, hi, rfl⟩ := tab_mem.1 hx
  have hr := h.row (i := i) (by rw [← h.1]; exact hi)
  show (if i ≠ c ∧ i < r then redJR (rw' M i) (rw' M c) c (rw' M i).length else rw' M i).length = m
  split
  · rw [redJR_len]; exact hr
  · exact hr
theorem redJ_gm {M : List (List Qi)} {n m c i j : Nat} (h : Shp M n m) (hi : i < n) (hj : j < m) : gm (redJ M c n) i j = if i ≠ c ∧ c ≤ j then gm M i j - gm M i c / gm M c c * gm M c j else gm M i j := by
  have hr : (rw' M i).length = m := h.row hi
  show gv (rw' (redJ M c n) i) j = _
  rw [redJ_row (by rw [h.1]; exact hi)]
  by_cases e : i = c
  · rw [if_neg (fun k => k.1 e), if_neg (fun k => k.1 e)]
  · rw [if_pos ⟨e, hi⟩, redJR, gv_tab (by omega)]
    by_cases e2 : c ≤ j
    · rw [if_pos ⟨e2, by omega⟩, if_pos ⟨e, e2⟩]
    · rw [if_neg (fun k => e2 k.1), if_neg (fun k => e2 k.2)]
theorem swp_rw {M : List (List Qi)} {p c i : Nat} (hp : p < M.length) (hc : c < M.length) : rw' (swp [] M p c) i = rw' M (if i = c then p else if i = p then c else i) := by
  simp only [rw', swp, List.getD]
  by_cases e : i = c
  · subst e; rw [List.getElem?_set_self (by simpa using hc), if_pos rfl]; rfl
  · rw [List.getElem?_set_ne (Ne.symm e), if_neg e]
    by_cases e2 : i = p
    · subst e2; rw [List.getElem?_set_self hp, if_pos rfl]; rfl
    · rw [List.getElem?_set_ne (Ne.symm e2), if_neg e2]
theorem ker_swp {M : List (List Qi)} {n m p c : Nat} {x : Nat → Qi} (hl : M.length = n) (hp : p < n) (hc : c < n) : Ker (swp [] M p c) n m x ↔ Ker M n m x := by
  have key : ∀ i, gm (swp [] M p c) i = gm M (if i = c then p else if i = p then c else i) := fun i => by
    funext j; exact congrArg (fun r => gv r j) (swp_rw (by omega) (by omega))
  constructor
  · intro h i hi
    have h1 := h (if i = c then p else if i = p then c else i) (by split <;> (try split) <;> omega)
    rw [key] at h1
    have e : (if (if i = c then p else if i = p then c else i) = c then p else if (if i = c then p else if i = p then c else i) = p then c else (if i = c then p else if i = p then c else i)) = i := by
      by_cases e1 : i = c
      · subst e1; rw [if_pos rfl]
        by_cases e2 : p = i
        · rw [if_pos e2]; exact e2
        · rw [if_neg e2, if_pos rfl]
      · rw [if_neg e1]
        by_cases e2 : i = p
        · subst e2; rw [if_pos rfl, if_pos rfl]
        · rw [if_neg e2, if_neg e1, if_neg e2]
    rw [e] at h1; exact h1
  · intro h i hi
    rw [key]; exact h _ (by split <;> (try split) <;> omega)
theorem ker_red {M : List (List Qi)} {n m c : Nat} {x : Nat → Qi} (hs : Shp M n m) (hc : c < n) (hz : ∀ j, j < c → gm M c j = 0) : Ker (redJ M c n) n m x ↔ Ker M n m x := by
  have key : ∀ i, i < n → i ≠ c → sumN m (fun k => gm (redJ M c n) i k * x k) = sumN m (fun k => gm M i k * x k) - gm M i c / gm M c c * sumN m (fun k => gm M c k * x k) := fun i hi e => by
    rw [← sumN_sub]
    refine sumN_congr fun k hk => ?_
    rw [redJ_gm hs hi hk]
    by_cases e2 : c ≤ k
    · rw [if_pos ⟨e, e2⟩]; grind
    · rw [if_neg (fun h => e2 h.2), hz k (by omega)]; grind
  have keyc : sumN m (fun k => gm (redJ M c n) c k * x k) = sumN m (fun k => gm M c k * x k) := sumN_congr fun k hk => by rw [redJ_gm hs hc hk, if_neg (fun h => h.1 rfl)]
  constructor
  · intro h i hi
    have h0 := h c hc
    rw [keyc] at h0
    by_cases e : i = c
    · rw [e]; exact h0
    · have h1 := h i hi
      rw [key i hi e, h0] at h1
      grind
  · intro h i hi
    have h0 := h c hc
    by_cases e : i = c
    · rw [e, keyc]; exact h0
    · rw [key i hi e, h0, h i hi]; grind
structure GJ (M A : List (List Qi)) (n m c : Nat) : Prop where
  sh : Shp A n m
  ker : ∀ x, Ker A n m x ↔ Ker M n m x
  off : ∀ j, j < c → ∀ i, i < n → i ≠ j → gm A i j = 0
  dg : ∀ j, j < c → gm A j j ≠ 0
theorem GJ.next {M A : List (List Qi)} {n m c p : Nat} (h : GJ M A n m c) (hc : c < n) (hnm : n ≤ m) (hcp : c ≤ p) (hp : p < n) (hz : gm A p c ≠ 0) : GJ M (redJ (swp [] A p c) c n) n m (c + 1) := by
  have hs : Shp (swp [] A p c) n m := swp_shp h.sh hp hc
  have hl := h.sh.1
  have key : ∀ i, gm (swp [] A p c) i = gm A (if i = c then p else if i = p then c else i) := fun i => by
    funext j; exact congrArg (fun r => gv r j) (swp_rw (by omega) (by omega))
  have hcc : gm (swp [] A p c) c c ≠ 0 := by rw [key, if_pos rfl]; exact hz
  have hoff : ∀ j, j < c → ∀ i, i < n → i ≠ j → gm (swp [] A p c) i j = 0 := fun j hj i hi hij => by
    rw [key]
    by_cases e1 : i = c
    · rw [if_pos e1]; exact h.off j hj p hp (by omega)
    · rw [if_neg e1]
      by_cases e2 : i = p
      · rw [if_pos e2]; exact h.off j hj c hc (by omega)
      · rw [if_neg e2]; exact h.off j hj i hi hij
  refine ⟨redJ_shp hs, fun x => (ker_red hs hc (fun j hj => hoff j hj c hc (by omega))).trans ((ker_swp hl hp hc).trans (h.ker x)), fun j hj i hi hij => ?_, fun j hj => ?_⟩
  · rw [redJ_gm hs hi (by omega)]
    by_cases e : j = c
    · subst e
      rw [if_pos ⟨hij, Nat.le_refl _⟩]
      have := div_eq (x := gm (swp [] A p j) i j) hcc
      grind
    · rw [if_neg (fun k => by omega)]; exact hoff j (by omega) i hi hij
  · rw [redJ_gm hs (by omega) (by omega)]
    by_cases e : j = c
    · subst e; rw [if_neg (fun k => k.1 rfl)]; exact hcc
    · rw [if_neg (fun k => by omega), key, if_neg (by omega), if_neg (by omega)]; exact h.dg j (by omega)
theorem gj_inv {M : List (List Qi)} {n m : Nat} (hs : Shp M n m) (hnm : n ≤ m) : ∀ {c : Nat} {A : List (List Qi)}, c ≤ n → gjTo M c = some A → GJ M A n m c
  | 0, A, _, h => by
    obtain rfl := Option.some.inj h
    exact ⟨hs, fun _ => Iff.rfl, fun j hj => by omega, fun j hj => by omega⟩
  | c + 1, A, hc, h => by
    simp only [gjTo] at h
    obtain ⟨B, h1, h2⟩ := Option.bind_eq_some_iff.1 h
    split at h2
    · cases h2
    · rename_i e
      obtain rfl := Option.some.inj h2
      have ih := gj_inv hs hnm (c := c) (by omega) h1
      rw [hs.1] at e ⊢
      obtain ⟨_, i2, i3, i4⟩ := pv_spec (M := B) (c := c) (n := n) (by omega)
      exact ih.next (by omega) hnm i2 (by omega) (i4 (by omega))
theorem gj_stop {M : List (List Qi)} : ∀ {n : Nat}, gjTo M n = none → ∃ c A, c < n ∧ gjTo M c = some A ∧ pv A c M.length = M.length
  | 0, h => by cases h
  | c + 1, h => by
    cases e : gjTo M c with
    | none =>
      obtain ⟨d, A, h1, h2, h3⟩ := gj_stop e
      exact ⟨d, A, by omega, h2, h3⟩
    | some A =>
      refine ⟨c, A, by omega, e, ?_⟩
      simp only [gjTo, e, Option.bind_some] at h
      by_cases e2 : pv A c M.length = M.length
      · exact e2
      · rw [if_neg e2] at h; cases h
theorem gj_sol {M A : List (List Qi)} {n : Nat} (h : GJ M A n (n + 1) n) : Ker M n (n + 1) fun k => if k < n then gm A k n / gm A k k else -1 := (h.ker _).1 fun i hi => by
  have hd := h.dg i hi
  have e : sumN n (fun k => gm A i k * if k < n then gm A k n / gm A k k else -1) = gm A i n := by
    rw [sumN_single hi (fun k hk hki => by rw [h.off k hk i hi (Ne.symm hki)]; grind), if_pos hi]
    have := div_eq (x := gm A i n) hd
    grind
  simp only [sumN, e]
  rw [if_neg (by omega)]; grind
theorem gj_triv {M A : List (List Qi)} {n : Nat} (h : GJ M A n (n + 1) n) {x : Nat → Qi} (hx : Ker M n (n + 1) x) (h0 : x n = 0) : ∀ k, k < n → x k = 0 := fun k hk => by
  have h1 := (h.ker x).2 hx k hk
  have e : sumN n (fun j => gm A k j * x j) = gm A k k * x k := sumN_single hk (fun j hj hjk => by rw [h.off j hj k hk (Ne.symm hjk)]; grind)
  simp only [sumN, e, h0] at h1
  rcases mul_zero_or (x := gm A k k) (y := x k) (by grind) with h2 | h2
  · exact absurd h2 (h.dg k hk)
  · exact h2
theorem gj_sing {M A : List (List Qi)} {n m c : Nat} (h : GJ M A n m c) (hc : c < n) (hnm : n ≤ m) (hz : ∀ r, c ≤ r → r < n → gm A r c = 0) : Ker M n m fun k => if k < c then -(gm A k c / gm A k k) else if k = c then 1 else 0 := (h.ker _).1 fun i hi => by
  by_cases e : i < c
  · rw [sumN_two (i := i) (c := c) (by omega) (by omega) (by omega) (fun k hk h1 h2 => ?_)]
    · rw [if_pos e, if_neg (by omega), if_pos rfl]
      have := div_eq (x := gm A i c) (h.dg i e)
      grind
    · by_cases e2 : k < c
      · rw [h.off k e2 i hi (Ne.symm h1)]; grind
      · rw [if_neg e2, if_neg h2]; grind
  · refine sumN_all0 fun k hk => ?_
    by_cases e2 : k < c
    · rw [h.off k e2 i hi (by omega)]; grind
    · rw [if_neg e2]
      by_cases e3 : k = c
      · rw [e3, hz i (by omega) hi]; grind
      · rw [if_neg e3]; grind
def gjX (M : List (List Qi)) (b : List Qi) (n : Nat) : Option (List Qi) := (gjTo (copyM M [b] n) n).map fun A => tab n fun i => gm A i n / gm A i i
theorem gv_app {l : List Qi} {z : Qi} {k : Nat} (h : k < l.length) : gv (l ++ [z]) k = gv l k := by
  simp only [gv, List.getD]; rw [List.getElem?_append_left h]
theorem gv_end {l : List Qi} {z : Qi} : gv (l ++ [z]) l.length = z := by
  simp [gv, List.getD]
theorem cp_gm {M : List (List Qi)} {b : List Qi} {n i : Nat} (h : Shp M n n) (hi : i < n) : (∀ k, k < n → gm (copyM M [b] n) i k = gm M i k) ∧ gm (copyM M [b] n) i n = gv b i := by
  obtain ⟨r, hr⟩ : ∃ r, r = rw' M i := ⟨_, rfl⟩
  have hl : r.length = n := by rw [hr]; exact h.row hi
  have e : rw' (copyM M [b] n) i = r ++ [gv b i] := by
    rw [hr]; simp only [rw', copyM, List.getD]; rw [tab_get hi]; rfl
  refine ⟨fun k hk => ?_, ?_⟩
  · show gv (rw' (copyM M [b] n) i) k = gv (rw' M i) k
    rw [e, ← hr, gv_app (by omega)]
  · show gv (rw' (copyM M [b] n) i) n = gv b i
    rw [e, ← hl, gv_end]
theorem cp_sum {M : List (List Qi)} {b : List Qi} {n i : Nat} (h : Shp M n n) (hi : i < n) (x : Nat → Qi) : sumN (n + 1) (fun k => gm (copyM M [b] n) i k * x k) = sumN n (fun k => gm M i k * x k) + gv b i * x n := by
  obtain ⟨h1, h2⟩ := cp_gm (b := b) h hi
  simp only [sumN, h2]
  rw [sumN_congr (fun k hk => by rw [h1 k hk])]
theorem gjX_some {M : List (List Qi)} {b X : List Qi} {n : Nat} (h : Shp M n n) (hX : gjX M b n = some X) : X.length = n ∧ (∀ i, i < n → sumN n (fun k => gm M i k * gv X k) = gv b i) ∧ ∀ y : Nat → Qi, (∀ i, i < n → sumN n (fun k => gm M i k * y k) = 0) → ∀ k, k < n → y k = 0 := by
  obtain ⟨A, hA, rfl⟩ := Option.map_eq_some_iff.1 hX
  have hg := gj_inv (copyM_shp (bs := [b]) h) (Nat.le_succ n) (Nat.le_refl n) hA
  refine ⟨tab_len _ _, fun i hi => ?_, fun y hy k hk => ?_⟩
  · have h1 := gj_sol hg i hi
    rw [cp_sum h hi] at h1
    have e : sumN n (fun k => gm M i k * if k < n then gm A k n / gm A k k else -1) = sumN n (fun k => gm M i k * gv (tab n fun i => gm A i n / gm A i i) k) := sumN_congr fun k hk => by rw [if_pos hk, gv_tab hk]
    rw [e, if_neg (by omega)] at h1
    grind
  · have h1 := gj_triv hg (x := fun k => if k < n then y k else 0) (fun i hi => ?_) (if_neg (by omega)) k hk
    · simpa [hk] using h1
    · rw [cp_sum h hi, if_neg (by omega), sumN_congr (fun k hk => by rw [if_pos hk]), hy i hi]; grind
theorem gjX_none {M : List (List Qi)} {b : List Qi} {n : Nat} (h : Shp M n n) (hX : gjX M b n = none) : ∃ y : Nat → Qi, (∀ i, i < n → sumN n (fun k => gm M i k * y k) = 0) ∧ ∃ k, k < n ∧ y k ≠ 0 := by
  have hcs : Shp (copyM M [b] n) n (n + 1) := copyM_shp h
  obtain ⟨c, A, hc, hA, hp⟩ := gj_stop (Option.map_eq_none_iff.1 hX)
  have hg := gj_inv hcs (Nat.le_succ n) (by omega) hA
  rw [hcs.1] at hp
  have hz := (pv_spec (M := A) (c := c) (n := n) (by omega)).1
  rw [hp] at hz
  have hk := gj_sing hg hc (Nat.le_succ n) hz
  refine ⟨fun k => if k < c then -(gm A k c / gm A k k) else if k = c then 1 else 0, fun i hi => ?_, c, hc, ?_⟩
  · have h1 := hk i hi
    rw [cp_sum h hi, if_neg (by omega), if_neg (by omega)] at h1
    grind
  · show (if c < c then -(gm A c c / gm A c c) else if c = c then (1 : Qi) else 0) ≠ 0
    rw [if_neg (by omega), if_pos rfl]
    intro e
    have := congrArg Qi.re e
    exact absurd this (by decide)
theorem redJR_fit {rr rc : List Qi} {L c k : Nat} (h1 : FitL rr L) (h2 : FitL rc L) (hL : 1 ≤ L) (hp : gv rc c ≠ Qi.zero) : FitL (redJR rr rc c k) (6 * L + 4) := FitL.tab fun j _ => by
  split
  · exact elt_fit h1 h2 hL hp
  · exact (h1.get hL j).le (by omega)
theorem redJ_fit {M : List (List Qi)} {L c r : Nat} (h : FitM M L) (hL : 1 ≤ L) (hp : gm M c c ≠ Qi.zero) : FitM (redJ M c r) (6 * L + 4) := fun x hx => by
  obtain ⟨i, hi, rfl⟩ := tab_mem.1 hx
  show FitL (if i ≠ c ∧ i < r then redJR (rw' M i) (rw' M c) c (rw' M i).length else rw' M i) _
  split
  · exact redJR_fit (h.row i) (h.row c) hL hp
  · exact (h.row i).le (by omega)
theorem gj_fit {M : List (List Qi)} {n m L : Nat} (hs : Shp M n m) (hnm : n ≤ m) (h : FitM M L) (hL : 1 ≤ L) : ∀ {c : Nat} {A : List (List Qi)}, c ≤ n → gjTo M c = some A → FitM A (grow L c)
  | 0, A, _, e => by obtain rfl := Option.some.inj e; exact h
  | c + 1, A, hc, e => by
    simp only [gjTo] at e
    obtain ⟨B, h1, h2⟩ := Option.bind_eq_some_iff.1 e
    split at h2
    · cases h2
    · rename_i e3
      obtain rfl := Option.some.inj h2
      have ih := gj_fit hs hnm h hL (c := c) (by omega) h1
      have hsB := (gj_inv hs hnm (c := c) (by omega) h1).sh
      rw [hs.1] at e3 ⊢
      obtain ⟨_, i2, i3, i4⟩ := pv_spec (M := B) (c := c) (n := n) (by omega)
      refine redJ_fit (swp_fit ih) (Nat.le_trans hL (grow_le L c)) ?_
      show gv (rw' (swp [] _ _ c) c) c ≠ _
      rw [swp_at (by rw [hsB.1]; omega)]
      exact i4 (by omega)
theorem redJR_start {rr rc : List Qi} {c : Nat} : rr = redJR rr rc c c := by
  unfold redJR
  have : (tab rr.length fun j => if c ≤ j ∧ j < c then gv rr j - gv rr c / gv rc c * gv rc j else gv rr j) = tab rr.length (gv rr) := tab_congr fun j _ => by rw [if_neg (by omega)]
  rw [this]; exact list_tab rfl
theorem redJR_get {rr rc : List Qi} {c k : Nat} (hk : k < rr.length) : gv (redJR rr rc c k) k = gv rr k := by
  rw [redJR, gv_tab hk, if_neg (by omega)]
theorem redJR_next {rr rc : List Qi} {c k : Nat} (hk : k < rr.length) (h : c ≤ k) : (redJR rr rc c k).set k (gv (redJR rr rc c k) k - gv rr c / gv rc c * gv rc k) = redJR rr rc c (k + 1) := by
  rw [redJR_get hk]
  apply List.ext_getElem?
  intro j
  by_cases hj : j < rr.length
  · by_cases e : j = k
    · subst e
      rw [List.getElem?_set_self (by rw [redJR_len]; exact hj), redJR, tab_get hj, if_pos (by omega)]
    · rw [List.getElem?_set_ne (Ne.symm e), redJR, redJR, tab_get hj, tab_get hj]
      by_cases e2 : c ≤ j ∧ j < k
      · rw [if_pos e2, if_pos (by omega)]
      · rw [if_neg e2, if_neg (by omega)]
  · rw [List.getElem?_eq_none (by rw [List.length_set, redJR_len]; omega), List.getElem?_eq_none (by rw [redJR_len]; omega)]
theorem redJ_start {M : List (List Qi)} {c : Nat} : M = redJ M c 0 := by
  unfold redJ
  have : (tab M.length fun i => if i ≠ c ∧ i < 0 then redJR (rw' M i) (rw' M c) c (rw' M i).length else rw' M i) = tab M.length (rw' M) := tab_congr fun i _ => by rw [if_neg (by omega)]
  rw [this]; exact tab_eq (h := rfl)
theorem redJ_at {M : List (List Qi)} {c r i : Nat} (hi : i < M.length) (h : ¬ (i ≠ c ∧ i < r)) : rw' (redJ M c r) i = rw' M i := by rw [redJ_row hi, if_neg h]
theorem redJ_skip {M : List (List Qi)} {c : Nat} : redJ M c c = redJ M c (c + 1) := tab_congr fun i _ => by
  by_cases e : i ≠ c ∧ i < c
  · rw [if_pos e, if_pos (by omega)]
  · rw [if_neg e, if_neg (by omega)]
theorem redJ_next {M : List (List Qi)} {c r : Nat} (hr : r < M.length) (h : r ≠ c) : (redJ M c r).set r (redJR (rw' M r) (rw' M c) c (rw' M r).length) = redJ M c (r + 1) := by
  apply List.ext_getElem?
  intro j
  by_cases hj : j < M.length
  · by_cases e : j = r
    · subst e
      rw [List.getElem?_set_self (by rw [redJ_len]; exact hj), redJ, tab_get hj, if_pos ⟨h, by omega⟩]
    · rw [List.getElem?_set_ne (Ne.symm e), redJ, redJ, tab_get hj, tab_get hj]
      by_cases e2 : j ≠ c ∧ j < r
      · rw [if_pos e2, if_pos ⟨e2.1, by omega⟩]
      · rw [if_neg e2, if_neg (fun k => e2 ⟨k.1, by omega⟩)]
  · rw [List.getElem?_eq_none (by rw [List.length_set, redJ_len]; omega), List.getElem?_eq_none (by rw [redJ_len]; omega)]
theorem stepJ_row {D : List (List Qi)} {r c : Nat} (hr : r < D.length) (h : r ≠ c) (hc : c < D.length) :
    (redJ D c r).set r (redJR (rw' (redJ D c r) r) (rw' (redJ D c r) c) c (rw' (redJ D c r) r).length) = redJ D c (r + 1) := by
  rw [redJ_at hr (by omega), redJ_at hc (by omega)]; exact redJ_next hr h
theorem stepJ_elt {X : List (List Qi)} {r c k : Nat} (hr : r < X.length) (hne : r ≠ c) (hk : k < (rw' X r).length) (hck : c ≤ k) :
    (X.set r (redJR (rw' X r) (rw' X c) c k)).set r ((rw' (X.set r (redJR (rw' X r) (rw' X c) c k)) r).set k (gm (X.set r (redJR (rw' X r) (rw' X c) c k)) r k - gm X r c / gm X c c * gm (X.set r (redJR (rw' X r) (rw' X c) c k)) c k)) = X.set r (redJR (rw' X r) (rw' X c) c (k + 1)) := by
  rw [set_set', rw_set hr]
  have e1 : gm (X.set r (redJR (rw' X r) (rw' X c) c k)) r k = gv (redJR (rw' X r) (rw' X c) c k) k := by show gv (rw' (X.set r _) r) k = _; rw [rw_set hr]
  have e2 : gm (X.set r (redJR (rw' X r) (rw' X c) c k)) c k = gv (rw' X c) k := by show gv (rw' (X.set r _) c) k = _; rw [rw_set_ne hne]
  rw [e1, e2]
  exact congrArg _ (redJR_next hk hck)
theorem eltJ_r {X : List (List Qi)} {r c k : Nat} (hr : r < X.length) (hk : k < (rw' X r).length) : gm (X.set r (redJR (rw' X r) (rw' X c) c k)) r k = gv (rw' X r) k := by
  show gv (rw' (X.set r _) r) k = _
  rw [rw_set hr, redJR_get hk]
theorem eltJ_c {X : List (List Qi)} {r c k j : Nat} (h : r ≠ c) : gm (X.set r (redJR (rw' X r) (rw' X c) c k)) c j = gv (rw' X c) j := by
  show gv (rw' (X.set r _) c) j = _
  rw [rw_set_ne h]
theorem gj_next {M A : List (List Qi)} {n c p : Nat} (hl : M.length = n) (hA : gjTo M c = some A) (hp : pv A c n = p) (hpn : p < n) : gjTo M (c + 1) = some (redJ (swp [] A p c) c n) := by
  simp only [gjTo, hA, Option.bind_some, hl, hp]
  rw [if_neg (by omega)]
theorem gj_end {M A : List (List Qi)} {n c : Nat} (hl : M.length = n) (hA : gjTo M c = some A) (hp : pv A c n = n) : ∀ {d : Nat}, c < d → gjTo M d = none
  | 0, h => by omega
  | d + 1, h => by
    simp only [gjTo]
    by_cases e : c = d
    · rw [← e, hA, Option.bind_some, hl, if_pos hp]
    · rw [gj_end hl hA hp (d := d) (by omega)]; rfl
def gjL (M : List (List Qi)) (b : List Qi) (n : Nat) : List Qi := (gjX M b n).getD []
def gjE (M : List (List Qi)) (b : List Qi) (n : Nat) : Int := if (gjX M b n).isSome then 0 else 6
end
section
open Go Go.RowKit
set_option maxRecDepth 20000 in
theorem c_rValid {M : List (List Qi)} {n m : Nat} (h : Shp M n m) (hn : n ≤ 32) (hm : m ≤ 32) : Fun Tryz.prog 214 [QM M] (BoolT true) := by
 have hl := h.1
 refine Fun.intro Tryz.func214 rfl Tryz.ntmps214 rfl (fun cx => (ts (ro rfl (bY cJ) (R_nil (cG (ts (rm rfl (ro rfl (dW U_32 (Ht rfl) len_map) (ro rfl (op_gtrN (Ht rfl) (cZ 32)) (R_nil (T_condF (Ht rfl) (by simp [hl]; omega) ?_)))))))))))
 refine cK (cG (ts (ro rfl (bY (cZ 0)) (R_nil (T_block ?_)))))
 refine T_loop (fun (i : Nat) => i ≤ n) (fun (i : Nat) => n - i) (fun (i : Nat) => [(0, QM M), (3, NT .i64 i)]) (fun (i : Nat) => []) 0 (Nat.zero_le _)
  (aQ rfl (aQ rfl aX)) aU (fun i hi => ?_)
 refine cG (ts (rm rfl (rm rfl (ro rfl (dW U_32 (Ht rfl) len_map) (ro rfl (op_lssN (Ht rfl) (Ht rfl)) (R_nil (cY (Ht rfl) (fun hd => ?_) (fun hd => ?_))))))))
 ·have hdn : i < n := by simp only [decide_eq_true_eq] at hd; omega
  have hr := h.row hdn
  have hr0 := h.row (i := 0) (by omega)
  simp at hr hr0
  refine cK (cG (T_block (cG (C.D_start (m := 13) (dp 0 rfl (cQ (Ht rfl)) (dp 3 rfl (cQ (Ht rfl)) (dqq 13 0 14 1 rfl (dX U_32 Z_31 (Ht rfl) (Ht rfl) rfl (dU (dK (d := []) (by omega)))) (dq 15 2 rfl (dZ A_31 Z_31 (Ht rfl)) (dq 16 3 rfl (dW U_31 (Ht rfl) len_map) (dp 0 rfl (cQ (Ht rfl)) (dq 18 5 rfl (dX U_32 Z_31 (Ht rfl) (cZ 0) rfl (dU (dK (d := []) (by omega)))) (dq 19 6 rfl (dZ A_31 Z_31 (Ht rfl)) (dq 20 7 rfl (dW U_31 (Ht rfl) len_map) ?_)))))))))))))
  refine dqq 17 4 21 8 rfl (op_neqN (Ht rfl) (Ht rfl)) (dq 22 9 rfl (cQ (Ht rfl)) (C.D_step (Ei := [(0, _), (23, _)]) rfl rfl (bJ (bG rfl rfl) (bJ (bW 10 rfl rfl) bV)) (S_when rfl rfl (Ht rfl) (fun h => cQ (Ht rfl))) (C.D_step (Ei := [(3, _), (23, _)]) rfl rfl (bJ (bG rfl rfl) (bJ (bW 10 rfl rfl) bV)) (S_when rfl rfl (Ht rfl) (fun h => cQ (Ht rfl))) (C.D_done mixed rfl (by kernel_rfl) (aJ (aJ (aJ (aJ (aJ (aJ (aJ (aJ (aJ (aJ (aJ (aJ (aJ (aV ?_))))))))))))))))))
  refine R_step rfl rfl (S_when rfl rfl (Ht rfl) (fun h => dX U_32 Z_31 (Has.w rfl h) (Has.w rfl h) rfl (dU (dK (d := []) (by omega))))) (R_step rfl rfl (S_when rfl rfl (Ht rfl) (fun h => dZ A_31 Z_31 (Has.w rfl h))) (R_step rfl rfl (S_when rfl rfl (Ht rfl) (fun h => dW U_31 (Has.w rfl h) len_map)) (R_step rfl rfl (S_when rfl rfl (Ht rfl) (fun h => op_gtrN (Has.w rfl h) (cZ 32))) (ro rfl (op_or (Ht rfl) (fun h => (Has.w rfl h))) (R_nil (T_condF (Ht rfl) (by simp [hr, hr0]; omega) ?_))))))
  refine cK (T_blk (cU (rm rfl (ro rfl (dJ (Ht rfl) (cZ 1) (by show _ < 9223372036854775808; first | omega | (simp only [lim]; omega))) (ra rfl (R_nil (T_again (i + 1) hdn (by omega) (aQ rfl (aQ rfl aX)) aU)))))))
 ·refine T_exit rfl (ts (ro rfl (bY cJ) (R_nil ?_)))
  exact T_ret1 rfl (rv_tmp rfl)
set_option maxRecDepth 20000 in
theorem c_rColumns {M : List (List Qi)} {n m : Nat} (h : Shp M n m) (h1 : 1 ≤ n) : Fun Tryz.prog 215 [QM M] (NT .i64 m) := by
 have hl := h.1
 have hr0 := h.row (i := 0) (by omega)
 refine Fun.intro Tryz.func215 rfl Tryz.ntmps215 rfl (fun cx => (ts (ro rfl (bY (cZ 0)) (R_nil (cG (ts (rm rfl (ro rfl (dW U_32 (Ht rfl) len_map) (ro rfl (op_eqlN (Ht rfl) (cZ 0)) (R_nil (T_condF (Ht rfl) (by simp [hl]; omega) ?_)))))))))))
 refine cK (ts (rm rfl (ro rfl (dX U_32 Z_31 (Ht rfl) (cZ 0) rfl (dU (dK (d := []) (by omega)))) (ro rfl (dZ A_31 Z_31 (Ht rfl)) (ro rfl (dW U_31 (Ht rfl) len_map) (ra rfl (R_nil (T_ret1 rfl (rv_to (rv_tmp rfl) ?_)))))))))
 exact (nt_of hr0)
set_option maxRecDepth 20000 in
theorem c_rSquare {M : List (List Qi)} {n : Nat} (hM : Shp M n n) (h1 : 1 ≤ n) (hn : n ≤ 32) : Fun Tryz.prog 252 [QM M] (BoolT true) := by
 have hl := hM.1
 refine Fun.intro Tryz.func252 rfl Tryz.ntmps252 rfl (fun cx => (ts (ro rfl (bY cJ) (R_nil (ts (rm rfl (ro rfl (cX Tryz.call214 (c_rValid hM hn hn) ⟨(Ht rfl), trivial⟩) (rm rfl (R_step rfl rfl (S_when rfl rfl (Ht rfl) (fun h => cQ (Ht rfl))) (R_step rfl rfl (S_when rfl rfl (Ht rfl) (fun h => dW U_32 (Has.w rfl h) len_map)) (R_step rfl rfl (S_when rfl rfl (Ht rfl) (fun h => cQ (Ht rfl))) (R_step rfl rfl (S_when rfl rfl (Ht rfl) (fun h => cX Tryz.call215 (c_rColumns hM h1) ⟨(Has.w rfl h), trivial⟩)) (R_step rfl rfl (S_when rfl rfl (Ht rfl) (fun h => op_eqlN (Has.w rfl h) (Has.w rfl h))) ?_)))))))))))))
 refine ro rfl (op_and (Ht rfl) (fun h => (Has.w rfl h))) (ra rfl (R_nil (T_ret1 rfl (rv_to (rv_tmp rfl) ?_))))
 exact (bool_of (by simp [hl]))
set_option maxRecDepth 20000 in
theorem c_rCopyO {M : List (List Qi)} {n m : Nat} (hM : Shp M n m) (hn : n ≤ 1000) (h1 : 1 ≤ m) (hm : m ≤ 1000) : FunO Tryz.prog 105 [QM M] [] (Nat) (fun B => Is (.slice (some ⟨B, 0, none⟩) n n)) (fun B => [matO B 31 98 5 (FRow QT M)]) (fun _ => True) := by
 have hMl := hM.1
 refine FunO.intro Tryz.func105 rfl Tryz.ntmps105 rfl (fun cx Z => (ts (ro rfl (bY cJ) (R_nil (ts (rm rfl (ro rfl (dW U_32 (Ht rfl) (by rw [List.length_map, hMl])) ?_)))))))
 refine rn rfl (new_make (T := Is (.slice none 0 0)) (i := Tryz.t31) Tryz.underlying32 info_31 rfl rfl (Ht rfl) rfl (fun _ => rfl) trivial (by show 24 * _ ≤ _; omega) (by omega)) fun B7 => ra rfl (R_nil (cG (ts (ro rfl (bY (cZ 0)) (R_nil (T_block (T_conv 1 rfl (mat_nil (e := 98) (s := 5)) ?_)))))))
 refine T_loop (fun (i : Nat) => i ≤ n) (fun (i : Nat) => n - i) (fun (i : Nat) => [(0, QM M), (3, Is (.slice (some ⟨B7, 0, none⟩) n n)), (4, NT .i64 i)]) (fun (i : Nat) => [Z, matO B7 31 98 5 (FRow QT (mixT (rw' M) [] n i))]) 0 (Nat.zero_le _)
  (aQ rfl (aQ rfl (aQ rfl aX))) (aK (fun _ _ _ h => h) (aK (matO_of (by rw [← mix_zero, tab_const]; exact rep_FRow QT n)) aU)) (fun i hi => ?_)
 refine cG (ts (rm rfl (rm rfl (ro rfl (dW U_32 (Ht rfl) len_map) (ro rfl (op_lssN (Ht rfl) (Ht rfl)) (R_nil (cY (Ht rfl) (fun hd0 => ?_) (fun hd0 => ?_))))))))
 ·have hdn : i < n := by simp only [decide_eq_true_eq] at hd0; omega
  have hrl : (rw' M i).length = m := hM.row hdn
  have hrl2 : (M.getD i []).length = m := hrl
  refine T_focus 1 (i) rfl (frow_mix hdn) (fun v0 => (cK (cG (T_block (cU (rm rfl (rm rfl (rn rfl (new_bslice0 U_31 Z_98 O_98) fun B16 => (rm rfl (rm rfl (ro rfl (dX U_32 Z_31 (Ht rfl) (Ht rfl) rfl (dU (dK (d := []) (by omega)))) (ro rfl (dZ A_31 Z_31 (Ht rfl)) (R_appendA (inf := Tryz.t98) und_31 info_98 rfl rfl rfl (Ht rfl) (Ht rfl) (i := 3) rfl (fun T hT => by obtain ⟨x, _, rfl⟩ := List.mem_map.1 hT; exact El.ag rfl) (by show _ * 88 ≤ _; simp only [List.length_map, List.length_append, List.length_take, List.length_cons, List.length_nil]; omega) (by simp only [List.length_map, List.length_append, List.length_take, List.length_cons, List.length_nil]; omega) rfl (fun v1 => ?_))))))))))))))
  refine ro rfl (op_idxB U_32 Z_31 (Ht rfl) (Ht rfl) rfl (by omega) (by rw [Nat.mul_one, Nat.zero_add])) ?_
  refine R_stH Z_31 (Ht rfl) (Ht rfl) (by simp only [FRow, List.length_map, mix_len]; omega) (j := 1) (l := 3) rfl rfl rfl ?_
  refine R_nil (T_blk (T_keep [0, 1, 3] rfl (by decide) (T_unfocus 1 2 rfl rfl (by decide) (by simp only [FRow, List.length_map, mix_len]; omega) ?_)))
  refine cU (rm rfl (ro rfl (dJ (Ht rfl) (cZ 1) (by show _ < 9223372036854775808; first | omega | (simp only [lim]; omega))) (ra rfl (R_nil (T_keep [0, 1] rfl (by decide) (T_again (i + 1) hdn (by omega) (aQ rfl (aQ rfl (aQ rfl aX))) (aK (fun _ _ _ h => h) (aK (matO_of (by rw [List.nil_append, set_FRow, ← mix_set (f := rw' M)])) aU))))))))
 ·have hin : i = n := by simp only [decide_eq_false_iff_not] at hd0; omega
  subst hin
  refine T_exit rfl (ts (rm rfl (ra rfl (R_nil ?_))))
  exact T_retO B7 trivial [0, 1] ⟨⟨_, rfl, fun _ _ _ h => h⟩, ⟨_, rfl, (matO_of (by rw [mix_fin]; exact congrArg _ (tab_eq (h := hMl)).symm))⟩, trivial⟩ (by decide) (rvs1 rfl (rv_tmp rfl))
set_option maxRecDepth 20000 in
theorem c_rIdO {n : Nat} (hn : n ≤ 32) : FunO Tryz.prog 213 [NT .i64 n] [] (Nat) (fun B => Is (.slice (some ⟨B, 0, none⟩) n n)) (fun B => [matP exactH B 31 98 5 (FRow QT (idM n))]) (fun _ => True) := by
 refine FunO.intro Tryz.func213 rfl Tryz.ntmps213 rfl (fun cx Z => (ts (ro rfl (bY cJ) (R_nil (cG (ts (rm rfl (ro rfl (op_lssN (Ht rfl) (cZ 0)) (R_nil (T_condF (Ht rfl) (by simp) ?_))))))))))
 refine cK (cG (ts (rm rfl (ro rfl (op_gtrN (Ht rfl) (cZ 32)) (R_nil (T_condF (Ht rfl) (by simp; omega) ?_))))))
 refine cK (ts (rm rfl (rm rfl (R_call0 Tryz.call138 (c_ZerosO (n := n) (m := n) (by omega) (by omega)) ⟨(Ht rfl), (Ht rfl), trivial⟩ rfl (fun B11 _ => (ra rfl (R_nil (cG (ts (ro rfl (bY (cZ 0)) (R_nil (T_block ?_))))))))))))
 refine T_loop (fun (i : Nat) => i ≤ n) (fun (i : Nat) => n - i) (fun (i : Nat) => [(0, NT .i64 n), (3, Is (.slice (some ⟨B11, 0, none⟩) n n)), (4, NT .i64 i)]) (fun (i : Nat) => [Z, matP exactH B11 31 98 5 (FRow QT (mixT (unitR n) (tab n fun _ => Qi.zero) n i))]) 0 (Nat.zero_le _)
  (aQ rfl (aQ rfl (aQ rfl aX))) (aK (fun _ _ _ h => h) (aK (matO_of (by rw [zeroM, mix_zero])) aU)) (fun i hi => ?_)
 refine cG (ts (rm rfl (rm rfl (ro rfl (op_lssN (Ht rfl) (Ht rfl)) (R_nil (cY (Ht rfl) (fun hd0 => ?_) (fun hd0 => ?_)))))))
 ·have hdn : i < n := by simp only [decide_eq_true_eq] at hd0; omega
  refine T_focusE 1 (i) rfl (frow_mix hdn) (fun v0 hv0 => (cK (cG (T_block (C.D_start (m := 6) (dp 3 rfl (cQ (Ht rfl)) (dp 4 rfl (cQ (Ht rfl)) (dqq 17 0 18 1 rfl (op_idxB U_32 Z_31 (Ht rfl) (Ht rfl) rfl (by omega) (by rw [Nat.mul_one, Nat.zero_add])) ?_))))))))
  refine dq 19 2 rfl (op_ldH A_31 Z_31 (Ht rfl) (j := 1) rfl) (dp 4 rfl (cQ (Ht rfl)) (d0 rfl (cX Tryz.call117 (c_rWhole (n := 1) (by decide) (by decide)) ⟨(cZ 1), trivial⟩) (C.D_done mixed rfl (by kernel_rfl) (aJ (aJ (aJ (aJ (aJ (aJ (aV (ro rfl (op_idxO U_31 Z_98 (Ht rfl) (Ht rfl) rfl (i := 2) rfl (by simp only [List.length_map, tab_len]; omega) rfl) ?_)))))))))))
  refine R_stO Z_98 (Ht rfl) (Ht rfl) (El.ag rfl) (i := 2) rfl rfl (by simp only [List.length_map, tab_len]; omega) rfl ?_
  refine R_nil (T_blk (T_unfocus 1 2 rfl rfl (by decide) (by simp only [FRow, List.length_map, mix_len]; omega) ?_))
  refine cU (rm rfl (ro rfl (dJ (Ht rfl) (cZ 1) (by show _ < 9223372036854775808; first | omega | (simp only [lim]; omega))) (ra rfl (R_nil (T_keep [0, 1] rfl (by decide) (T_again (i + 1) hdn (by omega) (aQ rfl (aQ rfl (aQ rfl aX))) (aK (fun _ _ _ h => h) (aK (matO_of (by rw [set_mapF, set_FRow, ← mix_set (f := unitR n), unitR])) aU))))))))
 ·have hin : i = n := by simp only [decide_eq_false_iff_not] at hd0; omega
  subst hin
  refine T_exit rfl (ts (rm rfl (ra rfl (R_nil ?_))))
  exact T_retO B11 trivial [0, 1] ⟨⟨_, rfl, fun _ _ _ h => h⟩, ⟨_, rfl, (matO_of (by rw [mix_fin]; rfl))⟩, trivial⟩ (by decide) (rvs1 rfl (rv_tmp rfl))
end
section
open Go Go.RowKit
def apM (M : List (List Qi)) (b : List Qi) (n i : Nat) : List (List Qi) := tab n fun j => if j < i then cpRow M [b] j else rw' M j
theorem ap_start {M : List (List Qi)} {b : List Qi} {n : Nat} (h : M.length = n) : M = apM M b n 0 := by
  have : apM M b n 0 = tab n (rw' M) := tab_congr fun j _ => by rw [if_neg (by omega)]
  rw [this]; exact tab_eq (h := h)
theorem ap_fin {M : List (List Qi)} {b : List Qi} {n : Nat} : apM M b n n = copyM M [b] n := tab_congr fun j hj => by rw [if_pos hj]
theorem ap_len {M : List (List Qi)} {b : List Qi} {n i : Nat} : (apM M b n i).length = n := tab_len _ _
theorem frow_ap {M : List (List Qi)} {b : List Qi} {n i : Nat} (h : i < n) : (FRow QT (apM M b n i))[i]? = some ((rw' M i).map QT) := by
  rw [FRow, List.getElem?_map, apM, tab_get h, if_neg (by omega)]; rfl
theorem ap_next {M : List (List Qi)} {b : List Qi} {n i : Nat} (h : i < n) : (apM M b n i).set i (cpRow M [b] i) = apM M b n (i + 1) := by
  apply List.ext_getElem?
  intro j
  by_cases hj : j < n
  · by_cases e : j = i
    · subst e
      rw [List.getElem?_set_self (by rw [ap_len]; exact hj), apM, tab_get hj, if_pos (by omega)]
    · rw [List.getElem?_set_ne (Ne.symm e), apM, apM, tab_get hj, tab_get hj]
      by_cases e2 : j < i
      · rw [if_pos e2, if_pos (by omega)]
      · rw [if_neg e2, if_neg (by omega)]
  · rw [List.getElem?_eq_none (by rw [List.length_set, ap_len]; omega), List.getElem?_eq_none (by rw [ap_len]; omega)]
theorem gjL_of {M A : List (List Qi)} {b : List Qi} {n : Nat} (h : gjTo (copyM M [b] n) n = some A) : (tab n fun i => QT (gm A i n / gm A i i)) = (gjL M b n).map QT := by rw [gjL, gjX, h, Option.map_some, Option.getD_some, tab_map]
theorem gjE_of {M A : List (List Qi)} {b : List Qi} {n : Nat} (h : gjTo (copyM M [b] n) n = some A) : gjE M b n = 0 := by rw [gjE, gjX, h]; rfl
theorem gjL_no {M : List (List Qi)} {b : List Qi} {n : Nat} (h : gjTo (copyM M [b] n) n = none) : gjL M b n = [] := by rw [gjL, gjX, h]; rfl
theorem gjE_no {M : List (List Qi)} {b : List Qi} {n : Nat} (h : gjTo (copyM M [b] n) n = none) : gjE M b n = 6 := by rw [gjE, gjX, h]; rfl
set_option maxHeartbeats 4000000 in
set_option maxRecDepth 20000 in
theorem c_rSolve {M : List (List Qi)} {b : List Qi} {n L : Nat} (hM : Shp M n n) (hb : b.length = n) (hf : FitM M L) (hfb : FitL b L) (hL : 1 ≤ L) (h1 : 1 ≤ n) (hn : n ≤ 32) (hg : 6 * grow L n + 4 ≤ 17592186044415) : Fun Tryz.prog 230 [QM M, QsT b] (TupT [QsT (gjL M b n), IntT .i64 (gjE M b n)]) := by
 have hMl := hM.1
 obtain ⟨CM, hC⟩ : ∃ CM, CM = copyM M [b] n := ⟨_, rfl⟩
 have hs : Shp CM n (n + 1) := by rw [hC]; exact copyM_shp hM
 have hcf : FitM CM L := by rw [hC]; exact copyM_fit hf (fun r hr => by simp at hr; subst hr; exact hfb) hL
 have hs1 := hs.1
 refine Fun.intro Tryz.func230 rfl Tryz.ntmps230 rfl (fun cx => (ts (ro rfl (bY cJ) (ro rfl (bY (cZ 0)) (R_nil (cG (ts (rm rfl (ro rfl (cX Tryz.call252 (c_rSquare hM h1 hn) ⟨(Ht rfl), trivial⟩) (ro rfl (op_not (Ht rfl)) (rm rfl (R_step rfl rfl (S_when rfl rfl (Ht rfl) (fun h => cQ (Ht rfl))) (R_step rfl rfl (S_when rfl rfl (Ht rfl) (fun h => dW U_31 (Has.w rfl h) len_map)) (R_step rfl rfl (S_when rfl rfl (Ht rfl) (fun h => cQ (Ht rfl))) (R_step rfl rfl (S_when rfl rfl (Ht rfl) (fun h => dW U_32 (Has.w rfl h) len_map)) ?_)))))))))))))))
 refine R_step rfl rfl (S_when rfl rfl (Ht rfl) (fun h => op_neqN (Has.w rfl h) (Has.w rfl h))) (ro rfl (op_or (Ht rfl) (fun h => (Has.w rfl h))) (R_nil (T_condF (Ht rfl) (by simp [hMl, hb]) ?_)))
 refine cK (ts (rm rfl (ro rfl (dW U_32 (Ht rfl) (by rw [List.length_map, hMl])) ?_)))
 refine ra rfl (R_nil (ts (rm rfl (R_call0 Tryz.call105 (c_rCopyO hM (by omega) h1 (by omega)) ⟨(Ht rfl), trivial⟩ rfl (fun B30 _ => (ra rfl (R_nil (cG (ts (ro rfl (bY (cZ 0)) (R_nil (T_block ?_))))))))))))
 refine T_loop (fun (i : Nat) => i ≤ n) (fun (i : Nat) => n - i) (fun (i : Nat) => [(0, QM M), (1, QsT b), (6, NT .i64 n), (7, Is (.slice (some ⟨B30, 0, none⟩) n n)), (8, NT .i64 i)]) (fun (i : Nat) => [matO B30 31 98 5 (FRow QT (apM M b n i))]) 0 (Nat.zero_le _)
  (aQ rfl (aQ rfl (aQ rfl (aQ rfl (aQ rfl aX))))) (aK (matO_of (congrArg _ (ap_start hMl))) aU) (fun i hi => ?_)
 refine cG (ts (rm rfl (rm rfl (ro rfl (op_lssN (Ht rfl) (Ht rfl)) (R_nil (cY (Ht rfl) (fun hd0 => ?_) (fun hd0 => ?_)))))))
 ·have hdn : i < n := by simp only [decide_eq_true_eq] at hd0; omega
  have hrl : (rw' M i).length = n := hM.row hdn
  have hrl2 : (M.getD i []).length = n := hrl
  refine T_focus 0 (i) rfl (frow_ap hdn) (fun v0 => (cK (cG (T_block (Y.D_startA (m := 12) [] 11 1 rfl rfl (bU (Ei := [(7, _)]) rfl rfl (aY (bZ rfl rfl) bQ) rfl rfl (dQ rfl (cQ (Ht rfl))) (bU (Ei := [(8, _)]) rfl rfl (aY (bZ rfl rfl) bQ) rfl rfl (dQ rfl (cQ (Ht rfl))) (bU (Ei := [(7, _)]) rfl rfl (aY (bZ rfl rfl) bQ) rfl rfl (dQ rfl (cQ (Ht rfl))) (bU (Ei := [(8, _)]) rfl rfl (aY (bZ rfl rfl) bQ) rfl rfl (dQ rfl (cQ (Ht rfl))) ?_)))))))))
  refine bU (Ei := [(38, _), (39, _)]) rfl rfl (aY (bX 2 rfl rfl) (aY (bX 3 rfl rfl) bQ)) rfl rfl (dQ rfl (op_idxB U_32 Z_31 (Ht rfl) (Ht rfl) rfl (by omega) (by rw [Nat.mul_one, Nat.zero_add]))) ?_
  refine bU (Ei := [(40, _)]) rfl rfl (aY (bX 4 rfl rfl) bQ) rfl rfl (dQ rfl (op_ldH A_31 Z_31 (Ht rfl) (j := 0) rfl)) (bU (Ei := [(1, _)]) rfl rfl (aY (bZ rfl rfl) bQ) rfl rfl (dQ rfl (cQ (Ht rfl))) (bU (Ei := [(8, _)]) rfl rfl (aY (bZ rfl rfl) bQ) rfl rfl (dQ rfl (cQ (Ht rfl))) (bU (Ei := [(42, _), (43, _)]) rfl rfl (aY (bX 6 rfl rfl) (aY (bX 7 rfl rfl) bQ)) rfl rfl (dQ rfl (dX U_31 Z_98 (Ht rfl) (Ht rfl) rfl (dU (dK (d := Qi.zero) (by omega))))) ?_)))
  refine bU (Ei := [(44, _)]) rfl rfl (aY (bX 8 rfl rfl) bQ) rfl rfl (dQ rfl (dZ A_98 Z_98 (Ht rfl))) (bU (Ei := [(45, _)]) rfl rfl (aY (bX 9 rfl rfl) bQ) rfl rfl (dQ rfl (op_bslice (xs := [.tmp 45]) U_31 Z_98 O_98 (cV (Ht rfl) cW) rfl rfl rfl)) (Y.D_app (Ei := [(41, _), (46, _)]) rfl rfl rfl rfl (aY (bX 5 rfl rfl) (aY (bX 10 rfl rfl) bQ)) rfl (A_append (inf := Tryz.t98) und_31 info_98 rfl rfl rfl (Ht rfl) (Ht rfl) (by simp) (fun T hT => by simp at hT; subst hT; exact El.ag rfl) (by show _ * 88 ≤ _; simp only [List.length_map, List.length_append, List.length_take, List.length_cons, List.length_nil]; omega) (by simp only [List.length_map, List.length_append, List.length_take, List.length_cons, List.length_nil]; omega)) ?_))
  refine Y.D_done mixed rfl (by kernel_rfl) rfl (by simp [Y.okP]) rfl rfl (bK (bK (bK (bK (bK (bK (bK (bK (bK (bK (bK (Y.F_app (fun v2 => Y.F_nil ?_)))))))))))))
  refine ro rfl (op_idxB U_32 Z_31 (Ht rfl) (Ht rfl) rfl (by omega) (by rw [Nat.mul_one, Nat.zero_add])) ?_
  refine R_stH Z_31 (Ht rfl) (Ht rfl) (by simp only [FRow, List.length_map, ap_len]; omega) (j := 0) (l := 2) rfl rfl rfl ?_
  refine R_nil (T_blk (T_keep [0, 2] rfl (by decide) (T_unfocus 0 1 rfl rfl (by decide) (by simp only [FRow, List.length_map, ap_len]; omega) ?_)))
  refine cU (rm rfl (ro rfl (dJ (Ht rfl) (cZ 1) (by show _ < 9223372036854775808; first | omega | (simp only [lim]; omega))) (ra rfl (R_nil (T_keep [0] rfl (by decide) (T_again (i + 1) hdn (by omega) (aQ rfl (aQ rfl (aQ rfl (aQ rfl (aQ rfl aX))))) (aK (matO_of (by rw [app_mapF QT _ (gv b i), set_FRow]; exact congrArg _ (ap_next hdn))) aU)))))))
 ·have hin : i = n := by simp only [decide_eq_false_iff_not] at hd0; omega
  subst hin
  rw [ap_fin, ← hC]
  refine T_exit rfl (T_openW 0 rfl (fun vs hvs => ?_))
  have hvs2 : Hds vs i := by have h := hvs; rw [FRow, List.length_map, hs1] at h; exact h
  refine cG (ts (ro rfl (bY (cZ 0)) (R_nil (T_block ?_))))
  refine T_loop3 (fun (c : Nat) (vs : List Value) (A : List (List Qi)) => c ≤ i ∧ gjTo CM c = some A ∧ Hds vs i) (fun (c : Nat) (vs : List Value) (A : List (List Qi)) => i - c) (fun (c : Nat) (vs : List Value) (A : List (List Qi)) => [(6, NT .i64 i), (7, Is (.slice (some ⟨B30, 0, none⟩) i i)), (9, NT .i64 c)]) (fun (c : Nat) (vs : List Value) (A : List (List Qi)) => [matW B30 31 98 5 vs vs (FRow QT A)]) 0 vs CM ⟨Nat.zero_le _, rfl, hvs2⟩
   (aQ rfl (aQ rfl (aQ rfl aX))) (HSub.refl _) (fun c vs A ⟨hc, hA, hvs⟩ => ?_)
  refine cG (ts (rm rfl (rm rfl (ro rfl (op_lssN (Ht rfl) (Ht rfl)) (R_nil (cY (Ht rfl) (fun hcn => ?_) (fun hcn => ?_)))))))
  ·simp only [decide_eq_true_eq] at hcn
   have hcn : c < i := by omega
   have hvl := hvs.len
   have hgj := gj_inv hs (Nat.le_succ i) hc hA
   have hAs : Shp A i (i + 1) := hgj.sh
   have hAf : FitM A (grow L c) := gj_fit hs (Nat.le_succ i) hcf hL hc hA
   have hAl := hAs.1
   have hgr : grow L c ≤ grow L i := grow_mono L hc
   have hG1 : 1 ≤ grow L c := Nat.le_trans hL (grow_le L c)
   refine cK (cG (T_block (ts (rm rfl (ra rfl (R_nil (cG (T_block ?_))))))))
   refine T_loop (fun (p : Nat) => (c ≤ p ∧ p ≤ i) ∧ ∀ r, c ≤ r → r < p → gm A r c = Qi.zero) (fun (p : Nat) => i - p) (fun (p : Nat) => [(6, NT .i64 i), (7, Is (.slice (some ⟨B30, 0, none⟩) i i)), (9, NT .i64 c), (10, NT .i64 p)]) (fun (p : Nat) => [matW B30 31 98 5 vs vs (FRow QT A)]) c ⟨⟨Nat.le_refl _, hc⟩, fun r h1 h2 => by omega⟩
    (aQ rfl (aQ rfl (aQ rfl (aQ rfl aX)))) (HSub.refl _) (fun p ⟨⟨hcp, hpn⟩, hz⟩ => ?_)
   refine cG (ts (rm rfl (rm rfl (ro rfl (op_lssN (Ht rfl) (Ht rfl)) (rm rfl (R_step rfl rfl (S_when rfl rfl (Ht rfl) (fun h => cQ (Ht rfl))) (R_step rfl rfl (S_when rfl rfl (Ht rfl) (fun h => cQ (Ht rfl))) (R_step rfl rfl (S_when rfl rfl (Ht rfl) (fun h => op_idxB U_32 Z_31 (Has.w rfl h) (Has.w rfl h) rfl (by first | omega | (simp at h; omega)) (by rw [Nat.mul_one, Nat.zero_add]))) ?_))))))))
   refine R_step rfl rfl (S_when rfl rfl (Ht rfl) (fun h => op_ldHW A_31 Z_31 (Has.w rfl h) (j := 0) rfl (by simp at h; omega))) ?_
   refine R_step rfl rfl (S_when rfl rfl (Ht rfl) (fun h => cQ (Ht rfl))) (R_step rfl rfl (S_when rfl rfl (Ht rfl) (fun h => op_idxW U_31 Z_98 (Has.w rfl h) (Has.w rfl h) rfl (j := 0) rfl (by omega) (by simp at h; omega) (by simp at h; rw [hAs.row h]; omega))) ?_)
   refine R_step rfl rfl (S_when rfl rfl (Ht rfl) (fun h => op_ldW A_98 Z_98 (Has.w rfl h) (j := 0) rfl (by omega) (by simp at h; omega) (by simp at h; rw [hAs.row h]; omega))) ?_
   refine R_step rfl rfl (S_when rfl rfl (Ht rfl) (fun h => cX Tryz.call160 (c_rZero (x := gm A p c)) ⟨(Has.w rfl h), trivial⟩)) (ro rfl (op_and (Ht rfl) (fun h => (Has.w rfl h))) (R_nil (cY (Ht rfl) (fun he => ?_) (fun he => ?_))))
   ·have he2 : p < i ∧ gm A p c = Qi.zero := by simpa using he
    refine cK (T_block (cU (rm rfl (ro rfl (dJ (Ht rfl) (cZ 1) (by show _ < 9223372036854775808; first | omega | (simp only [lim]; omega))) (ra rfl (R_nil (T_blk ?_)))))))
    refine T_again (p + 1) ⟨⟨by omega, by omega⟩, fun r h1 h2 => by
      by_cases e : r = p
      ·rw [e]; exact he2.2
      ·exact hz r h1 (by omega)⟩ (by omega) (aQ rfl (aQ rfl (aQ rfl (aQ rfl aX)))) (HSub.refl _)
   ·have hpv : pv A c i = p := pv_eq hcp hpn hz (fun h => by simp at he; exact he h)
    refine T_exit rfl (cG (ts (rm rfl (rm rfl (ro rfl (op_eqlN (Ht rfl) (Ht rfl)) (R_nil (cY (Ht rfl) (fun hp => ?_) (fun hp => ?_))))))))
    ·have hp2 : p = i := by simpa using hp
     have hend : gjTo CM i = none := gj_end hs1 hA (by rw [hpv]; exact hp2) hcn
     rw [hC] at hend
     refine ts (ro rfl (bY cJ) (ro rfl (bY (cZ 6)) (R_nil (T_ret2 rfl (rv_to (rv_tmp rfl) ?_) (rv_to (rv_tmp rfl) ?_)))))
     ·exact (fun v V k => by rw [gjL_no hend]; exact nil_slT v V k)
     ·exact (int_of (gjE_no hend).symm)
    ·have hp2 : p < i := by simp at hp; omega
     have hpz := (pv_spec (M := A) (c := c) (n := i) hc).2.2.2 (by rw [hpv]; exact hp2)
     rw [hpv] at hpz
     have hnx := gj_next hs1 hA hpv hp2
     refine cK (cG (Y.D_start (m := 14) [(13, 0, matW B30 31 98 5 (vs.set p (hd vs c)) vs (FRow QT A))] (Y.D_step (Ei := [(7, _)]) rfl rfl (aY (bZ rfl rfl) bQ) rfl rfl (by kernel_rfl) (dQ rfl (cQ (Ht rfl))) (Y.D_step (Ei := [(10, _)]) rfl rfl (aY (bZ rfl rfl) bQ) rfl rfl (by kernel_rfl) (dQ rfl (cQ (Ht rfl))) (bU (Ei := [(7, _)]) rfl rfl (aY (bZ rfl rfl) bQ) rfl rfl (dQ rfl (cQ (Ht rfl))) (bU (Ei := [(9, _)]) rfl rfl (aY (bZ rfl rfl) bQ) rfl rfl (dQ rfl (cQ (Ht rfl))) ?_))))))
     refine Y.D_step (Ei := [(7, _)]) rfl rfl (aY (bZ rfl rfl) bQ) rfl rfl (by kernel_rfl) (dQ rfl (cQ (Ht rfl))) (Y.D_step (Ei := [(9, _)]) rfl rfl (aY (bZ rfl rfl) bQ) rfl rfl (by kernel_rfl) (dQ rfl (cQ (Ht rfl))) (Y.D_step (Ei := [(77, _), (78, _)]) rfl rfl (aY (bX 4 rfl rfl) (aY (bX 5 rfl rfl) bQ)) rfl rfl (by kernel_rfl) (dQ rfl (op_idxB U_32 Z_31 (Ht rfl) (Ht rfl) rfl (by omega) (by rw [Nat.mul_one, Nat.zero_add]))) ?_))
     refine Y.D_step (Ei := [(79, _)]) rfl rfl (aY (bX 6 rfl rfl) bQ) rfl rfl (by kernel_rfl) (dQ rfl (op_ldHW A_31 Z_31 (Ht rfl) (j := 0) rfl (by omega))) (Y.D_step (Ei := [(7, _)]) rfl rfl (aY (bZ rfl rfl) bQ) rfl rfl (by kernel_rfl) (dQ rfl (cQ (Ht rfl))) (Y.D_step (Ei := [(10, _)]) rfl rfl (aY (bZ rfl rfl) bQ) rfl rfl (by kernel_rfl) (dQ rfl (cQ (Ht rfl))) (Y.D_step (Ei := [(81, _), (82, _)]) rfl rfl (aY (bX 8 rfl rfl) (aY (bX 9 rfl rfl) bQ)) rfl rfl (by kernel_rfl) (dQ rfl (op_idxB U_32 Z_31 (Ht rfl) (Ht rfl) rfl (by omega) (by rw [Nat.mul_one, Nat.zero_add]))) ?_)))
     refine Y.D_step (Ei := [(83, _)]) rfl rfl (aY (bX 10 rfl rfl) bQ) rfl rfl (by kernel_rfl) (dQ rfl (op_ldHW A_31 Z_31 (Ht rfl) (j := 0) rfl (by omega))) (Y.D_step (Ei := [(73, _), (74, _)]) rfl rfl (aY (bX 0 rfl rfl) (aY (bX 1 rfl rfl) bQ)) rfl rfl (by kernel_rfl) (dQ rfl (op_idxB U_32 Z_31 (Ht rfl) (Ht rfl) rfl (by omega) (by rw [Nat.mul_one, Nat.zero_add]))) ?_)
     refine Y.D_putI (Ei := [(85, _), (80, _)]) 0 rfl rfl rfl (aY (bX 12 rfl rfl) (aY (bX 7 rfl rfl) bQ)) (.head _) rfl (P_stHW Z_31 (Ht rfl) (Ht rfl) (hvs.pl c (by omega)) (i := p) (hs := vs) (by omega)) (Y.D_done mixed rfl (by kernel_rfl) rfl (by simp [Y.okP]) rfl rfl (bK (bK (bK (bK (bK (bK (bK (bK (bK (bK (bK (bK (bK (Y.F_putI (Y.F_nil ?_))))))))))))))))
     refine ro rfl (op_idxB U_32 Z_31 (Ht rfl) (Ht rfl) rfl (by omega) (by rw [Nat.mul_one, Nat.zero_add])) ?_
     refine R_stHW Z_31 (Ht rfl) (Ht rfl) (j := 0) rfl (hvs.pl p (by omega)) (by rw [List.length_set]; omega) rfl ?_
     refine R_nil (cG (T_conv 0 rfl (matW_swap (hs := swp nilV vs p c) (p := p) (c := c) (by omega) (by omega) (by omega)) ?_))
     have hus := hvs.swp hp2 hcn
     have hDs : Shp (swp [] A p c) i (i + 1) := swp_shp hAs hp2 hcn
     have hDf : FitM (swp [] A p c) (grow L c) := swp_fit hAf
     have hDz : gm (swp [] A p c) c c ≠ Qi.zero := by
      show gv (rw' (swp [] A p c) c) c ≠ _
      rw [swp_at (by omega)]; exact hpz
     obtain ⟨us, hus2⟩ : ∃ us, us = swp nilV vs p c := ⟨_, rfl⟩
     obtain ⟨D, hD⟩ : ∃ D, D = swp [] A p c := ⟨_, rfl⟩
     rw [← hus2] at hus ⊢
     rw [← hD] at hDs hDf hDz hnx ⊢
     have hul := hus.len
     have hDl := hDs.1
     refine cU (ro rfl (bY (cZ 0)) (R_nil (T_block ?_)))
     refine T_loop (fun (r : Nat) => r ≤ i) (fun (r : Nat) => i - r) (fun (r : Nat) => [(6, NT .i64 i), (7, Is (.slice (some ⟨B30, 0, none⟩) i i)), (9, NT .i64 c), (11, NT .i64 r)]) (fun (r : Nat) => [matW B30 31 98 5 us us (FRow QT (redJ D c r))]) 0 (Nat.zero_le _)
      (aQ rfl (aQ rfl (aQ rfl (aQ rfl aX)))) (aK (matW_of (congrArg _ redJ_start)) aU) (fun r hrn => ?_)
     refine cG (ts (rm rfl (rm rfl (ro rfl (op_lssN (Ht rfl) (Ht rfl)) (R_nil (cY (Ht rfl) (fun hr => ?_) (fun hr => ?_)))))))
     ·have hr : r < i := by simp only [decide_eq_true_eq] at hr; omega
      refine cK (cG (T_block (ts (rm rfl (rm rfl (ro rfl (op_neqN (Ht rfl) (Ht rfl)) (R_nil (cY (Ht rfl) (fun hrc => ?_) (fun hrc => ?_)))))))))
      ·have hrc : r ≠ c := by simpa using hrc
       obtain ⟨X, hX⟩ : ∃ X, X = redJ D c r := ⟨_, rfl⟩
       have hXr : rw' X r = rw' D r := by rw [hX]; exact redJ_at (by omega) (by omega)
       have hXc : rw' X c = rw' D c := by rw [hX]; exact redJ_at (by omega) (by omega)
       have hXl : X.length = i := by rw [hX, redJ_len]; exact hDl
       have hXrl : (rw' X r).length = i + 1 := by rw [hXr]; exact hDs.row hr
       have hXcl : (rw' X c).length = i + 1 := by rw [hXc]; exact hDs.row hcn
       have hXrg : (X.getD r []).length = i + 1 := hXrl
       have hXcg : (X.getD c []).length = i + 1 := hXcl
       have hXfr : FitL (rw' X r) (grow L c) := by rw [hXr]; exact hDf.row r
       have hXfc : FitL (rw' X c) (grow L c) := by rw [hXc]; exact hDf.row c
       haveI g1 : FitC (gm X r c) (grow L c) := hXfr.get hG1 c
       haveI g2 : FitC (gm X c c) (grow L c) := hXfc.get hG1 c
       have hXz : gm X c c ≠ Qi.zero := by show gv (rw' X c) c ≠ _; rw [hXc]; exact hDz
       haveI g3 : FitC (gm X r c / gm X c c) (grow L c + 3 * grow L c + 2) := ⟨g1.fit.div g2.fit hXz⟩
       have hend := stepJ_row (D := D) (r := r) (c := c) (by omega) hrc (by omega)
       rw [← hX] at hend ⊢
       rw [hXrl] at hend
       have hrU : r < us.length := by rw [hul]; exact hr
       have hcU : c < us.length := by rw [hul]; exact hcn
       have hXU : us.length = X.length := by rw [hul, hXl]
       have hrX : r < X.length := by rw [hXl]; exact hr
       have hcX : c < X.length := by rw [hXl]; exact hcn
       have hcr : c < (X.getD r []).length := by rw [hXrg]; exact Nat.lt_succ_of_lt hcn
       have hcc : c < (X.getD c []).length := by rw [hXcg]; exact Nat.lt_succ_of_lt hcn
       clear hXrg hXcg hXr hXc
       refine cG (Y.D_start (m := 20) [] (bU (Ei := [(7, _)]) rfl rfl (aY (bZ rfl rfl) bQ) rfl rfl (dQ rfl (cQ (Ht rfl))) (bU (Ei := [(11, _)]) rfl rfl (aY (bZ rfl rfl) bQ) rfl rfl (dQ rfl (cQ (Ht rfl))) (bU (Ei := [(96, _), (97, _)]) rfl rfl (aY (bX 0 rfl rfl) (aY (bX 1 rfl rfl) bQ)) rfl rfl (dQ rfl (op_idxB U_32 Z_31 (Ht rfl) (Ht rfl) rfl (by omega) (by rw [Nat.mul_one, Nat.zero_add]))) ?_))))
       refine bU (Ei := [(98, _)]) rfl rfl (aY (bX 2 rfl rfl) bQ) rfl rfl (dQ rfl (op_ldHW A_31 Z_31 (Ht rfl) (j := 0) rfl hrU)) (bU (Ei := [(9, _)]) rfl rfl (aY (bZ rfl rfl) bQ) rfl rfl (dQ rfl (cQ (Ht rfl))) (bU (Ei := [(99, _), (100, _)]) rfl rfl (aY (bX 3 rfl rfl) (aY (bX 4 rfl rfl) bQ)) rfl rfl (dQ rfl (op_idxW U_31 Z_98 (Ht rfl) (Ht rfl) rfl (j := 0) rfl hXU hrX hcr)) (bU (Ei := [(101, _)]) rfl rfl (aY (bX 5 rfl rfl) bQ) rfl rfl (dQ rfl (op_ldW A_98 Z_98 (Ht rfl) (j := 0) rfl hXU hrX hcr)) ?_)))
       refine bU (Ei := [(7, _)]) rfl rfl (aY (bZ rfl rfl) bQ) rfl rfl (dQ rfl (cQ (Ht rfl))) (bU (Ei := [(9, _)]) rfl rfl (aY (bZ rfl rfl) bQ) rfl rfl (dQ rfl (cQ (Ht rfl))) (bU (Ei := [(103, _), (104, _)]) rfl rfl (aY (bX 7 rfl rfl) (aY (bX 8 rfl rfl) bQ)) rfl rfl (dQ rfl (op_idxB U_32 Z_31 (Ht rfl) (Ht rfl) rfl (by omega) (by rw [Nat.mul_one, Nat.zero_add]))) ?_))
       refine bU (Ei := [(105, _)]) rfl rfl (aY (bX 9 rfl rfl) bQ) rfl rfl (dQ rfl (op_ldHW A_31 Z_31 (Ht rfl) (j := 0) rfl hcU)) (bU (Ei := [(9, _)]) rfl rfl (aY (bZ rfl rfl) bQ) rfl rfl (dQ rfl (cQ (Ht rfl))) (bU (Ei := [(106, _), (107, _)]) rfl rfl (aY (bX 10 rfl rfl) (aY (bX 11 rfl rfl) bQ)) rfl rfl (dQ rfl (op_idxW U_31 Z_98 (Ht rfl) (Ht rfl) rfl (j := 0) rfl hXU hcX hcc)) (bU (Ei := [(108, _)]) rfl rfl (aY (bX 12 rfl rfl) bQ) rfl rfl (dQ rfl (op_ldW A_98 Z_98 (Ht rfl) (j := 0) rfl hXU hcX hcc)) ?_)))
       refine bU (Ei := [(102, _), (109, _)]) rfl rfl (aY (bX 6 rfl rfl) (aY (bX 13 rfl rfl) bQ)) rfl rfl (dQ rfl (cX Tryz.call102 (c_rQDiv (x := gm X r c) (y := gm X c c) (L := grow L c) (M := grow L c) (by omega)) ⟨(Ht rfl), (Ht rfl), trivial⟩)) (bU (Ei := [(110, _)]) rfl rfl (aY (bX 14 rfl rfl) bQ) rfl rfl (dQ rfl (cQ (Ht rfl))) (bU (Ei := [(95, _)]) rfl rfl (aY (bX 15 rfl rfl) bQ) rfl rfl (dQ rfl (dG (Ht rfl) rfl)) (bU (Ei := [(95, _)]) rfl rfl (aY (bX 15 rfl rfl) bQ) rfl rfl (dQ rfl (dG (Ht rfl) rfl)) ?_)))
       refine Y.D_newp (Ei := []) (fun bb => box bb 98 [BoolT (decide ((gm X r c / gm X c c).a < 0)), NatT (gm X r c / gm X c c).a.natAbs, BoolT (decide ((gm X r c / gm X c c).b < 0)), NatT (gm X r c / gm X c c).b.natAbs, NatT (gm X r c / gm X c c).den]) 19 rfl rfl rfl bQ rfl rfl (by kernel_rfl) (new_alloc (Ts := [Is (.bool false), Is (.slice none 0 0), Is (.bool false), Is (.slice none 0 0), Is (.slice none 0 0)]) O_98 rfl (fun V => aW ⟨rfl, trivial⟩ (aW ⟨rfl, trivial⟩ (aW ⟨rfl, trivial⟩ (aW ⟨rfl, trivial⟩ (aW ⟨rfl, trivial⟩ (aG))))))) ?_
       refine Y.D_putN (Ei := [(111, _)]) 18 rfl rfl rfl rfl rfl rfl (aY (bX 16 rfl rfl) bQ) (fun bb => P_stA Z_98 (Ht rfl) (Ht rfl) rfl (i := 0) rfl (Nat.le_of_ble_eq_true rfl) rfl rfl) (Y.D_done mixed rfl (by kernel_rfl) rfl (by simp [Y.okP]) rfl rfl (bK (bK (bK (bK (bK (bK (bK (bK (bK (bK (bK (bK (bK (bK (bK (bK (bK (bK (Y.F_newp (fun B12 => Y.F_putN (Y.F_nil ?_))))))))))))))))))))))
       refine ra rfl (R_nil (ts (rm rfl (ra rfl (R_nil (T_block ?_))))))
       refine T_loop (fun (k : Nat) => c ≤ k ∧ k ≤ i + 1) (fun (k : Nat) => i + 1 - k) (fun (k : Nat) => [(6, NT .i64 i), (7, Is (.slice (some ⟨B30, 0, none⟩) i i)), (9, NT .i64 c), (11, NT .i64 r), (12, PtrB B12 0), (14, NT .i64 k)]) (fun (k : Nat) => [matW B30 31 98 5 us us (FRow QT (X.set r (redJR (rw' X r) (rw' X c) c k))), box B12 98 [BoolT (decide ((gm X r c / gm X c c).a < 0)), NatT (gm X r c / gm X c c).a.natAbs, BoolT (decide ((gm X r c / gm X c c).b < 0)), NatT (gm X r c / gm X c c).b.natAbs, NatT (gm X r c / gm X c c).den]]) c ⟨Nat.le_refl _, by omega⟩
        (aQ rfl (aQ rfl (aQ rfl (aQ rfl (aQ rfl (aQ rfl aX)))))) (aK (matW_of (by rw [← redJR_start, set_rw (by omega)])) (aK (box_of rfl) aU)) (fun k ⟨hck, hkm⟩ => ?_)
       refine cG (ts (rm rfl (rm rfl (ro rfl (op_leqN (Ht rfl) (Ht rfl)) (R_nil (cY (Ht rfl) (fun hk => ?_) (fun hk => ?_)))))))
       ·have hk2 : k < i + 1 := by simp only [decide_eq_true_eq] at hk; omega
        obtain ⟨Y, hY⟩ : ∃ Y, Y = (X.set r (redJR (rw' X r) (rw' X c) c k)) := ⟨_, rfl⟩
        have e1 : gm Y r k = gv (rw' X r) k := by rw [hY]; exact eltJ_r hrX (by rw [hXrl]; exact hk2)
        have e2 : gm Y c k = gv (rw' X c) k := by rw [hY]; exact eltJ_c hrc
        haveI y1 : FitC (gm Y r k) (grow L c) := by rw [e1]; exact hXfr.get hG1 k
        haveI y2 : FitC (gm Y c k) (grow L c) := by rw [e2]; exact hXfc.get hG1 k
        have hst := stepJ_elt (X := X) (r := r) (c := c) (k := k) hrX hrc (by rw [hXrl]; exact hk2) hck
        have hYU : us.length = Y.length := by rw [hY, List.length_set]; exact hXU
        have hrY : r < Y.length := by rw [← hYU]; exact hrU
        have hcY : c < Y.length := by rw [← hYU]; exact hcU
        have hkr : k < (Y.getD r []).length := by show k < (rw' Y r).length; rw [hY, rw_set hrX, redJR_len, hXrl]; exact hk2
        have hkc : k < (Y.getD c []).length := by show k < (rw' Y c).length; rw [hY, rw_set_ne hrc, hXcl]; exact hk2
        rw [← hY] at hst ⊢
        clear hXrl hXcl hXU hrX hcX hcr hcc
        refine cK (cG (T_block (C.D_start (m := 22) (dp 7 rfl (cQ (Ht rfl)) (dp 11 rfl (cQ (Ht rfl)) (dqq 119 0 120 1 rfl (op_idxB U_32 Z_31 (Ht rfl) (Ht rfl) rfl (by omega) (by rw [Nat.mul_one, Nat.zero_add])) ?_))))))
        refine dq 121 2 rfl (op_ldHW A_31 Z_31 (Ht rfl) (j := 0) rfl hrU) (dp 14 rfl (cQ (Ht rfl)) (dp 7 rfl (cQ (Ht rfl)) (dp 11 rfl (cQ (Ht rfl)) (dqq 124 5 125 6 rfl (op_idxB U_32 Z_31 (Ht rfl) (Ht rfl) rfl (by omega) (by rw [Nat.mul_one, Nat.zero_add])) ?_))))
        refine dq 126 7 rfl (op_ldHW A_31 Z_31 (Ht rfl) (j := 0) rfl hrU) (dp 14 rfl (cQ (Ht rfl)) (dqq 127 8 128 9 rfl (op_idxW U_31 Z_98 (Ht rfl) (Ht rfl) rfl (j := 0) rfl hYU hrY hkr) (dq 129 10 rfl (op_ldW A_98 Z_98 (Ht rfl) (j := 0) rfl hYU hrY hkr) (dp 12 rfl (op_ldBA A_98 Z_98 (Ht rfl) (i := 1) rfl rfl rfl) (dp 7 rfl (cQ (Ht rfl)) (dp 9 rfl (cQ (Ht rfl)) (dqq 132 13 133 14 rfl (op_idxB U_32 Z_31 (Ht rfl) (Ht rfl) rfl (by omega) (by rw [Nat.mul_one, Nat.zero_add])) ?_)))))))
        refine dq 134 15 rfl (op_ldHW A_31 Z_31 (Ht rfl) (j := 0) rfl hcU) (dp 14 rfl (cQ (Ht rfl)) (dqq 135 16 136 17 rfl (op_idxW U_31 Z_98 (Ht rfl) (Ht rfl) rfl (j := 0) rfl hYU hcY hkc) (dq 137 18 rfl (op_ldW A_98 Z_98 (Ht rfl) (j := 0) rfl hYU hcY hkc) (dqq 131 12 138 19 rfl (cX K_99 (c_rMul (x := gm X r c / gm X c c) (y := gm Y c k) (L := grow L c + 3 * grow L c + 2) (M := grow L c) (by omega)) ⟨(Ht rfl), (Ht rfl), trivial⟩) (dqq 130 11 139 20 rfl (cX Tryz.call158 (c_rSub (x := gm Y r k) (y := gm X r c / gm X c c * gm Y c k) (L := grow L c) (M := grow L c + 3 * grow L c + 2 + grow L c + 1) (by omega)) ⟨(Ht rfl), (Ht rfl), trivial⟩) ?_)))))
        refine C.D_done mixed rfl (by kernel_rfl) (aJ (aJ (aJ (aJ (aJ (aJ (aJ (aJ (aJ (aJ (aJ (aJ (aJ (aJ (aJ (aJ (aJ (aJ (aJ (aJ (aJ (aJ (aV (ro rfl (op_idxW U_31 Z_98 (Ht rfl) (Ht rfl) rfl (j := 0) rfl hYU hrY hkr) (R_stW Z_98 (Ht rfl) (Ht rfl) (j := 0) rfl (El.ag rfl) (F := QT) (z := gm Y r k - gm X r c / gm X c c * gm Y c k) hYU hrY hkr rfl (R_nil (T_blk (cU (rm rfl (ro rfl (dJ (Ht rfl) (cZ 1) (by show _ < 9223372036854775808; first | omega | (simp only [lim]; omega))) ?_))))))))))))))))))))))))))))))
        refine ra rfl (R_nil (T_again (k + 1) ⟨by omega, hk2⟩ (by omega) (aQ rfl (aQ rfl (aQ rfl (aQ rfl (aQ rfl (aQ rfl aX)))))) (aK (matW_of (congrArg _ hst)) (aK (box_of rfl) aU))))
       ·have hk3 : k = i + 1 := by simp only [decide_eq_false_iff_not] at hk; omega
        subst hk3
        refine T_exit rfl (T_blk (cU (rm rfl (ro rfl (dJ (Ht rfl) (cZ 1) (by show _ < 9223372036854775808; first | omega | (simp only [lim]; omega))) (ra rfl (R_nil (T_keep [0] rfl (by decide) (T_again (r + 1) hr (by omega) (aQ rfl (aQ rfl (aQ rfl (aQ rfl aX)))) (aK (matW_of (congrArg _ hend)) aU)))))))))
      ·have hrc : r = c := by simpa using hrc
       subst hrc
       refine cK (T_blk (cU (rm rfl (ro rfl (dJ (Ht rfl) (cZ 1) (by show _ < 9223372036854775808; first | omega | (simp only [lim]; omega))) (ra rfl (R_nil (T_again (r + 1) hr (by omega) (aQ rfl (aQ rfl (aQ rfl (aQ rfl aX)))) (aK (matW_of (congrArg _ redJ_skip)) aU))))))))
     ·have hri : r = i := by simp only [decide_eq_false_iff_not] at hr; omega
      subst hri
      refine T_exit rfl (T_blk (cU (rm rfl (ro rfl (dJ (Ht rfl) (cZ 1) (by show _ < 9223372036854775808; first | omega | (simp only [lim]; omega))) (ra rfl (R_nil (T_again (c + 1, us, redJ D c r) ⟨hcn, hnx, hus⟩ (by dsimp only; omega) (aQ rfl (aQ rfl (aQ rfl aX))) (HSub.refl _))))))))
  ·have hci : c = i := by simp only [decide_eq_false_iff_not] at hcn; omega
   subst hci
   have hvl := hvs.len
   have hgj := gj_inv hs (Nat.le_succ c) hc hA
   have hAs : Shp A c (c + 1) := hgj.sh
   have hAf : FitM A (grow L c) := gj_fit hs (Nat.le_succ c) hcf hL hc hA
   have hAl := hAs.1
   have hG1 : 1 ≤ grow L c := Nat.le_trans hL (grow_le L c)
   rw [hC] at hA
   refine T_exit rfl (ts (rm rfl (rn rfl (new_makeO (T := ZQ) (i := Tryz.t98) und_31 info_98 rfl rfl (Ht rfl) rfl zq_p (El.ag rfl) (by show 88 * _ ≤ _; omega) (by omega)) fun B143 => (ra rfl (R_nil (cG (ts (ro rfl (bY (cZ 0)) (R_nil (T_block ?_))))))))))
   refine T_loop (fun (j : Nat) => j ≤ c) (fun (j : Nat) => c - j) (fun (j : Nat) => [(6, NT .i64 c), (7, Is (.slice (some ⟨B30, 0, none⟩) c c)), (15, Is B143), (16, NT .i64 j)]) (fun (j : Nat) => [matW B30 31 98 5 vs vs (FRow QT A), rowO 98 5 B143 (mixT (fun j => QT (gm A j c / gm A j j)) ZQ c j)]) 0 (Nat.zero_le _)
    (aQ rfl (aQ rfl (aQ rfl (aQ rfl aX)))) (aK (fun _ _ _ h => h) (aK (rowO_of (by rw [← mix_zero]; exact rep_tab _ _)) aU)) (fun j hj => ?_)
   refine cG (ts (rm rfl (rm rfl (ro rfl (op_lssN (Ht rfl) (Ht rfl)) (R_nil (cY (Ht rfl) (fun hq => ?_) (fun hq => ?_)))))))
   ·have hq : j < c := by simp only [decide_eq_true_eq] at hq; omega
    have hrr : (A.getD j []).length = c + 1 := hAs.row hq
    haveI f1 : FitC (gm A j c) (grow L c) := hAf.get hG1 j c
    haveI f2 : FitC (gm A j j) (grow L c) := hAf.get hG1 j j
    refine cK (cG (T_block (Y.D_start (m := 22) [(21, 1, rowO 98 5 B143 ((mixT (fun j => QT (gm A j c / gm A j j)) ZQ c j).set j (QT (gm A j c / gm A j j))))] (Y.D_step (Ei := [(15, _)]) rfl rfl (aY (bZ rfl rfl) bQ) rfl rfl (by kernel_rfl) (dQ rfl (cQ (Ht rfl))) (Y.D_step (Ei := [(16, _)]) rfl rfl (aY (bZ rfl rfl) bQ) rfl rfl (by kernel_rfl) (dQ rfl (cQ (Ht rfl))) (Y.D_step (Ei := [(7, _)]) rfl rfl (aY (bZ rfl rfl) bQ) rfl rfl (by kernel_rfl) (dQ rfl (cQ (Ht rfl))) (Y.D_step (Ei := [(16, _)]) rfl rfl (aY (bZ rfl rfl) bQ) rfl rfl (by kernel_rfl) (dQ rfl (cQ (Ht rfl))) ?_)))))))
    refine Y.D_step (Ei := [(152, _), (153, _)]) rfl rfl (aY (bX 2 rfl rfl) (aY (bX 3 rfl rfl) bQ)) rfl rfl (by kernel_rfl) (dQ rfl (op_idxB U_32 Z_31 (Ht rfl) (Ht rfl) rfl (by omega) (by rw [Nat.mul_one, Nat.zero_add]))) ?_
    refine Y.D_step (Ei := [(154, _)]) rfl rfl (aY (bX 4 rfl rfl) bQ) rfl rfl (by kernel_rfl) (dQ rfl (op_ldHW A_31 Z_31 (Ht rfl) (j := 0) rfl (by omega))) (Y.D_step (Ei := [(6, _)]) rfl rfl (aY (bZ rfl rfl) bQ) rfl rfl (by kernel_rfl) (dQ rfl (cQ (Ht rfl))) (Y.D_step (Ei := [(155, _), (156, _)]) rfl rfl (aY (bX 5 rfl rfl) (aY (bX 6 rfl rfl) bQ)) rfl rfl (by kernel_rfl) (dQ rfl (op_idxW U_31 Z_98 (Ht rfl) (Ht rfl) rfl (j := 0) rfl (by omega) (by omega) (by omega))) ?_))
    refine Y.D_step (Ei := [(157, _)]) rfl rfl (aY (bX 7 rfl rfl) bQ) rfl rfl (by kernel_rfl) (dQ rfl (op_ldW A_98 Z_98 (Ht rfl) (j := 0) rfl (by omega) (by omega) (by omega))) (Y.D_step (Ei := [(7, _)]) rfl rfl (aY (bZ rfl rfl) bQ) rfl rfl (by kernel_rfl) (dQ rfl (cQ (Ht rfl))) (Y.D_step (Ei := [(16, _)]) rfl rfl (aY (bZ rfl rfl) bQ) rfl rfl (by kernel_rfl) (dQ rfl (cQ (Ht rfl))) (Y.D_step (Ei := [(159, _), (160, _)]) rfl rfl (aY (bX 9 rfl rfl) (aY (bX 10 rfl rfl) bQ)) rfl rfl (by kernel_rfl) (dQ rfl (op_idxB U_32 Z_31 (Ht rfl) (Ht rfl) rfl (by omega) (by rw [Nat.mul_one, Nat.zero_add]))) ?_)))
    refine Y.D_step (Ei := [(161, _)]) rfl rfl (aY (bX 11 rfl rfl) bQ) rfl rfl (by kernel_rfl) (dQ rfl (op_ldHW A_31 Z_31 (Ht rfl) (j := 0) rfl (by omega))) (Y.D_step (Ei := [(16, _)]) rfl rfl (aY (bZ rfl rfl) bQ) rfl rfl (by kernel_rfl) (dQ rfl (cQ (Ht rfl))) (Y.D_step (Ei := [(162, _), (163, _)]) rfl rfl (aY (bX 12 rfl rfl) (aY (bX 13 rfl rfl) bQ)) rfl rfl (by kernel_rfl) (dQ rfl (op_idxW U_31 Z_98 (Ht rfl) (Ht rfl) rfl (j := 0) rfl (by omega) (by omega) (by omega))) ?_))
    refine Y.D_step (Ei := [(164, _)]) rfl rfl (aY (bX 14 rfl rfl) bQ) rfl rfl (by kernel_rfl) (dQ rfl (op_ldW A_98 Z_98 (Ht rfl) (j := 0) rfl (by omega) (by omega) (by omega))) (Y.D_step (Ei := [(158, _), (165, _)]) rfl rfl (aY (bX 8 rfl rfl) (aY (bX 15 rfl rfl) bQ)) rfl rfl (by kernel_rfl) (dQ rfl (cX Tryz.call102 (c_rQDiv (x := gm A j c) (y := gm A j j) (L := grow L c) (M := grow L c) (by omega)) ⟨(Ht rfl), (Ht rfl), trivial⟩)) (Y.D_step (Ei := [(166, _)]) rfl rfl (aY (bX 16 rfl rfl) bQ) rfl rfl (by kernel_rfl) (dQ rfl (cQ (Ht rfl))) ?_))
    refine Y.D_step (Ei := [(149, _)]) rfl rfl (aY (bX 17 rfl rfl) bQ) rfl rfl (by kernel_rfl) (dQ rfl (dG (Ht rfl) rfl)) (bU (Ei := [(149, _)]) rfl rfl (aY (bX 17 rfl rfl) bQ) rfl rfl (dQ rfl (dG (Ht rfl) rfl)) (Y.D_step (Ei := [(150, _), (151, _)]) rfl rfl (aY (bX 0 rfl rfl) (aY (bX 1 rfl rfl) bQ)) rfl rfl (by kernel_rfl) (dQ rfl (op_idxO U_31 Z_98 (Ht rfl) (Ht rfl) rfl (i := 1) rfl (by rw [mix_len]; omega) rfl)) ?_))
    refine Y.D_putI (Ei := [(169, _), (167, _)]) 1 rfl rfl rfl (aY (bX 20 rfl rfl) (aY (bX 18 rfl rfl) bQ)) (.head _) rfl (P_stO Z_98 (Ht rfl) (Ht rfl) (El.ag rfl) (i := 0) rfl rfl (by rw [mix_len]; omega)) ?_
    refine Y.D_done mixed rfl (by kernel_rfl) rfl (by simp [Y.okP]) rfl rfl (bK (bK (bK (bK (bK (bK (bK (bK (bK (bK (bK (bK (bK (bK (bK (bK (bK (bK (bK (bK (bK (Y.F_putI (Y.F_nil ?_)))))))))))))))))))))))
    refine R_nil (T_blk (cU (rm rfl (ro rfl (dJ (Ht rfl) (cZ 1) (by show _ < 9223372036854775808; first | omega | (simp only [lim]; omega))) (ra rfl (R_nil (T_again (j + 1) hq (by omega) (aQ rfl (aQ rfl (aQ rfl (aQ rfl aX)))) (aK (fun _ _ _ h => h) (aK (rowO_of (mix_set (f := (fun j => QT (gm A j c / gm A j j))))) aU)))))))))
   ·have hjc : j = c := by simp only [decide_eq_false_iff_not] at hq; omega
    subst hjc
    rw [mix_fin]
    refine T_exit rfl (T_freeze (i := 1) (tt := 15) rfl rfl frz_row (ts (rm rfl (ra rfl (ro rfl (bY (cZ 0)) (R_nil (T_ret2 rfl (rv_to (rv_tmp rfl) ?_) (rv_to (rv_tmp rfl) ?_))))))))
    ·exact (slT_of (gjL_of hA))
    ·exact (int_of (gjE_of hA).symm)
end
section
open Go Go.RowKit
def colP (val : Nat → Nat → Qi) (n m k i : Nat) : List (List Qi) := tab n fun r => tab m fun j => if j < k ∨ j = k ∧ r < i then val r j else Qi.zero
theorem colP_shp (val : Nat → Nat → Qi) (n m k i : Nat) : Shp (colP val n m k i) n m := Shp.tab
theorem colP_zero (val : Nat → Nat → Qi) (n m : Nat) : zeroM n m = colP val n m 0 0 := tab_congr fun r _ => tab_congr fun j _ => by rw [if_neg (by omega)]
theorem colP_col (val : Nat → Nat → Qi) (n m k : Nat) : colP val n m k n = colP val n m (k + 1) 0 := tab_congr fun r hr => tab_congr fun j _ => by
  by_cases h : j < k ∨ j = k ∧ r < n
  · rw [if_pos h, if_pos (by omega)]
  · rw [if_neg h, if_neg (by omega)]
theorem colP_fin (val : Nat → Nat → Qi) (n m : Nat) : colP val n m m 0 = tab n fun r => tab m fun j => val r j := tab_congr fun r _ => tab_congr fun j hj => by rw [if_pos (by omega)]
theorem colP_next {val : Nat → Nat → Qi} {n m k i : Nat} (hi : i < n) (hk : k < m) : (colP val n m k i).set i (((colP val n m k i).getD i []).set k (val i k)) = colP val n m k (i + 1) := by
  apply List.ext_getElem?
  intro r
  by_cases hr : r < n
  · by_cases e : r = i
    · subst e
      rw [List.getElem?_set_self (by rw [(colP_shp _ _ _ _ _).1]; exact hr), colP, colP, tab_get (f := fun r => tab m fun j => if j < k ∨ j = k ∧ r < _ + 1 then val r j else Qi.zero) hr]
      congr 1
      have : (tab n fun x => tab m fun j => if j < k ∨ j = k ∧ x < r then val x j else Qi.zero).getD r [] = tab m fun j => if j < k ∨ j = k ∧ r < r then val r j else Qi.zero := tab_getD hr
      rw [this]
      apply List.ext_getElem?
      intro j
      by_cases hj : j < m
      · by_cases e2 : j = k
        · subst e2
          rw [List.getElem?_set_self (by rw [tab_len]; exact hj), tab_get hj, if_pos (by omega)]
        · rw [List.getElem?_set_ne (Ne.symm e2), tab_get hj, tab_get hj]
          by_cases e3 : j < k
          · rw [if_pos (.inl e3), if_pos (.inl e3)]
          · rw [if_neg (by omega), if_neg (by omega)]
      · rw [List.getElem?_eq_none (by rw [List.length_set, tab_len]; omega), List.getElem?_eq_none (by rw [tab_len]; omega)]
    · rw [List.getElem?_set_ne (Ne.symm e), colP, colP, tab_get hr, tab_get hr]
      congr 1
      refine tab_congr fun j _ => ?_
      by_cases e3 : j < k ∨ j = k ∧ r < i
      · rw [if_pos e3, if_pos (by omega)]
      · rw [if_neg e3, if_neg (by omega)]
  · rw [List.getElem?_eq_none (by rw [List.length_set, (colP_shp _ _ _ _ _).1]; omega), List.getElem?_eq_none (by rw [(colP_shp _ _ _ _ _).1]; omega)]
end
section
open Go Go.RowKit
theorem gv_set {l : List Qi} {t k : Nat} {v : Qi} (ht : t < l.length) : gv (l.set t v) k = if k = t then v else gv l k := by
  simp only [gv, List.getD]
  by_cases e : k = t
  · subst e; rw [if_pos rfl, List.getElem?_set_self ht]; rfl
  · rw [if_neg e, List.getElem?_set_ne (Ne.symm e)]
end
section
open Go Go.RowKit
def clr (A : List (List Qi)) (c i j : Nat) : Qi := if j < c ∧ j < i then 0 else gm A i j
def KerF (F : Nat → Nat → Qi) (n m : Nat) (x : Nat → Qi) : Prop := ∀ i, i < n → sumN m (fun k => F i k * x k) = 0
theorem kerF_congr {F G : Nat → Nat → Qi} {n m : Nat} {x : Nat → Qi} (h : ∀ i, i < n → ∀ j, j < m → F i j = G i j) : KerF F n m x ↔ KerF G n m x := by
  have e : ∀ i, i < n → sumN m (fun k => F i k * x k) = sumN m (fun k => G i k * x k) := fun i hi => sumN_congr fun k hk => by rw [h i hi k hk]
  exact ⟨fun k i hi => by rw [← e i hi]; exact k i hi, fun k i hi => by rw [e i hi]; exact k i hi⟩
def tau (p c i : Nat) : Nat := if i = c then p else if i = p then c else i
theorem tau_lt {p c i n : Nat} (hp : p < n) (hc : c < n) (hi : i < n) : tau p c i < n := by unfold tau; split <;> (try split) <;> omega
theorem tau_tau (p c i : Nat) : tau p c (tau p c i) = i := by
  unfold tau
  by_cases e1 : i = c
  · subst e1
    rw [if_pos rfl]
    by_cases e2 : p = i
    · rw [if_pos e2]; exact e2
    · rw [if_neg e2, if_pos rfl]
  · rw [if_neg e1]
    by_cases e2 : i = p
    · subst e2; rw [if_pos rfl, if_pos rfl]
    · rw [if_neg e2, if_neg e1, if_neg e2]
theorem kerF_tau {F : Nat → Nat → Qi} {n m p c : Nat} {x : Nat → Qi} (hp : p < n) (hc : c < n) : KerF (fun i => F (tau p c i)) n m x ↔ KerF F n m x :=
  ⟨fun h i hi => by have := h _ (tau_lt hp hc hi); simp only [tau_tau] at this; exact this, fun h i hi => h _ (tau_lt hp hc hi)⟩
theorem kerF_red {F G : Nat → Nat → Qi} {n m c : Nat} {x f : Nat → Qi} (hc : c < n) (hG : ∀ i, i < n → ∀ j, j < m → G i j = if c < i then F i j - f i * F c j else F i j) : KerF G n m x ↔ KerF F n m x := by
  have key : ∀ i, i < n → sumN m (fun k => G i k * x k) = if c < i then sumN m (fun k => F i k * x k) - f i * sumN m (fun k => F c k * x k) else sumN m (fun k => F i k * x k) := fun i hi => by
    by_cases e : c < i
    · rw [if_pos e, ← sumN_sub]
      exact sumN_congr fun k hk => by rw [hG i hi k hk, if_pos e]; grind
    · rw [if_neg e]
      exact sumN_congr fun k hk => by rw [hG i hi k hk, if_neg e]
  have kc := key c hc
  rw [if_neg (by omega)] at kc
  constructor
  · intro h i hi
    have h0 := h c hc
    rw [kc] at h0
    have h1 := h i hi
    rw [key i hi] at h1
    by_cases e : c < i
    · rw [if_pos e, h0] at h1; grind
    · rw [if_neg e] at h1; exact h1
  · intro h i hi
    rw [key i hi]
    by_cases e : c < i
    · rw [if_pos e, h i hi, h c hc]; grind
    · rw [if_neg e]; exact h i hi
theorem redM_gm {M : List (List Qi)} {n m c i j : Nat} (h : Shp M n m) (hi : i < n) (hj : j < m) : gm (redM M c n) i j = if c < i ∧ c < j then gm M i j - gm M i c / gm M c c * gm M c j else gm M i j := by
  have hr : (rw' M i).length = m := h.row hi
  have e0 : rw' (redM M c n) i = if c < i ∧ i < n then redR (rw' M i) (rw' M c) c (rw' M i).length else rw' M i := by
    simp only [rw', redM, List.getD]; rw [tab_get (by rw [h.1]; exact hi)]; rfl
  show gv (rw' (redM M c n) i) j = _
  rw [e0]
  by_cases e : c < i
  · rw [if_pos ⟨e, hi⟩, redR, gv_tab (by omega)]
    by_cases e2 : c < j
    · rw [if_pos ⟨e2, by omega⟩, if_pos ⟨e, e2⟩]
    · rw [if_neg (fun k => e2 k.1), if_neg (fun k => e2 k.2)]
  · rw [if_neg (fun k => e k.1), if_neg (fun k => e k.1)]
theorem clr_swp {A : List (List Qi)} {p c i j : Nat} (hc : c < A.length) (hp : p < A.length) (hcp : c ≤ p) : clr (swp [] A p c) c i j = clr A c (tau p c i) j := by
  have key : gm (swp [] A p c) i j = gm A (tau p c i) j := congrArg (fun r => gv r j) (swp_rw (by omega) (by omega))
  unfold clr
  rw [key]
  have e : (j < c ∧ j < i) ↔ (j < c ∧ j < tau p c i) := by unfold tau; split <;> (try split) <;> omega
  by_cases h : j < c ∧ j < i
  · rw [if_pos h, if_pos (e.1 h)]
  · rw [if_neg h, if_neg (fun k => h (e.2 k))]
structure EL (M A : List (List Qi)) (n m c : Nat) : Prop where
  sh : Shp A n m
  ker : ∀ x, KerF (clr A c) n m x ↔ KerF (gm M) n m x
theorem EL.next {M A : List (List Qi)} {n m c p : Nat} (h : EL M A n m c) (hc : c < n) (hcm : c < m) (hcp : c ≤ p) (hp : p < n) (hz : gm A p c ≠ 0) : EL M (redM (if p = c then A else swp [] A p c) c n) n m (c + 1) := by
  have hl := h.sh.1
  obtain ⟨B, hB⟩ : ∃ B, B = if p = c then A else swp [] A p c := ⟨_, rfl⟩
  have hs : Shp B n m := by
    rw [hB]; split
    · exact h.sh
    · exact swp_shp h.sh hp hc
  have hBk : ∀ x, KerF (clr B c) n m x ↔ KerF (gm M) n m x := fun x => by
    rw [hB]; split
    · exact h.ker x
    · exact (kerF_congr (G := fun i => clr A c (tau p c i)) fun i hi j hj => clr_swp (by omega) (by omega) hcp).trans ((kerF_tau hp hc).trans (h.ker x))
  have hBz : gm B c c ≠ 0 := by
    rw [hB]; split
    · rename_i e; rw [← e] at hz ⊢; exact hz
    · show gv (rw' (swp [] A p c) c) c ≠ 0
      rw [swp_at (by omega)]; exact hz
  rw [← hB]
  refine ⟨redM_shp hs, fun x => (kerF_red (f := fun i => gm B i c / gm B c c) hc fun i hi j hj => ?_).trans (hBk x)⟩
  have hd := div_eq (x := gm B i c) hBz
  unfold clr
  rw [redM_gm hs hi hj]
  by_cases e : c < i
  · rw [if_pos e]
    by_cases e1 : j < c
    · rw [if_pos (by omega), if_pos (by omega), if_pos (by omega)]; grind
    · by_cases e2 : j = c
      · subst e2
        rw [if_pos (by omega), if_neg (by omega), if_neg (by omega)]; grind
      · rw [if_neg (by omega), if_pos (by omega), if_neg (by omega), if_neg (by omega)]
  · rw [if_neg e, if_neg (show ¬ (c < i ∧ c < j) from fun k => e k.1)]
    by_cases e1 : j < i
    · rw [if_pos (show j < c + 1 ∧ j < i by omega), if_pos (show j < c ∧ j < i by omega)]
    · rw [if_neg (show ¬ (j < c + 1 ∧ j < i) by omega), if_neg (show ¬ (j < c ∧ j < i) by omega)]
theorem elim_el {M : List (List Qi)} {n m : Nat} (hs : Shp M n m) (hnm : n ≤ m) : ∀ {c : Nat}, c ≤ n → (elimTo M c).2.2 < 0 → EL M (elimTo M c).1 n m c
  | 0, _, _ => ⟨hs, fun x => kerF_congr fun i _ j _ => by unfold clr; rw [if_neg (by omega)]; rfl⟩
  | c + 1, hc, h => by
    obtain ⟨i1, i2, i3, i4⟩ := pv_spec (M := (elimTo M c).1) (c := c) (n := M.length) (by rw [hs.1]; omega)
    simp only [elimTo] at h ⊢
    by_cases e : 0 ≤ (elimTo M c).2.2
    · rw [if_pos e] at h; omega
    · rw [if_neg e] at h ⊢
      have ih := elim_el hs hnm (c := c) (by omega) (by omega)
      by_cases e2 : pv (elimTo M c).1 c M.length = M.length
      · rw [if_pos e2] at h; simp only at h; omega
      · rw [if_neg e2]
        rw [hs.1] at i3 i4 e2 ⊢
        exact ih.next (by omega) (by omega) (by rw [hs.1] at i2; exact i2) (by omega) (i4 (by omega))
theorem elim_halt {M : List (List Qi)} : ∀ {n : Nat}, 0 ≤ (elimTo M n).2.2 → ∃ c, c < n ∧ (elimTo M c).2.2 < 0 ∧ pv (elimTo M c).1 c M.length = M.length
  | 0, h => absurd h (by show ¬ (0 : Int) ≤ -1; omega)
  | c + 1, h => by
    by_cases e : 0 ≤ (elimTo M c).2.2
    · obtain ⟨d, h1, h2⟩ := elim_halt e
      exact ⟨d, by omega, h2⟩
    · simp only [elimTo] at h
      rw [if_neg e] at h
      by_cases e2 : pv (elimTo M c).1 c M.length = M.length
      · exact ⟨c, by omega, by omega, e2⟩
      · rw [if_neg e2] at h; simp only at h; omega
theorem subS_congr {U : List (List Qi)} {x y : List Qi} {n c : Nat} : ∀ {K : Nat}, (∀ k, k < K → gv x (c + 1 + k) = gv y (c + 1 + k)) → subS U x n c K = subS U y n c K
  | 0, _ => rfl
  | K + 1, h => by rw [subS, subS, subS_congr (fun k hk => h k (by omega)), h K (by omega)]
theorem subS_sum (U : List (List Qi)) (x : List Qi) (n c : Nat) : ∀ K, subS U x n c K = gm U c n - sumN K (fun k => gm U c (c + 1 + k) * gv x (c + 1 + k))
  | 0 => by simp only [subS, sumN, q0]; grind
  | K + 1 => by simp only [subS, sumN, subS_sum U x n c K]; grind
theorem bkS_at {U : List (List Qi)} {n : Nat} : ∀ {j : Nat}, j ≤ n → ∀ c, n - j ≤ c → c < n → gv (bkS U n j) c = subS U (bkS U n j) n c (n - 1 - c) / gm U c c
  | 0, _, c, h1, h2 => by omega
  | j + 1, hj, c, h1, h2 => by
    have hl := bkS_len U n j
    rw [bkS]
    by_cases e : c = n - (j + 1)
    · subst e
      rw [gv_set (by omega), if_pos rfl, show n - 1 - (n - (j + 1)) = j by omega]
      rw [subS_congr (x := (bkS U n j).set _ _) (y := bkS U n j) fun k hk => by rw [gv_set (by omega), if_neg (by omega)]]
    · rw [gv_set (by omega), if_neg e, bkS_at (j := j) (by omega) c (by omega) h2]
      rw [subS_congr (x := (bkS U n j).set _ _) (y := bkS U n j) fun k hk => by rw [gv_set (by omega), if_neg (by omega)]]
theorem sumN_app (a : Nat) (f : Nat → Qi) : ∀ b, sumN (a + b) f = sumN a f + sumN b fun k => f (a + k)
  | 0 => by simp only [sumN, q0, Nat.add_zero]; grind
  | b + 1 => by rw [← Nat.add_assoc]; simp only [sumN, sumN_app a f b]; grind
theorem tri_sum {U : List (List Qi)} {n i : Nat} (hi : i < n) (y : Nat → Qi) : sumN n (fun k => clr U n i k * y k) = gm U i i * y i + sumN (n - 1 - i) fun k => gm U i (i + 1 + k) * y (i + 1 + k) := by
  have e : n = i + 1 + (n - 1 - i) := by omega
  have h1 : sumN i (fun k => clr U n i k * y k) = 0 := sumN_all0 fun k hk => by unfold clr; rw [if_pos (by omega)]; grind
  have h2 : clr U n i i = gm U i i := by unfold clr; rw [if_neg (by omega)]
  have h3 : sumN (n - 1 - i) (fun k => clr U n i (i + 1 + k) * y (i + 1 + k)) = sumN (n - 1 - i) fun k => gm U i (i + 1 + k) * y (i + 1 + k) := sumN_congr fun k hk => by unfold clr; rw [if_neg (by omega)]
  have h4 := sumN_app (i + 1) (fun k => clr U n i k * y k) (n - 1 - i)
  rw [← e] at h4
  rw [h4, h3]
  simp only [sumN, h1, h2]; grind
theorem tri_sol {U : List (List Qi)} {n i : Nat} (hd : ∀ j, j < n → gm U j j ≠ 0) (hi : i < n) : sumN n (fun k => clr U n i k * gv (bkS U n n) k) = gm U i n := by
  rw [tri_sum hi, bkS_at (Nat.le_refl n) i (by omega) hi, subS_sum]
  have := div_eq (x := gm U i n - sumN (n - 1 - i) (fun k => gm U i (i + 1 + k) * gv (bkS U n n) (i + 1 + k))) (hd i hi)
  grind
theorem tri_zero {U : List (List Qi)} {n : Nat} (hd : ∀ j, j < n → gm U j j ≠ 0) {y : Nat → Qi} (h : ∀ i, i < n → sumN n (fun k => clr U n i k * y k) = 0) : ∀ t k, n - t ≤ k → k < n → y k = 0
  | 0, k, h1, h2 => by omega
  | t + 1, k, h1, h2 => by
    have h3 := h k h2
    rw [tri_sum h2, sumN_all0 (fun j hj => by rw [tri_zero hd h t (k + 1 + j) (by omega) (by omega)]; grind)] at h3
    rcases mul_zero_or (x := gm U k k) (y := y k) (by grind) with h4 | h4
    · exact absurd h4 (hd k h2)
    · exact h4
theorem slv_some {M : List (List Qi)} {b : List Qi} {n : Nat} (h : Shp M n n) (hE : slvE M b n = 0) : (∀ i, i < n → sumN n (fun k => gm M i k * gv (slvX M b n) k) = gv b i) ∧ ∀ y : Nat → Qi, (∀ i, i < n → sumN n (fun k => gm M i k * y k) = 0) → ∀ k, k < n → y k = 0 := by
  have hcs : Shp (copyM M [b] n) n (n + 1) := copyM_shp h
  have hst : (slvU M b n).2.2 < 0 := by
    unfold slvE at hE
    by_cases e : 0 ≤ (slvU M b n).2.2
    · rw [if_pos e] at hE; omega
    · omega
  have hg := elim_el hcs (Nat.le_succ n) (Nat.le_refl n) hst
  have hd := elim_diag hcs (Nat.le_refl n) hst
  obtain ⟨U, hU⟩ : ∃ U, U = (slvU M b n).1 := ⟨_, rfl⟩
  have hX : slvX M b n = bkS U n n := by rw [hU]; rfl
  have hU2 : (elimTo (copyM M [b] n) n).1 = U := hU.symm
  rw [hU2] at hg hd
  rw [hX]
  refine ⟨fun i hi => ?_, fun y hy k hk => ?_⟩
  · have h1 := (hg.ker fun k => if k < n then gv (bkS U n n) k else -1).1 (fun i hi => by
      simp only [sumN]
      rw [sumN_congr (g := fun k => clr U n i k * gv (bkS U n n) k) (fun k hk => by rw [if_pos hk]), tri_sol hd hi, if_neg (by omega), show clr U n i n = gm U i n by unfold clr; rw [if_neg (by omega)]]
      grind) i hi
    rw [cp_sum h hi, sumN_congr (g := fun k => gm M i k * gv (bkS U n n) k) (fun k hk => by rw [if_pos hk]), if_neg (by omega)] at h1
    grind
  · have h1 := (hg.ker fun k => if k < n then y k else 0).2 (fun i hi => by
      rw [cp_sum h hi, sumN_congr (g := fun k => gm M i k * y k) (fun k hk => by rw [if_pos hk]), if_neg (by omega), hy i hi]; grind)
    refine tri_zero (y := y) hd (fun i hi => ?_) n k (by omega) hk
    have h2 := h1 i hi
    simp only [sumN] at h2
    rw [sumN_congr (g := fun k => clr U n i k * y k) (fun k hk => by rw [if_pos hk]), if_neg (by omega)] at h2
    grind
theorem slv_none {M : List (List Qi)} {b : List Qi} {n : Nat} (h : Shp M n n) (hE : slvE M b n ≠ 0) : ∃ y : Nat → Qi, (∀ i, i < n → sumN n (fun k => gm M i k * y k) = 0) ∧ ∃ k, k < n ∧ y k ≠ 0 := by
  have hcs : Shp (copyM M [b] n) n (n + 1) := copyM_shp h
  have hst : 0 ≤ (slvU M b n).2.2 := by
    unfold slvE at hE
    by_cases e : 0 ≤ (slvU M b n).2.2
    · exact e
    · rw [if_neg e] at hE; exact absurd rfl hE
  obtain ⟨c, hc, hA, hp⟩ := elim_halt hst
  have hg := elim_el hcs (Nat.le_succ n) (by omega) hA
  have hd := elim_diag hcs (by omega) hA
  obtain ⟨U, hU⟩ : ∃ U, U = (elimTo (copyM M [b] n) c).1 := ⟨_, rfl⟩
  rw [← hU] at hg hd hp
  rw [hcs.1] at hp
  have hz := (pv_spec (M := U) (c := c) (n := n) (by omega)).1
  rw [hp] at hz
  have key := (hg.ker fun k => if k < c then gv (bkS U c c) k else if k = c then -1 else 0).1 (fun i hi => by
    have e : n + 1 = c + (1 + (n - c)) := by omega
    rw [e, sumN_app, sumN_app]
    have z3 : sumN (n - c) (fun k => clr U c i (c + (1 + k)) * (if c + (1 + k) < c then gv (bkS U c c) (c + (1 + k)) else if c + (1 + k) = c then -1 else 0)) = 0 := sumN_all0 fun k hk => by rw [if_neg (by omega), if_neg (by omega)]; grind
    have z2 : sumN 1 (fun k => clr U c i (c + k) * (if c + k < c then gv (bkS U c c) (c + k) else if c + k = c then -1 else 0)) = clr U c i c * -1 := by
      rw [sumN_one, if_neg (by omega), if_pos (by omega)]; rfl
    have z1 : sumN c (fun k => clr U c i k * (if k < c then gv (bkS U c c) k else if k = c then -1 else 0)) = sumN c (fun k => clr U c i k * gv (bkS U c c) k) := sumN_congr fun k hk => by rw [if_pos hk]
    rw [z1, z2, z3]
    have zc : clr U c i c = gm U i c := by unfold clr; rw [if_neg (by omega)]
    rw [zc]
    by_cases e2 : i < c
    · rw [tri_sol hd e2]; grind
    · rw [hz i (by omega) hi, sumN_all0 (fun k hk => by unfold clr; rw [if_pos (by omega)]; grind), q0]; grind)
  refine ⟨fun k => if k < c then gv (bkS U c c) k else if k = c then -1 else 0, fun i hi => ?_, c, hc, ?_⟩
  · have h1 := key i hi
    rw [cp_sum h hi, if_neg (by omega), if_neg (by omega)] at h1
    grind
  · show (if c < c then gv (bkS U c c) c else if c = c then (-1 : Qi) else 0) ≠ 0
    rw [if_neg (by omega), if_pos rfl]
    intro e
    exact absurd (congrArg Qi.re e) (by decide)
theorem slv_gj {M : List (List Qi)} {b : List Qi} {n : Nat} (h : Shp M n n) : slvE M b n = gjE M b n ∧ (slvE M b n = 0 → slvX M b n = gjL M b n) := by
  by_cases hE : slvE M b n = 0
  · obtain ⟨h1, h2⟩ := slv_some h hE
    cases hX : gjX M b n with
    | none =>
      obtain ⟨y, h3, k, h4, h5⟩ := gjX_none h hX
      exact absurd (h2 y h3 k h4) h5
    | some X =>
      obtain ⟨h3, h4, _⟩ := gjX_some h hX
      refine ⟨by rw [hE]; simp only [gjE, hX, Option.isSome_some, if_true], fun _ => ?_⟩
      simp only [gjL, hX, Option.getD_some]
      have hk : ∀ k, k < n → gv (slvX M b n) k = gv X k := fun k hk => by
        have := h2 (fun k => gv (slvX M b n) k - 1 * gv X k) (fun i hi => by
          have e : sumN n (fun k => gm M i k * (gv (slvX M b n) k - 1 * gv X k)) = sumN n (fun k => gm M i k * gv (slvX M b n) k - 1 * (gm M i k * gv X k)) := sumN_congr fun k _ => by grind
          rw [e, sumN_sub, h1 i hi, h4 i hi]; grind) k hk
        grind
      have hl : (slvX M b n).length = n := bkS_len _ _ _
      apply List.ext_getElem?
      intro k
      by_cases c : k < n
      · have := hk k c
        simp only [gv, List.getD] at this
        rw [List.getElem?_eq_getElem (by omega), List.getElem?_eq_getElem (by omega)] at this ⊢
        exact congrArg some this
      · rw [List.getElem?_eq_none (by omega), List.getElem?_eq_none (by omega)]
  · obtain ⟨y, h3, k, h4, h5⟩ := slv_none (b := b) h hE
    have h6 : slvE M b n = 6 := by
      unfold slvE at hE ⊢
      split
      · rfl
      · rename_i e; rw [if_neg e] at hE; exact absurd rfl hE
    refine ⟨?_, fun e => absurd e hE⟩
    cases hX : gjX M b n with
    | none => rw [h6]; simp only [gjE, hX, Option.isSome_none]; rfl
    | some X =>
      obtain ⟨_, _, h7⟩ := gjX_some h hX
      exact absurd (h7 y h3 k h4) h5
end
section
open Go Go.RowKit
theorem gjL_okL {M : List (List Qi)} {b : List Qi} {n : Nat} (h : Shp M n n) : gjL M b n = okL (slvE M b n) (slvX M b n) := by
  obtain ⟨h1, h2⟩ := slv_gj (b := b) h
  by_cases e : slvE M b n = 0
  · rw [okL, if_pos e, h2 e]
  · rw [okL, if_neg e]
    rw [h1] at e
    cases hX : gjX M b n with
    | none => simp only [gjL, hX]; rfl
    | some X => exact absurd (by simp only [gjE, hX, Option.isSome_some, if_true]) e
def invV (M : List (List Qi)) (n r j : Nat) : Qi := gv (slvX M (ek n j) n) r
theorem invX_col (M : List (List Qi)) (n : Nat) : colP (invV M n) n n n 0 = invX M n := colP_fin (invV M n) n n
theorem invX_shp (M : List (List Qi)) (n : Nat) : Shp (invX M n) n n := Shp.tab
theorem slvX_len (M : List (List Qi)) (b : List Qi) (n : Nat) : (slvX M b n).length = n := bkS_len _ _ _
theorem slv_fit {M : List (List Qi)} {b : List Qi} {n L : Nat} (h : Shp M n n) (hM : FitM M L) (hb : FitL b L) (hL : 1 ≤ L) (hE : slvE M b n = 0) : FitL (slvX M b n) (xgr (grow L n) n) := slvX_fit h hM hb hL (by
  unfold slvE at hE
  by_cases e : 0 ≤ (slvU M b n).2.2
  · rw [if_pos e] at hE; omega
  · omega)
theorem inv_zero {M : List (List Qi)} {n : Nat} (h : invE M n = 0) : ∀ k, k < n → slvE M (ek n k) n = 0 := firstE_zero h
theorem invX_fit {M : List (List Qi)} {n L : Nat} (h : Shp M n n) (hM : FitM M L) (hL : 1 ≤ L) (hE : invE M n = 0) : FitM (invX M n) (xgr (grow L n) n) := fun r hr => by
  obtain ⟨i, _, rfl⟩ := tab_mem.1 hr
  exact FitL.tab fun j hj => (slv_fit h hM (ek_fit hL) hL (inv_zero hE j hj)).get (Nat.le_trans hL (Nat.le_trans (grow_le L n) (xgr_ge (grow L n) n))) i
theorem xgr_monoL {G H : Nat} (h : G ≤ H) : ∀ j, xgr G j ≤ xgr H j
  | 0 => h
  | j + 1 => by
    have := xgr_monoL h j
    have h2 : j * (xgr G j + G + 2) ≤ j * (xgr H j + H + 2) := Nat.mul_le_mul_left _ (by omega)
    simp only [xgr]; omega
def ovE (M : List (List Qi)) (n : Nat) : Int := if invE M n = 0 then 0 else 5
def ovX (Y M : List (List Qi)) (n : Nat) : List (List Qi) := okL (ovE M n) (mulM Y (invX M n) n n n)
def unX (M Y : List (List Qi)) (n : Nat) : List (List Qi) := okL (ovE M n) (mulM (invX M n) Y n n n)
theorem ovE_zero {M : List (List Qi)} {n : Nat} (h : ovE M n = 0) : invE M n = 0 := by
  unfold ovE at h; split at h
  · assumption
  · omega
def plM (x y : Int) (m : List (List Qi)) (n : Nat) : List (List Qi) := tab n fun i => (tab n fun j => Qi.ofInt y * gm m i j).set i (Qi.ofInt y * gm m i i + Qi.ofInt x)
theorem plM_shp (x y : Int) (m : List (List Qi)) (n : Nat) : Shp (plM x y m n) n n := ⟨tab_len _ _, fun r hr => by obtain ⟨i, _, rfl⟩ := tab_mem.1 hr; rw [List.length_set, tab_len]⟩
theorem unit_gm {n i j : Nat} (hi : i < n) (hj : j < n) : gm (idM n) i j = if i = j then 1 else 0 := by
  show gv ((idM n).getD i []) j = _
  rw [idM, tab_getD hi, unitR, gv_set (by rw [tab_len]; exact hi)]
  by_cases e : j = i
  · subst e; rw [if_pos rfl, if_pos rfl]; rfl
  · rw [if_neg e, if_neg (Ne.symm e), gv_tab hj]; rfl
theorem plM_gm {x y : Int} {m : List (List Qi)} {n i j : Nat} (hi : i < n) (hj : j < n) : gm (plM x y m n) i j = Qi.ofInt y * gm m i j + (if i = j then Qi.ofInt x else 0) := by
  show gv ((plM x y m n).getD i []) j = _
  rw [plM, tab_getD hi, gv_set (by rw [tab_len]; exact hi)]
  by_cases e : j = i
  · subst e; rw [if_pos rfl, if_pos rfl]
  · rw [if_neg e, if_neg (Ne.symm e), gv_tab hj]; grind
theorem mat_ext {a b : List (List Qi)} {n m : Nat} (ha : Shp a n m) (hb : Shp b n m) (h : ∀ i, i < n → ∀ j, j < m → gm a i j = gm b i j) : a = b := by
  rw [mat_tab ha, mat_tab hb]
  exact tab_congr fun i hi => tab_congr fun j hj => h i hi j hj
theorem neg_one : Qi.ofInt (-1) = -1 := rfl
theorem pm_plus {s : List (List Qi)} {n : Nat} : pmM false (idM n) s n = plM 1 1 s n := mat_ext pmM_shp (plM_shp 1 1 s n) fun i hi j hj => by
  rw [plM_gm hi hj, pmM, gm_tab hi hj, unit_gm hi hj, q1]
  simp only [Bool.false_eq_true, if_false]; grind
theorem pm_minus {s : List (List Qi)} {n : Nat} : pmM true (idM n) s n = plM 1 (-1) s n := mat_ext pmM_shp (plM_shp 1 (-1) s n) fun i hi j hj => by
  rw [plM_gm hi hj, pmM, gm_tab hi hj, unit_gm hi hj, q1, neg_one]
  simp only [if_true]; grind
theorem pm_minus2 {s : List (List Qi)} {n : Nat} : pmM true s (idM n) n = plM (-1) 1 s n := mat_ext pmM_shp (plM_shp (-1) 1 s n) fun i hi j hj => by
  rw [plM_gm hi hj, pmM, gm_tab hi hj, unit_gm hi hj, q1, neg_one]
  simp only [if_true]
  by_cases e : i = j
  · rw [if_pos e, if_pos e]; grind
  · rw [if_neg e, if_neg e]; grind
theorem pm_plus2 {s : List (List Qi)} {n : Nat} : pmM false s (idM n) n = plM 1 1 s n := mat_ext pmM_shp (plM_shp 1 1 s n) fun i hi j hj => by
  rw [plM_gm hi hj, pmM, gm_tab hi hj, unit_gm hi hj, q1]
  simp only [Bool.false_eq_true, if_false]; grind
theorem plM_fit {x y : Int} {m : List (List Qi)} {n L : Nat} (hm : FitM m L) (hL : 1 ≤ L) (hx : FitC (Qi.ofInt x) 1) (hy : FitC (Qi.ofInt y) 1) : FitM (plM x y m n) (L + 4) := fun r hr => by
  obtain ⟨i, _, rfl⟩ := tab_mem.1 hr
  intro z hz
  have f1 : ∀ j, FitC (Qi.ofInt y * gm m i j) (1 + L + 1) := fun j => by haveI := hm.get hL i j; haveI := hy; exact fitMul
  rcases List.mem_or_eq_of_mem_set hz with h | h
  · obtain ⟨j, _, rfl⟩ := tab_mem.1 h; exact (f1 j).le (by omega)
  · rw [h]
    have : FitC (Qi.ofInt y * gm m i i + Qi.ofInt x) (1 + L + 1 + 1 + 1) := @fitAdd (Qi.ofInt y * gm m i i) (Qi.ofInt x) (1 + L + 1) 1 (f1 i) hx
    exact this.le (by omega)
end
section
open Go Go.RowKit
theorem rsl_cv {M : List (List Qi)} {b : List Qi} {n : Nat} (h : Shp M n n) : ∀ v V, (TupT [QsT (gjL M b n), IntT .i64 (gjE M b n)]).p v V → (TupT [QsT (okL (slvE M b n) (slvX M b n)), IntT .i64 (slvE M b n)]).p v V := by
  rw [gjL_okL h, (slv_gj h).1]; exact fun _ _ k => k
theorem fit_pm {x : Int} (h : x = 1 ∨ x = -1) : FitC (Qi.ofInt x) 1 := by
  rcases h with rfl | rfl
  · exact fit_one
  · haveI := fit_one; exact (fitNeg : FitC (-(Qi.ofInt 1)) 1)
theorem set_getF {l : List Qi} {k : Nat} {z : Qi} (h : k < l.length) : ((l.set k z).map QT)[k]? = some (QT z) := by rw [List.getElem?_map, List.getElem?_set_self h]; rfl
set_option maxHeartbeats 1000000 in
set_option maxRecDepth 20000 in
theorem c_rInv {M : List (List Qi)} {n L : Nat} (hM : Shp M n n) (hf : FitM M L) (hL : 1 ≤ L) (h1 : 1 ≤ n) (hn : n ≤ 32) (hg : 6 * grow L n + 4 ≤ 17592186044415) : Fun Tryz.prog 200 [QM M] (TupT [QM (okL (invE M n) (invX M n)), IntT .i64 (invE M n)]) := by
 have hMl := hM.1
 refine Fun.intro Tryz.func200 rfl Tryz.ntmps200 rfl (fun cx => (ts (ro rfl (bY cJ) (ro rfl (bY (cZ 0)) (R_nil (cG (ts (rm rfl (ro rfl (cX Tryz.call252 (c_rSquare hM h1 hn) ⟨(Ht rfl), trivial⟩) (ro rfl (op_not (Ht rfl)) (R_nil (T_condF (Ht rfl) (by rfl) ?_))))))))))))
 refine cK (ts (rm rfl (ro rfl (dW U_32 (Ht rfl) (by rw [List.length_map, hMl])) ?_)))
 refine ra rfl (R_nil (ts (rm rfl (rm rfl (R_call0 Tryz.call138 (c_ZerosO (n := n) (m := n) (by omega) (by omega)) ⟨(Ht rfl), (Ht rfl), trivial⟩ rfl (fun B18 _ => (ra rfl (R_nil (ts (rm rfl (ro rfl (cX Tryz.call213 ((c_rIdO (n := n) hn).fun fun B _ v S V h1 h2 => frz_matF (s := 5) (M := idM n) (idM_shp n).1.symm v S V h1 h2) ⟨(Ht rfl), trivial⟩) (ra rfl (R_nil (cG (ts (ro rfl (bY (cZ 0)) (R_nil (T_block ?_))))))))))))))))))
 refine T_loop (fun (k : Nat) => k ≤ n ∧ ∀ i, i < k → slvE M (ek n i) n = 0) (fun (k : Nat) => n - k) (fun (k : Nat) => [(0, QM M), (4, NT .i64 n), (5, Is (.slice (some ⟨B18, 0, none⟩) n n)), (6, QM (idM n)), (7, NT .i64 k)]) (fun (k : Nat) => [matP exactH B18 31 98 5 (FRow QT (colP (invV M n) n n k 0))]) 0 ⟨Nat.zero_le _, fun i h => by omega⟩
  (aQ rfl (aQ rfl (aQ rfl (aQ rfl (aQ rfl aX))))) (aK (matO_of (by rw [zeroM, ← colP_zero]; rfl)) aU) (fun k ⟨hk, h0⟩ => ?_)
 refine cG (ts (rm rfl (rm rfl (ro rfl (op_lssN (Ht rfl) (Ht rfl)) (R_nil (cY (Ht rfl) (fun hd => ?_) (fun hd => ?_)))))))
 ·have hkn : k < n := by simp only [decide_eq_true_eq] at hd; omega
  have hel := ek_len hkn
  refine cK (cG (T_block (ts (rm rfl (rm rfl (rm rfl (ro rfl (dX U_32 Z_31 (Ht rfl) (Ht rfl) rfl (dU (dK (d := []) (by rw [(idM_shp n).1]; exact hkn)))) ?_)))))))
  refine ro rfl (dZ A_31 Z_31 (Ht rfl)) (ro rfl (cX Tryz.call230 (dY (c_rSolve (M := M) (b := ek n k) (n := n) (L := L) hM hel hf (ek_fit hL) hL h1 hn hg) (rsl_cv hM)) ⟨(Ht rfl), (Ht rfl), trivial⟩) (rm rfl (ro rfl (dG (Ht rfl) rfl) (ro rfl (dG (Ht rfl) rfl) (ra rfl (ra rfl (R_nil (cG (ts (rm rfl (ro rfl (op_neq (Ht rfl) cJ) (R_nil (cY (Ht rfl) (fun he => ?_) (fun he => ?_))))))))))))))
  ·have he2 : ¬ slvE M (ek n k) n = 0 := by simpa using he
   have hi := invE_at h0 hkn he2
   refine ts (rm rfl (ro rfl (bY cJ) (ra rfl (R_nil (T_ret2 rfl (rv_to (rv_tmp rfl) ?_) (rv_to (rv_tmp rfl) ?_))))))
   ·exact (fun v V h => by rw [hi, okL, if_neg he2]; exact nil_slT v V h)
   ·exact (int_of hi.symm)
  ·have he2 : slvE M (ek n k) n = 0 := by simpa using he
   have hxl := slvX_len M (ek n k) n
   refine T_sub (E' := [(0, _), (4, _), (5, _), (6, _), (7, _), (8, _)]) (aQ rfl (aQ rfl (aQ rfl (aQ rfl (aQ rfl (aZ rfl (slT_of (Us := (slvX M (ek n k) n).map QT) (by rw [he2]; rfl)) aX)))))) ?_
   refine cK (ts (ro rfl (bY (cZ 0)) (R_nil (T_block ?_))))
   refine T_loop (fun (i : Nat) => i ≤ n) (fun (i : Nat) => n - i) (fun (i : Nat) => [(0, QM M), (4, NT .i64 n), (5, Is (.slice (some ⟨B18, 0, none⟩) n n)), (6, QM (idM n)), (7, NT .i64 k), (8, QsT (slvX M (ek n k) n)), (10, NT .i64 i)]) (fun (i : Nat) => [matP exactH B18 31 98 5 (FRow QT (colP (invV M n) n n k i))]) 0 (Nat.zero_le _)
    (aQ rfl (aQ rfl (aQ rfl (aQ rfl (aQ rfl (aQ rfl (aQ rfl aX))))))) (HSub.refl _) (fun i hi => ?_)
   refine cG (ts (rm rfl (rm rfl (ro rfl (op_lssN (Ht rfl) (Ht rfl)) (R_nil (cY (Ht rfl) (fun hf2 => ?_) (fun hf2 => ?_)))))))
   ·have hin : i < n := by simp only [decide_eq_true_eq] at hf2; omega
    have hpl := (colP_shp (invV M n) n n k i).1
    have hpr : ((colP (invV M n) n n k i).getD i []).length = n := (colP_shp (invV M n) n n k i).row hin
    refine T_focusE 0 (i) rfl (frow_get (by omega)) (fun v hv => (cK (cG (T_block (C.D_start (m := 9) (dp 5 rfl (cQ (Ht rfl)) (dp 10 rfl (cQ (Ht rfl)) (dqq 43 0 44 1 rfl (op_idxB U_32 Z_31 (Ht rfl) (Ht rfl) rfl (by omega) (by rw [Nat.mul_one, Nat.zero_add])) ?_))))))))
    refine dq 45 2 rfl (op_ldH A_31 Z_31 (Ht rfl) (j := 0) rfl) (dp 7 rfl (cQ (Ht rfl)) (dp 8 rfl (cQ (Ht rfl)) (dp 10 rfl (cQ (Ht rfl)) (dqq 48 5 49 6 rfl (dX U_31 Z_98 (Ht rfl) (Ht rfl) rfl (dU (dK (d := Qi.zero) (by omega)))) (dq 50 7 rfl (dZ A_98 Z_98 (Ht rfl)) (C.D_done mixed rfl (by kernel_rfl) (aJ (aJ (aJ (aJ (aJ (aJ (aJ (aJ (aJ (aV (ro rfl (op_idxO U_31 Z_98 (Ht rfl) (Ht rfl) rfl (i := 1) rfl (by rw [List.length_map]; omega) rfl) ?_)))))))))))))))))
    refine R_stO Z_98 (Ht rfl) (Ht rfl) (El.ag rfl) (i := 1) rfl rfl (by rw [List.length_map]; omega) rfl ?_
    refine R_nil (T_blk (T_unfocus 0 1 rfl rfl (by decide) (by simp only [FRow, List.length_map]; omega) ?_))
    refine cU (rm rfl (ro rfl (dJ (Ht rfl) (cZ 1) (by show _ < 9223372036854775808; first | omega | (simp only [lim]; omega))) (ra rfl (R_nil (T_keep [0] rfl (by decide) (T_again (i + 1) hin (by omega) (aQ rfl (aQ rfl (aQ rfl (aQ rfl (aQ rfl (aQ rfl (aQ rfl aX))))))) (aK (matO_of (by rw [set_mapF, set_FRow]; exact congrArg _ (colP_next (val := invV M n) hin hkn))) aU)))))))
   ·have hin : i = n := by simp only [decide_eq_false_iff_not] at hf2; omega
    rw [hin, colP_col]
    refine T_exit rfl (T_blk (cU (rm rfl (ro rfl (dJ (Ht rfl) (cZ 1) (by show _ < 9223372036854775808; first | omega | (simp only [lim]; omega))) (ra rfl (R_nil ?_))))))
    refine T_again (k + 1) ⟨hkn, fun j h => by
     by_cases e : j = k
     ·rw [e]; exact he2
     ·exact h0 j (by omega)⟩ (by omega) (aQ rfl (aQ rfl (aQ rfl (aQ rfl (aQ rfl aX))))) (HSub.refl _)
 ·have hkn : k = n := by simp only [decide_eq_false_iff_not] at hd; omega
  subst hkn
  have hi := invE_zero h0
  rw [invX_col]
  refine T_exit rfl (T_freeze (i := 0) (tt := 5) rfl rfl (frz_matF (s := 5) (M := invX M k) (invX_shp M k).1.symm) (ts (rm rfl (ra rfl (ro rfl (bY (cZ 0)) (R_nil (T_ret2 rfl (rv_to (rv_tmp rfl) ?_) (rv_to (rv_tmp rfl) ?_))))))))
  ·exact (slT_of (by rw [hi]; rfl))
  ·exact (int_of hi.symm)
set_option maxRecDepth 20000 in
theorem c_rProdO {a b : List (List Qi)} {n k m L M : Nat} (ha : Shp a n k) (hb : Shp b k m) (hfa : FitM a L) (hfb : FitM b M) (hL1 : 1 ≤ L) (hM1 : 1 ≤ M) (hL : L ≤ 900000000000) (hM : M ≤ 900000000000) (hn1 : 1 ≤ n) (hk1 : 1 ≤ k) (hn : n ≤ 8) (hk : k ≤ 8) (hm : m ≤ 8) : FunO Tryz.prog 115 [QM a, QM b] [] (Nat) (fun B => TupT [Is (.slice (some ⟨B, 0, none⟩) n n), IntT .i64 0]) (fun B => [matP exactH B 31 98 5 (FRow QT (mulM a b n k m))]) (fun _ => True) := by
 have hal := ha.1
 have hbl := hb.1
 refine FunO.intro Tryz.func115 rfl Tryz.ntmps115 rfl (fun cx Z => (ts (ro rfl (bY cJ) (ro rfl (bY (cZ 0)) (R_nil (cG (ts (rm rfl (ro rfl (cX Tryz.call214 (c_rValid ha (by omega) (by omega)) ⟨(Ht rfl), trivial⟩) (ro rfl (op_not (Ht rfl)) (rm rfl (R_step rfl rfl (S_when rfl rfl (Ht rfl) (fun h => cQ (Ht rfl))) (R_step rfl rfl (S_when rfl rfl (Ht rfl) (fun h => cX Tryz.call214 (c_rValid hb (by omega) (by omega)) ⟨(Has.w rfl h), trivial⟩)) (R_step rfl rfl (S_when rfl rfl (Ht rfl) (fun h => op_not (Has.w rfl h))) (ro rfl (op_or (Ht rfl) (fun h => (Has.w rfl h))) ?_)))))))))))))))
 refine rm rfl (R_step rfl rfl (S_when rfl rfl (Ht rfl) (fun h => cQ (Ht rfl))) (R_step rfl rfl (S_when rfl rfl (Ht rfl) (fun h => cX Tryz.call215 (c_rColumns ha hn1) ⟨(Has.w rfl h), trivial⟩)) (R_step rfl rfl (S_when rfl rfl (Ht rfl) (fun h => cQ (Ht rfl))) (R_step rfl rfl (S_when rfl rfl (Ht rfl) (fun h => dW U_32 (Has.w rfl h) (by rw [List.length_map, hbl]))) ?_))))
 refine R_step rfl rfl (S_when rfl rfl (Ht rfl) (fun h => op_neqN (Has.w rfl h) (Has.w rfl h))) (ro rfl (op_or (Ht rfl) (fun h => (Has.w rfl h))) (R_nil (T_condF (Ht rfl) (by simp) ?_)))
 refine cK (ts (rm rfl (ro rfl (dW U_32 (Ht rfl) (by rw [List.length_map, hal])) ?_)))
 refine rm rfl (ro rfl (cX Tryz.call215 (c_rColumns hb hk1) ⟨(Ht rfl), trivial⟩) (R_call0 Tryz.call138 (c_ZerosO (n := n) (m := m) (by omega) (by omega)) ⟨(Ht rfl), (Ht rfl), trivial⟩ rfl (fun B29 _ => (ra rfl (R_nil (cG (ts (ro rfl (bY (cZ 0)) (R_nil (T_block ?_))))))))))
 refine T_loop (fun (i : Nat) => i ≤ n) (fun (i : Nat) => n - i) (fun (i : Nat) => [(0, QM a), (1, QM b), (6, Is (.slice (some ⟨B29, 0, none⟩) n n)), (7, NT .i64 i)]) (fun (i : Nat) => [Z, matP exactH B29 31 98 5 (FRow QT (mixT (fun r => tab m fun x => dotN a b k r x) (tab m fun _ => Qi.zero) n i))]) 0 (Nat.zero_le _)
  (aQ rfl (aQ rfl (aQ rfl (aQ rfl aX)))) (aK (fun _ _ _ h => h) (aK (matO_of (by rw [zeroM, mix_zero])) aU)) (fun i hi => ?_)
 refine cG (ts (rm rfl (rm rfl (ro rfl (dW U_32 (Ht rfl) (by rw [List.length_map, hal])) ?_))))
 refine ro rfl (op_lssN (Ht rfl) (Ht rfl)) (R_nil (cY (Ht rfl) (fun hd => ?_) (fun hd => ?_)))
 ·have hin : i < n := by simp only [decide_eq_true_eq] at hd; omega
  have har := ha.row hin
  refine T_focusE 1 (i) rfl (frow_mix hin) (fun v0 hv0 => (cK (cG (T_block (ts (ro rfl (bY (cZ 0)) (R_nil (T_block ?_))))))))
  refine T_loop (fun (x : Nat) => x ≤ m) (fun (x : Nat) => m - x) (fun (x : Nat) => [(0, QM a), (1, QM b), (6, Is (.slice (some ⟨B29, 0, none⟩) n n)), (7, NT .i64 i), (8, NT .i64 x)]) (fun (x : Nat) => [Z, matQ exactH B29 31 98 5 (FRow QT (mixT (fun r => tab m fun x => dotN a b k r x) (tab m fun _ => Qi.zero) n i)) i v0, rowO 98 5 v0 ((mixT (fun x => dotN a b k i x) Qi.zero m x).map QT)]) 0 (Nat.zero_le _)
   (aQ rfl (aQ rfl (aQ rfl (aQ rfl (aQ rfl aX))))) (aK (fun _ _ _ h => h) (aK (fun _ _ _ h => h) (aK (rowO_of (by rw [← mix_zero])) aU))) (fun x hx => ?_)
  refine cG (ts (rm rfl (rm rfl (ro rfl (cX Tryz.call215 (c_rColumns hb hk1) ⟨(Ht rfl), trivial⟩) (ro rfl (op_lssN (Ht rfl) (Ht rfl)) (R_nil (cY (Ht rfl) (fun hc => ?_) (fun hc => ?_))))))))
  ·have hxm : x < m := by simp only [decide_eq_true_eq] at hc; omega
   have hrl := mix_len (fun x => dotN a b k i x) Qi.zero m x
   refine cK (cG (T_block (ts (ro rfl (bY (cZ 0)) (R_nil (T_block ?_))))))
   refine T_loop (fun (j : Nat) => j ≤ k) (fun (j : Nat) => k - j) (fun (j : Nat) => [(0, QM a), (1, QM b), (6, Is (.slice (some ⟨B29, 0, none⟩) n n)), (7, NT .i64 i), (8, NT .i64 x), (9, NT .i64 j)]) (fun (j : Nat) => [Z, matQ exactH B29 31 98 5 (FRow QT (mixT (fun r => tab m fun x => dotN a b k r x) (tab m fun _ => Qi.zero) n i)) i v0, rowO 98 5 v0 (((mixT (fun x => dotN a b k i x) Qi.zero m x).set x (sumN j fun t => gm a i t * gm b t x)).map QT)]) 0 (Nat.zero_le _)
    (aQ rfl (aQ rfl (aQ rfl (aQ rfl (aQ rfl (aQ rfl aX)))))) (aK (fun _ _ _ h => h) (aK (fun _ _ _ h => h) (aK (rowO_of (by rw [show sumN 0 (fun t => gm a i t * gm b t x) = Qi.zero from rfl, mix_set0 hxm])) aU))) (fun j hj => ?_)
   refine cG (ts (rm rfl (rm rfl (ro rfl (dW U_32 (Ht rfl) (by rw [List.length_map, hbl])) ?_))))
   refine ro rfl (op_lssN (Ht rfl) (Ht rfl)) (R_nil (cY (Ht rfl) (fun hb2 => ?_) (fun hb2 => ?_)))
   ·have hjk : j < k := by simp only [decide_eq_true_eq] at hb2; omega
    have hbr := hb.row hjk
    haveI f1 : FitC (gm a i j) L := hfa.get hL1 i j
    haveI f2 : FitC (gm b j x) M := hfb.get hM1 j x
    haveI f3 : FitC (sumN j fun t => gm a i t * gm b t x) (1 + j * (L + M + 1 + 1)) := FitC.sum (L := L + M + 1) fun t _ => by haveI := hfa.get hL1 i t; haveI := hfb.get hM1 t x; exact fitMul
    have hjm : j * (L + M + 1 + 1) ≤ 8 * (L + M + 2) := Nat.mul_le_mul (by omega) (Nat.le_refl _)
    have hsl : ((mixT (fun x => dotN a b k i x) Qi.zero m x).set x (sumN j fun t => gm a i t * gm b t x)).length = m := by rw [List.length_set]; exact hrl
    refine cK (cG (T_block (C.D_start (m := 28) (dp 6 rfl (cQ (Ht rfl)) (dp 7 rfl (cQ (Ht rfl)) (dqq 48 0 49 1 rfl (op_idxB U_32 Z_31 (Ht rfl) (Ht rfl) rfl (by omega) (by rw [Nat.mul_one, Nat.zero_add])) ?_))))))
    refine dq 50 2 rfl (op_ldH A_31 Z_31 (Ht rfl) (j := 1) rfl) (dp 8 rfl (cQ (Ht rfl)) (dp 6 rfl (cQ (Ht rfl)) (dp 7 rfl (cQ (Ht rfl)) (dqq 53 5 54 6 rfl (op_idxB U_32 Z_31 (Ht rfl) (Ht rfl) rfl (by omega) (by rw [Nat.mul_one, Nat.zero_add])) ?_))))
    refine dq 55 7 rfl (op_ldH A_31 Z_31 (Ht rfl) (j := 1) rfl) (dp 8 rfl (cQ (Ht rfl)) (dqq 56 8 57 9 rfl (op_idxO U_31 Z_98 (Ht rfl) (Ht rfl) rfl (i := 2) rfl (by rw [List.length_map, hsl]; exact hxm) rfl) ?_))
    refine dq 58 10 rfl (op_ldO A_98 Z_98 (Ht rfl) (i := 2) rfl rfl (set_getF (by rw [hrl]; exact hxm))) ?_
    refine dp 0 rfl (cQ (Ht rfl)) (dp 7 rfl (cQ (Ht rfl)) (dqq 60 12 61 13 rfl (dX U_32 Z_31 (Ht rfl) (Ht rfl) rfl (dU (dK (d := []) (by omega)))) (dq 62 14 rfl (dZ A_31 Z_31 (Ht rfl)) (dp 9 rfl (cQ (Ht rfl)) (dqq 63 15 64 16 rfl (dX U_31 Z_98 (Ht rfl) (Ht rfl) rfl (dU (dK (d := Qi.zero) (by omega)))) (dq 65 17 rfl (dZ A_98 Z_98 (Ht rfl)) (dp 1 rfl (cQ (Ht rfl)) (dp 9 rfl (cQ (Ht rfl)) (dqq 67 19 68 20 rfl (dX U_32 Z_31 (Ht rfl) (Ht rfl) rfl (dU (dK (d := []) (by omega)))) ?_)))))))))
    refine dq 69 21 rfl (dZ A_31 Z_31 (Ht rfl)) (dp 8 rfl (cQ (Ht rfl)) (dqq 70 22 71 23 rfl (dX U_31 Z_98 (Ht rfl) (Ht rfl) rfl (dU (dK (d := Qi.zero) (by omega)))) (dq 72 24 rfl (dZ A_98 Z_98 (Ht rfl)) (dqq 66 18 73 25 rfl (cX K_99 (c_rMul (x := gm a i j) (y := gm b j x) (L := L) (M := M) (by omega)) ⟨(Ht rfl), (Ht rfl), trivial⟩) (dqq 59 11 74 26 rfl (cX Tryz.call159 (c_rAdd (x := (sumN j fun t => gm a i t * gm b t x)) (y := gm a i j * gm b j x) (L := 1 + j * (L + M + 1 + 1)) (M := L + M + 1) (by omega)) ⟨(Ht rfl), (Ht rfl), trivial⟩) ?_)))))
    refine C.D_done mixed rfl (by kernel_rfl) (aJ (aJ (aJ (aJ (aJ (aJ (aJ (aJ (aJ (aJ (aJ (aJ (aJ (aJ (aJ (aJ (aJ (aJ (aJ (aJ (aJ (aJ (aJ (aJ (aJ (aJ (aJ (aJ (aV (ro rfl (op_idxO U_31 Z_98 (Ht rfl) (Ht rfl) rfl (i := 2) rfl (by rw [List.length_map, hsl]; exact hxm) rfl) ?_))))))))))))))))))))))))))))))
    refine R_stO Z_98 (Ht rfl) (Ht rfl) (El.ag rfl) (i := 2) rfl rfl (by rw [List.length_map, hsl]; exact hxm) rfl ?_
    refine R_nil (T_blk (cU (rm rfl (ro rfl (dJ (Ht rfl) (cZ 1) (by show _ < 9223372036854775808; first | omega | (simp only [lim]; omega))) (ra rfl (R_nil (T_again (j + 1) hjk (by omega) (aQ rfl (aQ rfl (aQ rfl (aQ rfl (aQ rfl (aQ rfl aX)))))) (aK (fun _ _ _ h => h) (aK (fun _ _ _ h => h) (aK (rowO_of (by rw [set_mapF, List.set_set]; rfl)) aU))))))))))
   ·have hjk : j = k := by simp only [decide_eq_false_iff_not] at hb2; omega
    subst hjk
    refine T_exit rfl (T_blk (cU (rm rfl (ro rfl (dJ (Ht rfl) (cZ 1) (by show _ < 9223372036854775808; first | omega | (simp only [lim]; omega))) (ra rfl (R_nil (T_again (x + 1) hxm (by omega) (aQ rfl (aQ rfl (aQ rfl (aQ rfl (aQ rfl aX))))) (aK (fun _ _ _ h => h) (aK (fun _ _ _ h => h) (aK (rowO_of (congrArg _ (mix_set (f := fun x => dotN a b j i x)))) aU))))))))))
  ·have hxm : x = m := by simp only [decide_eq_false_iff_not] at hc; omega
   subst hxm
   rw [mix_fin]
   refine T_exit rfl (T_blk (T_unfocus 1 2 rfl rfl (by decide) (by simp only [FRow, List.length_map, mix_len]; omega) ?_))
   refine cU (rm rfl (ro rfl (dJ (Ht rfl) (cZ 1) (by show _ < 9223372036854775808; first | omega | (simp only [lim]; omega))) (ra rfl (R_nil (T_keep [0, 1] rfl (by decide) (T_again (i + 1) hin (by omega) (aQ rfl (aQ rfl (aQ rfl (aQ rfl aX)))) (aK (fun _ _ _ h => h) (aK (matO_of (by rw [set_FRow]; exact congrArg _ (mix_set (f := fun r => tab x fun c => dotN a b k r c)))) aU))))))))
 ·have hin : i = n := by simp only [decide_eq_false_iff_not] at hd; omega
  subst hin
  rw [mix_fin]
  refine T_exit rfl (ts (rm rfl (ra rfl (ro rfl (bY (cZ 0)) (R_nil ?_)))))
  exact T_retO B29 trivial [0, 1] ⟨⟨_, rfl, fun _ _ _ h => h⟩, ⟨_, rfl, fun _ _ _ h => h⟩, trivial⟩ (by decide) (rvs2 rfl (rv_tmp rfl) (rv_tmp rfl))
theorem c_rProd {a b : List (List Qi)} {n k m L M : Nat} (ha : Shp a n k) (hb : Shp b k m) (hfa : FitM a L) (hfb : FitM b M) (hL1 : 1 ≤ L) (hM1 : 1 ≤ M) (hL : L ≤ 900000000000) (hM : M ≤ 900000000000) (hn1 : 1 ≤ n) (hk1 : 1 ≤ k) (hn : n ≤ 8) (hk : k ≤ 8) (hm : m ≤ 8) : Fun Tryz.prog 115 [QM a, QM b] (TupT [QM (mulM a b n k m), IntT .i64 0]) := (c_rProdO ha hb hfa hfb hL1 hM1 hL hM hn1 hk1 hn hk hm).fun fun B _ v S V h1 h2 => tup1 h1 fun u hu => frz_matF (s := 5) (M := mulM a b n k m) mulM_shp.1.symm u S V hu h2
set_option maxRecDepth 20000 in
theorem c_rOver {Y M : List (List Qi)} {n L K : Nat} (hY : Shp Y n n) (hM : Shp M n n) (hfY : FitM Y K) (hf : FitM M L) (hK : 1 ≤ K) (hKb : K ≤ 900000000000) (hL : 1 ≤ L) (h1 : 1 ≤ n) (hn : n ≤ 8) (hg : 6 * grow L n + 4 ≤ 17592186044415) (hx : xgr (grow L n) n ≤ 900000000000) : Fun Tryz.prog 97 [QM Y, QM M] (TupT [QM (ovX Y M n), BoolT (decide (ovE M n = 0))]) := by
 refine Fun.intro Tryz.func97 rfl Tryz.ntmps97 rfl (fun cx => (ts (ro rfl (bY cJ) (ro rfl (bY cJ) (R_nil (ts (rm rfl (ro rfl (cX Tryz.call200 (c_rInv hM hf hL h1 (by omega) hg) ⟨(Ht rfl), trivial⟩) (rm rfl (ro rfl (dG (Ht rfl) rfl) (ro rfl (dG (Ht rfl) rfl) (ra rfl (ra rfl (R_nil (cG (ts (rm rfl (ro rfl (op_neq (Ht rfl) cJ) (R_nil (cY (Ht rfl) (fun he => ?_) (fun he => ?_)))))))))))))))))))))
 ·have he2 : ¬ invE M n = 0 := by simpa using he
  have ho : ovE M n = 5 := if_neg he2
  refine ts (ro rfl (bY cJ) (ro rfl (bY cJ) (R_nil (T_ret2 rfl (rv_to (rv_tmp rfl) ?_) (rv_to (rv_tmp rfl) ?_)))))
  ·exact (fun v V h => by rw [ovX, ho]; exact nil_slT v V h)
  ·exact (bool_of (by rw [ho]; rfl))
 ·have he2 : invE M n = 0 := by simpa using he
  have ho : ovE M n = 0 := if_pos he2
  have hif := invX_fit hM hf hL he2
  have hx1 : 1 ≤ xgr (grow L n) n := Nat.le_trans hL (Nat.le_trans (grow_le L n) (xgr_ge (grow L n) n))
  refine T_sub (E' := [(0, _), (1, _), (4, _), (5, _), (6, _), (7, _), (10, _), (11, _), (12, _), (13, _), (14, _), (15, _), (16, _)]) (aQ rfl (aQ rfl (aQ rfl (aQ rfl (aZ rfl (slT_of (Us := (invX M n).map QsT) (by rw [he2]; rfl)) (aQ rfl (aQ rfl (aQ rfl (aQ rfl (aQ rfl (aQ rfl (aQ rfl (aQ rfl aX))))))))))))) ?_
  refine cK (ts (rm rfl (rm rfl (ro rfl (cX Tryz.call115 (c_rProd (n := n) (k := n) (m := n) hY (invX_shp M n) hfY hif hK hx1 hKb hx h1 h1 hn hn hn) ⟨(Ht rfl), (Ht rfl), trivial⟩) (rm rfl (ro rfl (dG (Ht rfl) rfl) (ro rfl (dG (Ht rfl) rfl) (ra rfl (ra rfl (R_nil (ts (rm rfl (ra rfl (ro rfl (bY cJ) (R_nil (T_ret2 rfl (rv_to (rv_tmp rfl) ?_) (rv_to (rv_tmp rfl) ?_)))))))))))))))))
  ·exact (slT_of (by rw [ovX, ho]; rfl))
  ·exact (bool_of (by rw [ho]; rfl))
set_option maxRecDepth 20000 in
theorem c_rUnder {Y M : List (List Qi)} {n L K : Nat} (hY : Shp Y n n) (hM : Shp M n n) (hfY : FitM Y K) (hf : FitM M L) (hK : 1 ≤ K) (hKb : K ≤ 900000000000) (hL : 1 ≤ L) (h1 : 1 ≤ n) (hn : n ≤ 8) (hg : 6 * grow L n + 4 ≤ 17592186044415) (hx : xgr (grow L n) n ≤ 900000000000) : Fun Tryz.prog 106 [QM M, QM Y] (TupT [QM (unX M Y n), BoolT (decide (ovE M n = 0))]) := by
 refine Fun.intro Tryz.func106 rfl Tryz.ntmps106 rfl (fun cx => (ts (ro rfl (bY cJ) (ro rfl (bY cJ) (R_nil (ts (rm rfl (ro rfl (cX Tryz.call200 (c_rInv hM hf hL h1 (by omega) hg) ⟨(Ht rfl), trivial⟩) (rm rfl (ro rfl (dG (Ht rfl) rfl) (ro rfl (dG (Ht rfl) rfl) (ra rfl (ra rfl (R_nil (cG (ts (rm rfl (ro rfl (op_neq (Ht rfl) cJ) (R_nil (cY (Ht rfl) (fun he => ?_) (fun he => ?_)))))))))))))))))))))
 ·have he2 : ¬ invE M n = 0 := by simpa using he
  have ho : ovE M n = 5 := if_neg he2
  refine ts (ro rfl (bY cJ) (ro rfl (bY cJ) (R_nil (T_ret2 rfl (rv_to (rv_tmp rfl) ?_) (rv_to (rv_tmp rfl) ?_)))))
  ·exact (fun v V h => by rw [unX, ho]; exact nil_slT v V h)
  ·exact (bool_of (by rw [ho]; rfl))
 ·have he2 : invE M n = 0 := by simpa using he
  have ho : ovE M n = 0 := if_pos he2
  have hif := invX_fit hM hf hL he2
  have hx1 : 1 ≤ xgr (grow L n) n := Nat.le_trans hL (Nat.le_trans (grow_le L n) (xgr_ge (grow L n) n))
  refine T_sub (E' := [(0, _), (1, _), (4, _), (5, _), (6, _), (7, _), (10, _), (11, _), (12, _), (13, _), (14, _), (15, _), (16, _)]) (aQ rfl (aQ rfl (aQ rfl (aQ rfl (aZ rfl (slT_of (Us := (invX M n).map QsT) (by rw [he2]; rfl)) (aQ rfl (aQ rfl (aQ rfl (aQ rfl (aQ rfl (aQ rfl (aQ rfl (aQ rfl aX))))))))))))) ?_
  refine cK (ts (rm rfl (rm rfl (ro rfl (cX Tryz.call115 (c_rProd (n := n) (k := n) (m := n) (invX_shp M n) hY hif hfY hx1 hK hx hKb h1 h1 hn hn hn) ⟨(Ht rfl), (Ht rfl), trivial⟩) (rm rfl (ro rfl (dG (Ht rfl) rfl) (ro rfl (dG (Ht rfl) rfl) (ra rfl (ra rfl (R_nil (ts (rm rfl (ra rfl (ro rfl (bY cJ) (R_nil (T_ret2 rfl (rv_to (rv_tmp rfl) ?_) (rv_to (rv_tmp rfl) ?_)))))))))))))))))
  ·exact (slT_of (by rw [unX, ho]; rfl))
  ·exact (bool_of (by rw [ho]; rfl))
set_option maxHeartbeats 1000000 in
set_option maxRecDepth 20000 in
theorem c_rPlus {x y : Int} {M : List (List Qi)} {n L : Nat} (hM : Shp M n n) (hf : FitM M L) (hL : 1 ≤ L) (hLb : L ≤ 900000000000) (hn : n ≤ 1000) (hx : x = 1 ∨ x = -1) (hy : y = 1 ∨ y = -1) : Fun Tryz.prog 98 [IntT .i64 x, IntT .i64 y, QM M] (QM (plM x y M n)) := by
 have hMl := hM.1
 have hxb : -9223372036854775808 ≤ x ∧ x ≤ 9223372036854775807 := by omega
 have hyb : -9223372036854775808 ≤ y ∧ y ≤ 9223372036854775807 := by omega
 haveI fx : FitC (Qi.ofInt x) 1 := fit_pm hx
 haveI fy : FitC (Qi.ofInt y) 1 := fit_pm hy
 refine Fun.intro Tryz.func98 rfl Tryz.ntmps98 rfl (fun cx => (ts (ro rfl (bY cJ) (R_nil (ts (rm rfl (ro rfl (dW U_32 (Ht rfl) (by rw [List.length_map, hMl])) ?_)))))))
 refine rm rfl (ro rfl (dW U_32 (Ht rfl) (by rw [List.length_map, hMl])) ?_)
 refine R_call0 Tryz.call138 (c_ZerosO (n := n) (m := n) (by omega) (by omega)) ⟨(Ht rfl), (Ht rfl), trivial⟩ rfl (fun B14 _ => (ra rfl (R_nil (cG (ts (ro rfl (bY (cZ 0)) (R_nil (T_block ?_))))))))
 refine T_loop (fun (i : Nat) => i ≤ n) (fun (i : Nat) => n - i) (fun (i : Nat) => [(0, IntT .i64 x), (1, IntT .i64 y), (2, QM M), (7, Is (.slice (some ⟨B14, 0, none⟩) n n)), (8, NT .i64 i)]) (fun (i : Nat) => [matP exactH B14 31 98 5 (FRow QT (mixT (fun i => (tab n fun j => Qi.ofInt y * gm M i j).set i (Qi.ofInt y * gm M i i + Qi.ofInt x)) (tab n fun _ => Qi.zero) n i))]) 0 (Nat.zero_le _)
  (aQ rfl (aQ rfl (aQ rfl (aQ rfl (aQ rfl aX))))) (aK (matO_of (by rw [zeroM, mix_zero])) aU) (fun i hi => ?_)
 refine cG (ts (rm rfl (rm rfl (ro rfl (dW U_32 (Ht rfl) (by rw [List.length_map, hMl])) ?_))))
 refine ro rfl (op_lssN (Ht rfl) (Ht rfl)) (R_nil (cY (Ht rfl) (fun hd => ?_) (fun hd => ?_)))
 ·have hin : i < n := by simp only [decide_eq_true_eq] at hd; omega
  have hMr := hM.row hin
  refine T_focusE 0 (i) rfl (frow_mix hin) (fun v0 hv0 => (cK (cG (T_block (cG (ts (ro rfl (bY (cZ 0)) (R_nil (T_block ?_)))))))))
  refine T_loop (fun (j : Nat) => j ≤ n) (fun (j : Nat) => n - j) (fun (j : Nat) => [(0, IntT .i64 x), (1, IntT .i64 y), (2, QM M), (7, Is (.slice (some ⟨B14, 0, none⟩) n n)), (8, NT .i64 i), (9, NT .i64 j)]) (fun (j : Nat) => [matQ exactH B14 31 98 5 (FRow QT (mixT (fun i => (tab n fun j => Qi.ofInt y * gm M i j).set i (Qi.ofInt y * gm M i i + Qi.ofInt x)) (tab n fun _ => Qi.zero) n i)) i v0, rowO 98 5 v0 ((mixT (fun j => Qi.ofInt y * gm M i j) Qi.zero n j).map QT)]) 0 (Nat.zero_le _)
   (aQ rfl (aQ rfl (aQ rfl (aQ rfl (aQ rfl (aQ rfl aX)))))) (aK (fun _ _ _ h => h) (aK (rowO_of (by rw [← mix_zero])) aU)) (fun j hj => ?_)
  refine cG (ts (rm rfl (rm rfl (ro rfl (dW U_32 (Ht rfl) (by rw [List.length_map, hMl])) ?_))))
  refine ro rfl (op_lssN (Ht rfl) (Ht rfl)) (R_nil (cY (Ht rfl) (fun hb => ?_) (fun hb => ?_)))
  ·have hjn : j < n := by simp only [decide_eq_true_eq] at hb; omega
   haveI f2 : FitC (gm M i j) L := hf.get hL i j
   have hrl := mix_len (fun j => Qi.ofInt y * gm M i j) Qi.zero n j
   refine cK (cG (T_block (C.D_start (m := 15) (dp 7 rfl (cQ (Ht rfl)) (dp 8 rfl (cQ (Ht rfl)) (dqq 27 0 28 1 rfl (op_idxB U_32 Z_31 (Ht rfl) (Ht rfl) rfl (by omega) (by rw [Nat.mul_one, Nat.zero_add])) ?_))))))
   refine dq 29 2 rfl (op_ldH A_31 Z_31 (Ht rfl) (j := 0) rfl) (dp 9 rfl (cQ (Ht rfl)) (dp 1 rfl (cQ (Ht rfl)) (dq 32 5 rfl (cX Tryz.call117 (c_rWhole (n := y) hyb.1 hyb.2) ⟨(Ht rfl), trivial⟩) (dp 2 rfl (cQ (Ht rfl)) (dp 8 rfl (cQ (Ht rfl)) (dqq 34 7 35 8 rfl (dX U_32 Z_31 (Ht rfl) (Ht rfl) rfl (dU (dK (d := []) (by omega)))) (dq 36 9 rfl (dZ A_31 Z_31 (Ht rfl)) (dp 9 rfl (cQ (Ht rfl)) (dqq 37 10 38 11 rfl (dX U_31 Z_98 (Ht rfl) (Ht rfl) rfl (dU (dK (d := Qi.zero) (by omega)))) ?_)))))))))
   refine dq 39 12 rfl (dZ A_98 Z_98 (Ht rfl)) (dqq 33 6 40 13 rfl (cX K_99 (c_rMul (x := Qi.ofInt y) (y := gm M i j) (L := 1) (M := L) (by omega)) ⟨(Ht rfl), (Ht rfl), trivial⟩) (C.D_done mixed rfl (by kernel_rfl) (aJ (aJ (aJ (aJ (aJ (aJ (aJ (aJ (aJ (aJ (aJ (aJ (aJ (aJ (aJ (aV (ro rfl (op_idxO U_31 Z_98 (Ht rfl) (Ht rfl) rfl (i := 1) rfl (by rw [List.length_map, hrl]; exact hjn) rfl) ?_)))))))))))))))))))
   refine R_stO Z_98 (Ht rfl) (Ht rfl) (El.ag rfl) (i := 1) rfl rfl (by rw [List.length_map, hrl]; exact hjn) rfl ?_
   refine R_nil (T_blk (cU (rm rfl (ro rfl (dJ (Ht rfl) (cZ 1) (by show _ < 9223372036854775808; first | omega | (simp only [lim]; omega))) (ra rfl (R_nil (T_again (j + 1) hjn (by omega) (aQ rfl (aQ rfl (aQ rfl (aQ rfl (aQ rfl (aQ rfl aX)))))) (aK (fun _ _ _ h => h) (aK (rowO_of (by rw [set_mapF]; exact congrArg _ (mix_set (f := (fun j => Qi.ofInt y * gm M i j))))) aU)))))))))
  ·have hjn : j = n := by simp only [decide_eq_false_iff_not] at hb; omega
   subst hjn
   rw [mix_fin]
   haveI f2 : FitC (gm M i i) L := hf.get hL i i
   haveI f3 : FitC (Qi.ofInt y * gm M i i) (1 + L + 1) := fitMul
   have hrl := tab_len j (fun k => Qi.ofInt y * gm M i k)
   refine T_exit rfl (C.D_start (m := 15) (dp 7 rfl (cQ (Ht rfl)) (dp 8 rfl (cQ (Ht rfl)) (dqq 43 0 44 1 rfl (op_idxB U_32 Z_31 (Ht rfl) (Ht rfl) rfl (by omega) (by rw [Nat.mul_one, Nat.zero_add])) ?_))))
   refine dq 45 2 rfl (op_ldH A_31 Z_31 (Ht rfl) (j := 0) rfl) (dp 8 rfl (cQ (Ht rfl)) (dp 7 rfl (cQ (Ht rfl)) (dp 8 rfl (cQ (Ht rfl)) (dqq 48 5 49 6 rfl (op_idxB U_32 Z_31 (Ht rfl) (Ht rfl) rfl (by omega) (by rw [Nat.mul_one, Nat.zero_add])) ?_))))
   refine dq 50 7 rfl (op_ldH A_31 Z_31 (Ht rfl) (j := 0) rfl) (dp 8 rfl (cQ (Ht rfl)) (dqq 51 8 52 9 rfl (op_idxO U_31 Z_98 (Ht rfl) (Ht rfl) rfl (i := 1) rfl (by rw [List.length_map, hrl]; exact hin) rfl) ?_))
   refine dq 53 10 rfl (op_ldO A_98 Z_98 (Ht rfl) (i := 1) rfl rfl (dU (tab_get hin))) (dp 0 rfl (cQ (Ht rfl)) (dq 55 12 rfl (cX Tryz.call117 (c_rWhole (n := x) hxb.1 hxb.2) ⟨(Ht rfl), trivial⟩) (dqq 54 11 56 13 rfl (cX Tryz.call159 (c_rAdd (x := Qi.ofInt y * gm M i i) (y := Qi.ofInt x) (L := 1 + L + 1) (M := 1) (by omega)) ⟨(Ht rfl), (Ht rfl), trivial⟩) (C.D_done mixed rfl (by kernel_rfl) (aJ (aJ (aJ (aJ (aJ (aJ (aJ (aJ (aJ (aJ (aJ (aJ (aJ (aJ (aJ (aV (ro rfl (op_idxO U_31 Z_98 (Ht rfl) (Ht rfl) rfl (i := 1) rfl (by rw [List.length_map, hrl]; exact hin) rfl) ?_)))))))))))))))))))))
   refine R_stO Z_98 (Ht rfl) (Ht rfl) (El.ag rfl) (i := 1) rfl rfl (by rw [List.length_map, hrl]; exact hin) rfl ?_
   refine R_nil (T_blk (T_unfocus 0 1 rfl rfl (by decide) (by simp only [FRow, List.length_map, mix_len]; omega) ?_))
   refine cU (rm rfl (ro rfl (dJ (Ht rfl) (cZ 1) (by show _ < 9223372036854775808; first | omega | (simp only [lim]; omega))) (ra rfl (R_nil (T_keep [0] rfl (by decide) (T_again (i + 1) hin (by omega) (aQ rfl (aQ rfl (aQ rfl (aQ rfl (aQ rfl aX))))) (aK (matO_of (by rw [set_mapF, set_FRow]; exact congrArg _ (mix_set (f := (fun i => (tab j fun j => Qi.ofInt y * gm M i j).set i (Qi.ofInt y * gm M i i + Qi.ofInt x)))))) aU)))))))
 ·have hin : i = n := by simp only [decide_eq_false_iff_not] at hd; omega
  subst hin
  rw [mix_fin]
  refine T_exit rfl (T_freeze (i := 0) (tt := 7) rfl rfl (frz_matF (s := 5) (M := plM x y M i) (plM_shp x y M i).1.symm) (ts (rm rfl (ra rfl (R_nil ?_)))))
  exact T_ret1 rfl (rv_tmp rfl)
end
section
open Go Go.RowKit
theorem fa_24_0 (a : Addr) (w : World) : (Instr.fieldAt 24 (.pointer (some a)) 0).run Tryz.prog w = .ok (.pointer (some (a.add 0))) w := by
  simp [Instr.fieldAt, Instr.sureAddr, fieldPlace, Sem.run_bind, Result.andThen, U_24, Z_5]
theorem fa_24_1 (a : Addr) (w : World) : (Instr.fieldAt 24 (.pointer (some a)) 1).run Tryz.prog w = .ok (.pointer (some (a.add 1))) w := by
  simp [Instr.fieldAt, Instr.sureAddr, fieldPlace, Sem.run_bind, Result.andThen, U_24, Z_22]
theorem fa_24_2 (a : Addr) (w : World) : (Instr.fieldAt 24 (.pointer (some a)) 2).run Tryz.prog w = .ok (.pointer (some (a.add 2))) w := by
  simp [Instr.fieldAt, Instr.sureAddr, fieldPlace, Sem.run_bind, Result.andThen, U_24, Z_22]
theorem info_22 : Tryz.prog.info? 22 = some Tryz.t22 := by kernel_rfl
theorem info_91 : Tryz.prog.info? 91 = some Tryz.t91 := by kernel_rfl
theorem und_22 : Tryz.prog.underlying 22 = some (.slice 91) := by kernel_rfl
end
section
open Go Go.RowKit
abbrev PartT (a : Nat) (zl sl : List Rt) : Ty := AggT [NT .u8 a, RatsT zl, RatsT sl]
theorem rat0_p : ∀ V, (RatT default).p (.agg #[.int .i64 0, .int .i64 0, .int .i64 0]) V := fun V => ⟨[.int .i64 0, .int .i64 0, .int .i64 0], rfl, aW ⟨rfl, trivial⟩ (aW ⟨rfl, trivial⟩ (aW ⟨rfl, trivial⟩ aG))⟩
theorem frzG {B e s l : Nat} {BT : TypeId} {Rs : List (List Ty)} {q : Value → Prop} (hl : l = Rs.length) : ∀ u S V, (Is (.slice (some ⟨B, 0, none⟩) l l)).p u V → (matP q B BT e s Rs).h S V V → (SlT 1 (Rs.map (SlT s))).p u V := fun u S V h1 h2 => frz_mat hl (Nat.le_refl _) u S V h1 h2
theorem plS_rows (a : Nat) (sl : List Rt) : (tab (plN a) fun i => tab (plN a) fun j => RatT (smR (pkR sl (plN a * i + j)))).map (SlT 3) = (plS a sl).map RatsT := by
  rw [plS, tab_map, tab_map]
  refine tab_congr fun i _ => ?_
  rw [RatsT, tab_map]
set_option maxRecDepth 20000 in
theorem c_PlainO {a : Nat} {zl sl : List Rt} (ha : a < 256) : FunO Tryz.prog 88 [PartT a zl sl] [] (Nat) (fun B => TupT [RatsT (plZ a zl), Is (.slice (some ⟨B, 0, none⟩) (plN a) (plN a))]) (fun B => [matO B 22 91 3 (tab (plN a) (fun i => tab (plN a) fun j => RatT (smR (pkR sl (plN a * i + j)))))]) (fun _ => True) := by
 have hn : plN a ≤ 4 := by unfold plN; omega
 have hn0 : a % 4 + 1 = plN a := rfl
 refine FunO.intro Tryz.func88 rfl Tryz.ntmps88 rfl (fun cx Z => (ts (rn rfl (new_box (Ht rfl)) fun B1 => (ro rfl (bY cJ) (ro rfl (bY cJ) (R_nil (ts (ro rfl (op_fldB fa_24_0 (Ht rfl) rfl) (ro rfl (op_ldB A_5 Z_5 (Ht rfl) (i := 1) rfl rfl) (ro rfl (op_remN (Ht rfl) (cZ 4) (by omega)) (ro rfl (op_convN U_5 U_3 (Ht rfl) (by show _ < 9223372036854775808; first | omega | (simp only [lim]; omega))) (ro rfl (OpTy.nat (dJ (Ht rfl) (cZ 1) (by show _ < 9223372036854775808; first | omega | (simp only [lim]; omega))) hn0) ?_))))))))))))
 refine ra rfl (R_nil (cG (C.D_start (m := 5) (dp 4 rfl (cQ (Ht rfl)) (C.D_new (Ei := [(14, _)]) rfl rfl rfl (bJ (bW 0 rfl rfl) bV) (new_makeO (T := RatT default) (i := Tryz.t91) und_22 info_91 rfl rfl (Ht rfl) rfl rat0_p (El.ag rfl) (by show 24 * _ ≤ _; omega) (by omega)) (dp 4 rfl (cQ (Ht rfl)) (C.D_new (Ei := [(16, _)]) rfl rfl rfl (bJ (bW 2 rfl rfl) bV) (new_make (T := Is (.slice none 0 0)) (i := Tryz.t22) Tryz.underlying25 info_22 rfl rfl (Ht rfl) rfl (fun _ => rfl) trivial (by show 24 * _ ≤ _; omega) (by omega)) (C.D_cpy 1 rfl rfl rfl rfl rfl C.cpy_assign ?_))))))))
 refine C.D_done mixed rfl (by kernel_rfl) (aJ (C.F_new (fun B15 => aJ (C.F_new (fun B17 => C.F_cpy rfl (aV (ra rfl (R_nil (cG (ts (rm rfl (ro rfl (op_lenO U_22 (Ht rfl) (i := 2) rfl (show ((List.replicate (plN a) (RatT default)).length : Int) = ((plN a : Nat) : Int) from by simp)) (ro rfl (cQ (cZ 0)) (R_nil (T_block (T_conv 3 rfl (mat_nil (e := 91) (s := 3)) ?_))))))))))))))))
 refine T_loop (fun (i : Nat) => i ≤ plN a) (fun (i : Nat) => plN a - i) (fun (i : Nat) => [(1, PtrB B1 0), (4, NT .i64 (plN a)), (5, Is B15), (6, Is (.slice (some ⟨B17, 0, none⟩) (plN a) (plN a))), (19, NT .i64 (plN a)), (20, NT .i64 i)]) (fun (i : Nat) => [Z, box B1 24 [NT .u8 a, RatsT zl, RatsT sl], rowO 91 3 B15 (mixT (fun i => RatT (imR (pkR zl i))) (RatT default) (plN a) i), matO B17 22 91 3 (mixT (fun i => tab (plN a) fun j => RatT (smR (pkR sl (plN a * i + j)))) [] (plN a) i)]) 0 (Nat.zero_le _)
  (aQ rfl (aQ rfl (aQ rfl (aQ rfl (aZ rfl (nt_of (by simp)) (aQ rfl aX)))))) (aK (fun _ _ _ h => h) (aK (box_of rfl) (aK (rowO_of (by rw [← mix_zero]; exact rep_tab _ _)) (aK (matO_of (by rw [← mix_zero]; exact rep_tab _ _)) aU)))) (fun i hi => ?_)
 refine ts (ro rfl (op_lssN (Ht rfl) (Ht rfl)) (R_nil (cG (cY (Ht rfl) (fun hd => ?_) (fun hd => ?_)))))
 ·simp only [decide_eq_true_eq] at hd
  have hni : plN a * i ≤ 4 * 4 := Nat.mul_le_mul hn (by omega)
  refine T_focus 3 (i) rfl (mix_get hd) (fun v0 => (cK (cG (T_block (ts (rm rfl (ra rfl (R_nil (ts (rm rfl (rm rfl (ro rfl (op_fldB fa_24_1 (Ht rfl) rfl) (ro rfl (op_ldB A_22 Z_22 (Ht rfl) (i := 1) rfl rfl) (rm rfl (ro rfl (cX Tryz.call75 c_pick ⟨(Ht rfl), (Ht rfl), trivial⟩) (ro rfl (cX Tryz.call74 c_imped ⟨(Ht rfl), trivial⟩) (ro rfl (op_idxO U_22 Z_91 (Ht rfl) (Ht rfl) rfl (i := 2) rfl (by rw [mix_len]; omega) rfl) ?_)))))))))))))))))
  refine R_stO Z_91 (Ht rfl) (Ht rfl) (El.ag rfl) (i := 2) rfl rfl (by rw [mix_len]; omega) rfl ?_
  refine R_nil (ts (rm rfl (rm rfl (rm rfl (rn rfl (new_makeO (T := RatT default) (i := Tryz.t91) und_22 info_91 rfl rfl (Ht rfl) rfl rat0_p (El.ag rfl) (by show 24 * _ ≤ _; omega) (by omega)) fun B34 => (ro rfl (op_idxB U_25 Z_22 (Ht rfl) (Ht rfl) rfl (by omega) (by rw [Nat.mul_one, Nat.zero_add])) ?_))))))
  refine R_stH Z_22 (Ht rfl) (Ht rfl) (by rw [mix_len]; omega) (j := 3) (l := 5) rfl rfl rfl ?_
  refine R_nil (cG (T_keep [0, 1, 2, 3, 5] rfl (by decide) (cU (rm rfl (rm rfl (ro rfl (op_idxB U_25 Z_22 (Ht rfl) (Ht rfl) rfl (by omega) (by rw [Nat.mul_one, Nat.zero_add])) ?_))))))
  refine ro rfl (op_ldH A_22 Z_22 (Ht rfl) (j := 3) rfl) (ro rfl (op_lenO U_22 (Ht rfl) (i := 4) rfl (show ((List.replicate (plN a) (RatT default)).length : Int) = ((plN a : Nat) : Int) from by simp)) (ro rfl (cQ (cZ 0)) (R_nil (T_block ?_))))
  refine T_loop (fun (j : Nat) => j ≤ plN a) (fun (j : Nat) => plN a - j) (fun (j : Nat) => [(1, PtrB B1 0), (4, NT .i64 (plN a)), (5, Is B15), (6, Is (.slice (some ⟨B17, 0, none⟩) (plN a) (plN a))), (7, NT .i64 i), (19, NT .i64 (plN a)), (20, NT .i64 i), (40, NT .i64 (plN a)), (41, NT .i64 j)]) (fun (j : Nat) => [Z, box B1 24 [NT .u8 a, RatsT zl, RatsT sl], rowO 91 3 B15 (mixT (fun i => RatT (imR (pkR zl i))) (RatT default) (plN a) (i + 1)), matH B17 22 91 3 (mixT (fun i => tab (plN a) fun j => RatT (smR (pkR sl (plN a * i + j)))) [] (plN a) i) i B34, rowO 91 3 B34 (mixT (fun j => RatT (smR (pkR sl (plN a * i + j)))) (RatT default) (plN a) j)]) 0 (Nat.zero_le _)
   (aQ rfl (aQ rfl (aQ rfl (aQ rfl (aQ rfl (aQ rfl (aQ rfl (aQ rfl (aQ rfl aX))))))))) (aK (fun _ _ _ h => h) (aK (box_of rfl) (aK (rowO_of (mix_set (f := (fun i => RatT (imR (pkR zl i)))))) (aK (fun _ _ _ h => h) (aK (rowO_of (by rw [← mix_zero]; exact rep_tab _ _)) aU))))) (fun j hj => ?_)
  refine ts (ro rfl (op_lssN (Ht rfl) (Ht rfl)) (R_nil (cG (cY (Ht rfl) (fun he => ?_) (fun he => ?_)))))
  ·simp only [decide_eq_true_eq] at he
   refine cK (cG (T_block (ts (rm rfl (ra rfl (R_nil (C.D_start (m := 14) (dp 6 rfl (cQ (Ht rfl)) (dp 7 rfl (cQ (Ht rfl)) (dqq 44 0 45 1 rfl (op_idxB U_25 Z_22 (Ht rfl) (Ht rfl) rfl (by omega) (by rw [Nat.mul_one, Nat.zero_add])) ?_))))))))))
   refine dq 46 2 rfl (op_ldH A_22 Z_22 (Ht rfl) (j := 3) rfl) (dp 8 rfl (cQ (Ht rfl)) (dp 1 rfl (op_fldB fa_24_2 (Ht rfl) rfl) (dq 49 5 rfl (op_ldB A_22 Z_22 (Ht rfl) (i := 1) rfl rfl) (dp 4 rfl (cQ (Ht rfl)) (dp 7 rfl (cQ (Ht rfl)) (dqq 51 7 52 8 rfl (op_mulN (Ht rfl) (Ht rfl) (by show _ < 9223372036854775808; omega)) (dp 8 rfl (cQ (Ht rfl)) (dqq 53 9 54 10 rfl (dJ (Ht rfl) (Ht rfl) (by show _ < 9223372036854775808; omega)) (dqq 50 6 55 11 rfl (cX Tryz.call75 c_pick ⟨(Ht rfl), (Ht rfl), trivial⟩) (dq 56 12 rfl (cX Tryz.call161 c_small ⟨(Ht rfl), trivial⟩) ?_))))))))))
   refine C.D_done mixed rfl (by kernel_rfl) (aJ (aJ (aJ (aJ (aJ (aJ (aJ (aJ (aJ (aJ (aJ (aJ (aJ (aJ (aV (ro rfl (op_idxO U_22 Z_91 (Ht rfl) (Ht rfl) rfl (i := 4) rfl (by rw [mix_len]; omega) rfl) ?_))))))))))))))))
   refine R_stO Z_91 (Ht rfl) (Ht rfl) (El.ag rfl) (i := 4) rfl rfl (by rw [mix_len]; omega) rfl ?_
   refine R_nil (T_blk (cU (ro rfl (dJ (Ht rfl) (cZ 1) (by show _ < 9223372036854775808; first | omega | (simp only [lim]; omega))) (rm rfl (R_nil (T_again (j + 1) he (by omega) (aQ rfl (aQ rfl (aQ rfl (aQ rfl (aQ rfl (aQ rfl (aQ rfl (aQ rfl (aQ rfl aX))))))))) (aK (fun _ _ _ h => h) (aK (box_of rfl) (aK (fun _ _ _ h => h) (aK (fun _ _ _ h => h) (aK (rowO_of (mix_set (f := fun j => RatT (smR (pkR sl (plN a * i + j)))))) aU)))))))))))
  ·simp only [decide_eq_false_iff_not] at he
   have hjn : j = plN a := Nat.le_antisymm hj (by omega)
   rw [hjn, mix_fin]
   refine T_exit rfl (T_blk (T_unfocus 3 4 rfl rfl (by decide) (by rw [mix_len]; omega) ?_))
   refine cU (ro rfl (dJ (Ht rfl) (cZ 1) (by show _ < 9223372036854775808; first | omega | (simp only [lim]; omega))) (rm rfl (R_nil (T_keep [0, 1, 2, 3] rfl (by decide) (T_again (i + 1) hd (by omega) (aQ rfl (aQ rfl (aQ rfl (aQ rfl (aQ rfl (aQ rfl aX)))))) (aK (fun _ _ _ h => h) (aK (box_of rfl) (aK (fun _ _ _ h => h) (aK (matO_of (mix_set (f := (fun i => tab (plN a) fun j => RatT (smR (pkR sl (plN a * i + j))))))) aU)))))))))
 ·simp only [decide_eq_false_iff_not] at hd
  have hin : i = plN a := Nat.le_antisymm hi (by omega)
  rw [hin, mix_fin, mix_fin]
  refine T_exit rfl (T_freeze (i := 2) (tt := 5) rfl rfl frz_row (ts (rm rfl (rm rfl (ra rfl (ra rfl (R_nil ?_)))))))
  exact T_retO B17 trivial [0, 3] ⟨⟨_, rfl, fun _ _ _ h => h⟩, ⟨_, rfl, fun _ _ _ h => h⟩, trivial⟩ (by decide) (rvs2 rfl (rv_to (rv_tmp rfl) (slT_of (by rw [plZ, tab_map]))) (rv_tmp rfl))
theorem tup2 {T U U' : Ty} {v : Value} {V : View} (h : (TupT [T, U]).p v V) (hU : ∀ u, U.p u V → U'.p u V) : (TupT [T, U']).p v V := by
  obtain ⟨vs, h1, h2⟩ := h
  match vs, h2 with
  | [x, y], ⟨a, b, c⟩ => exact ⟨[x, y], h1, a, hU y b, c⟩
theorem c_Plain {a : Nat} {zl sl : List Rt} (ha : a < 256) : Fun Tryz.prog 88 [PartT a zl sl] (TupT [RatsT (plZ a zl), RatM (plS a sl)]) := (c_PlainO ha).fun fun B _ v S V h1 h2 => tup2 h1 fun u hu => by
  exact slT_of (plS_rows a sl) u V (frzG (tab_len _ _).symm u S V hu h2)
set_option maxRecDepth 20000 in
theorem c_Build {a : Nat} {zl sl : List Rt} (ha : a < 256) : Fun Tryz.prog 16 [PartT a zl sl] (TupT [NetT ((plZ a zl).map Rt.q) (rq (plS a sl)), RNetT ((plZ a zl).map Rt.q) (rq (plS a sl)), BoolT true]) := by
 have hn : plN a ≤ 4 := by unfold plN; omega
 have herr := pl_err a zl sl
 have hzl : (plZ a zl).length = plN a := tab_len _ _
 have hsl : (plS a sl).length = plN a := tab_len _ _
 have hall : ∀ r, r ∈ plS a sl → r.length ≤ 1000 := fun r hr => by obtain ⟨i, _, rfl⟩ := tab_mem.1 hr; rw [tab_len]; omega
 have hsh := (netErr_ok herr).2.2.1
 have z1 : ((plZ a zl).map Rt.q).length ≤ 1000 := by rw [List.length_map, hzl]; omega
 have s1 : (rq (plS a sl)).length ≤ 1000 := by rw [List.length_map, hsl]; omega
 have hcv : ∀ v V, (TupT [NetT (okL (netErr ((plZ a zl).map Rt.q) (rq (plS a sl))) ((plZ a zl).map Rt.q)) (okL (netErr ((plZ a zl).map Rt.q) (rq (plS a sl))) (rq (plS a sl))), IntT .i64 (netErr ((plZ a zl).map Rt.q) (rq (plS a sl)))]).p v V → (TupT [NetT ((plZ a zl).map Rt.q) (rq (plS a sl)), IntT .i64 0]).p v V := by rw [herr]; exact fun _ _ h => h
 have hcv2 : ∀ v V, (TupT [RNetT (okL (netErr ((plZ a zl).map Rt.q) (rq (plS a sl))) ((plZ a zl).map Rt.q)) (okL (netErr ((plZ a zl).map Rt.q) (rq (plS a sl))) (rq (plS a sl))), IntT .i64 (netErr ((plZ a zl).map Rt.q) (rq (plS a sl)))]).p v V → (TupT [RNetT ((plZ a zl).map Rt.q) (rq (plS a sl)), IntT .i64 0]).p v V := by rw [herr]; exact fun _ _ h => h
 refine Fun.intro Tryz.func16 rfl Tryz.ntmps16 rfl (fun cx => (ts (rn rfl (new_box (Ht rfl)) fun B1 => (rn rfl (new_alloc (Ts := [Is (.slice none 0 0), Is (.slice none 0 0)]) O_30 rfl (fun V => aW ⟨rfl, trivial⟩ (aW ⟨rfl, trivial⟩ (aG)))) fun B2 => (rn rfl (new_alloc (Ts := [Is (.slice none 0 0), Is (.slice none 0 0)]) O_34 rfl (fun V => aW ⟨rfl, trivial⟩ (aW ⟨rfl, trivial⟩ (aG)))) fun B3 => (ro rfl (bY cJ) (R_nil (ts (ro rfl (op_ldBA Tryz.isAgg24 Tryz.sizeOf24 (Ht rfl) (i := 0) rfl rfl rfl) (ro rfl (cX Tryz.call88 (c_Plain ha) ⟨(Ht rfl), trivial⟩) ?_))))))))))
 refine rm rfl (ro rfl (dG (Ht rfl) rfl) (ro rfl (dG (Ht rfl) rfl) (ra rfl (ra rfl (R_nil (ts (rm rfl (ro rfl (cX Tryz.call23 (c_lawList (by omega)) ⟨(Ht rfl), trivial⟩) (rm rfl (ro rfl (cX Tryz.call24 (c_lawRows (by omega) hall) ⟨(Ht rfl), trivial⟩) (ro rfl (cX Tryz.call85 (dY (c_netNew (z := ((plZ a zl).map Rt.q)) (s := (rq (plS a sl))) (L := 2) FitL.rt (by decide) z1 s1) hcv) ⟨(Ht rfl), (Ht rfl), trivial⟩) (rm rfl (ro rfl (dG (Ht rfl) rfl) (ro rfl (dG (Ht rfl) rfl) (rn rfl (new_alloc (Ts := [Is (.slice none 0 0), Is (.slice none 0 0)]) O_30 rfl (fun V => aW ⟨rfl, trivial⟩ (aW ⟨rfl, trivial⟩ (aG)))) fun B7 => ?_)))))))))))))))
 refine R_stA Z_30 (Ht rfl) (Ht rfl) rfl (i := 3) rfl (Nat.le_of_ble_eq_true rfl) rfl rfl (ra rfl (R_nil (ts (rm rfl (ro rfl (cX Tryz.call26 (c_refList4 (by omega)) ⟨(Ht rfl), trivial⟩) (rm rfl (ro rfl (cX Tryz.call27 (c_refRows4 (by omega) hall) ⟨(Ht rfl), trivial⟩) (ro rfl (cX Tryz.call89 (dY (c_rnetNew (z := ((plZ a zl).map Rt.q)) (s := (rq (plS a sl))) (L := 2) FitL.rt (by decide) z1 s1) hcv2) ⟨(Ht rfl), (Ht rfl), trivial⟩) (rm rfl (ro rfl (dG (Ht rfl) rfl) (ro rfl (dG (Ht rfl) rfl) (rn rfl (new_alloc (Ts := [Is (.slice none 0 0), Is (.slice none 0 0)]) O_34 rfl (fun V => aW ⟨rfl, trivial⟩ (aW ⟨rfl, trivial⟩ (aG)))) fun B9 => ?_))))))))))))
 refine R_stA Z_34 (Ht rfl) (Ht rfl) rfl (i := 4) rfl (Nat.le_of_ble_eq_true rfl) rfl rfl (ra rfl (R_nil (cG (Y.D_start (m := 11) [(9, 1, box B2 30 [NumsT ((plZ a zl).map Rt.q), NumM (rq (plS a sl))]), (10, 2, box B3 34 [QsT ((plZ a zl).map Rt.q), QM (rq (plS a sl))])] (Y.D_step (Ei := [(7, _)]) rfl rfl (aY (bZ rfl rfl) bQ) rfl rfl (by kernel_rfl) (dQ rfl (op_ldBA A_30 Z_30 (Ht rfl) (i := 3) rfl rfl rfl)) (bU (Ei := [(9, _)]) rfl rfl (aY (bZ rfl rfl) bQ) rfl rfl (dQ rfl (op_ldBA A_34 Z_34 (Ht rfl) (i := 4) rfl rfl rfl)) ?_))))))
 refine Y.D_step (Ei := [(8, _)]) rfl rfl (aY (bZ rfl rfl) bQ) rfl rfl (by kernel_rfl) (dQ rfl (cQ (Ht rfl))) (Y.D_step (Ei := [(34, _)]) rfl rfl (aY (bX 2 rfl rfl) bQ) rfl rfl (by kernel_rfl) (dQ rfl (op_eql (Ht rfl) cJ)) (Y.D_step (Ei := [(35, _)]) rfl rfl (aY (bX 3 rfl rfl) bQ) rfl rfl (by kernel_rfl) (dQ rfl (cQ (Ht rfl))) (Y.D_step (Ei := [(7, _), (36, _)]) rfl rfl (aY (bZ rfl rfl) (aY (bX 4 rfl rfl) bQ)) rfl rfl (by kernel_rfl) (S_when rfl rfl (Ht rfl) (fun h => op_ldBA A_30 Z_30 (Ht rfl) (i := 3) rfl rfl rfl)) ?_)))
 refine Y.D_step (Ei := [(9, _), (36, _)]) rfl rfl (aY (bZ rfl rfl) (aY (bX 4 rfl rfl) bQ)) rfl rfl (by kernel_rfl) (S_when rfl rfl (Ht rfl) (fun h => op_ldBA A_34 Z_34 (Ht rfl) (i := 4) rfl rfl rfl)) (Y.D_step (Ei := [(37, _), (38, _), (36, _)]) rfl rfl (aY (bX 5 rfl rfl) (aY (bX 6 rfl rfl) (aY (bX 4 rfl rfl) bQ))) rfl rfl (by kernel_rfl) (S_when rfl rfl (Ht rfl) (fun h => cX Tryz.call90 (c_is4 (z := ((plZ a zl).map Rt.q)) (s := (rq (plS a sl))) (L := 2) FitL.rt FitM.rt (by decide) (by decide) hsh z1) ⟨(Has.w rfl h), (Has.w rfl h), trivial⟩)) ?_)
 refine bU (Ei := [(36, _), (39, _)]) rfl rfl (aY (bX 4 rfl rfl) (aY (bX 7 rfl rfl) bQ)) rfl rfl (dQ rfl (op_and (Ht rfl) (fun h => (Has.w rfl h)))) (Y.D_putI (Ei := [(2, _), (32, _)]) 1 rfl rfl rfl (aY (bZ rfl rfl) (aY (bX 0 rfl rfl) bQ)) (.head _) rfl (P_stA Z_30 (Ht rfl) (Ht rfl) rfl (i := 0) rfl (Nat.le_of_ble_eq_true rfl) rfl rfl) (Y.D_putI (Ei := [(3, _), (33, _)]) 2 rfl rfl rfl (aY (bZ rfl rfl) (aY (bX 1 rfl rfl) bQ)) (.tail _ (.head _)) rfl (P_stA Z_34 (Ht rfl) (Ht rfl) rfl (i := 0) rfl (Nat.le_of_ble_eq_true rfl) rfl rfl) ?_))
 refine Y.D_done mixed rfl (by kernel_rfl) rfl (by simp [Y.okP]) rfl rfl (bK (bK (bK (bK (bK (bK (bK (bK (bK (Y.F_putI (Y.F_putI (Y.F_nil ?_))))))))))))
 refine ra rfl (R_nil (T_ret3 rfl (rv_cell A_30 Z_30 rfl (i := 1) rfl rfl) (rv_cell A_34 Z_34 rfl (i := 2) rfl rfl) (rv_to (rv_tmp rfl) ?_)))
 exact (bool_of (by simp))
end
section
open Go Go.RowKit
theorem pos_ne {x : Qi} (h : posQ x = true) : x ≠ 0 := fun e => (pos_re h).2 (by rw [e]; rfl)
theorem all_ne {z : List Qi} (h : z.all posQ = true) {i : Nat} (hi : i < z.length) : gv z i ≠ 0 := pos_ne (List.all_eq_true.1 h _ (by rw [show gv z i = z[i] by simp [gv, List.getD, hi]]; exact List.getElem_mem hi))
theorem fit_div {x y : Qi} {L M : Nat} (hx : FitC x L) (hy : FitC y M) (h : y ≠ 0) : FitC (x / y) (L + 3 * M + 2) := ⟨hx.fit.div hy.fit h⟩
end
section
open Go Go.RowKit
set_option maxRecDepth 20000 in
theorem c_netOver {Y M : List (List Qi)} {n L K : Nat} (hY : Shp Y n n) (hM : Shp M n n) (hfY : FitM Y K) (hf : FitM M L) (hK : 1 ≤ K) (hKb : K ≤ 900000000000) (hL : 1 ≤ L) (h1 : 1 ≤ n) (hn : n ≤ 8) (hg : 6 * grow L n + 4 ≤ 17592186044415) (hx : xgr (grow L n) (n + 1) ≤ 900000000000) : Fun Tryz.prog 92 [NumM Y, NumM M] (TupT [NumM (ovX Y M n), IntT .i64 (ovE M n)]) := by
 have hxn := Nat.le_trans (xgr_step (grow L n) n) hx
 refine Fun.intro Tryz.func92 rfl Tryz.ntmps92 rfl (fun cx => (ts (ro rfl (bY cJ) (ro rfl (bY (cZ 0)) (R_nil (ts (rm rfl (ro rfl (cX Tryz.call197 (c_Inv hM hf hL h1 (by omega) hg (by omega)) ⟨(Ht rfl), trivial⟩) (rm rfl (ro rfl (dG (Ht rfl) rfl) (ro rfl (dG (Ht rfl) rfl) (ra rfl (ra rfl (R_nil (cG (ts (rm rfl (ro rfl (op_neq (Ht rfl) cJ) (R_nil (cY (Ht rfl) (fun he => ?_) (fun he => ?_)))))))))))))))))))))
 ·have he2 : ¬ invE M n = 0 := by simpa using he
  have ho : ovE M n = 5 := if_neg he2
  refine ts (ro rfl (bY cJ) (ro rfl (bY (cZ 5)) (R_nil (T_ret2 rfl (rv_to (rv_tmp rfl) ?_) (rv_to (rv_tmp rfl) ?_)))))
  ·exact (fun v V h => by rw [ovX, ho]; exact nil_slT v V h)
  ·exact (int_of ho.symm)
 ·have he2 : invE M n = 0 := by simpa using he
  have ho : ovE M n = 0 := if_pos he2
  have hif := invX_fit hM hf hL he2
  have hx1 : 1 ≤ xgr (grow L n) n := Nat.le_trans hL (Nat.le_trans (grow_le L n) (xgr_ge (grow L n) n))
  refine T_sub (E' := [(0, _), (1, _), (4, _), (5, _), (6, _), (7, _), (8, _), (9, _), (10, _), (11, _), (12, _), (13, _), (14, _)]) (aQ rfl (aQ rfl (aQ rfl (aQ rfl (aZ rfl (slT_of (Us := (invX M n).map NumsT) (by rw [he2]; rfl)) (aQ rfl (aQ rfl (aQ rfl (aQ rfl (aQ rfl (aQ rfl (aQ rfl (aQ rfl aX))))))))))))) ?_
  refine cK (ts (rm rfl (rm rfl (ro rfl (cX Tryz.call76 (c_Prod (n := n) (k := n) (m := n) hY (invX_shp M n) hfY hif hK hx1 hKb hxn h1 h1 hn hn hn) ⟨(Ht rfl), (Ht rfl), trivial⟩) (ro rfl (dG (Ht rfl) rfl) (ro rfl (dG (Ht rfl) rfl) (ra rfl (ra rfl (R_nil (T_ret2 rfl (rv_to (rv_tmp rfl) ?_) (rv_to (rv_tmp rfl) ?_)))))))))))
  ·exact (slT_of (by rw [ovX, ho]; rfl))
  ·exact (int_of ho.symm)
set_option maxRecDepth 20000 in
theorem c_netUnder {Y M : List (List Qi)} {n L K : Nat} (hY : Shp Y n n) (hM : Shp M n n) (hfY : FitM Y K) (hf : FitM M L) (hK : 1 ≤ K) (hKb : K ≤ 900000000000) (hL : 1 ≤ L) (h1 : 1 ≤ n) (hn : n ≤ 8) (hg : 6 * grow L n + 4 ≤ 17592186044415) (hx : xgr (grow L n) (n + 1) ≤ 900000000000) : Fun Tryz.prog 104 [NumM M, NumM Y] (TupT [NumM (unX M Y n), IntT .i64 (ovE M n)]) := by
 have hxn := Nat.le_trans (xgr_step (grow L n) n) hx
 refine Fun.intro Tryz.func104 rfl Tryz.ntmps104 rfl (fun cx => (ts (ro rfl (bY cJ) (ro rfl (bY (cZ 0)) (R_nil (ts (rm rfl (ro rfl (cX Tryz.call197 (c_Inv hM hf hL h1 (by omega) hg (by omega)) ⟨(Ht rfl), trivial⟩) (rm rfl (ro rfl (dG (Ht rfl) rfl) (ro rfl (dG (Ht rfl) rfl) (ra rfl (ra rfl (R_nil (cG (ts (rm rfl (ro rfl (op_neq (Ht rfl) cJ) (R_nil (cY (Ht rfl) (fun he => ?_) (fun he => ?_)))))))))))))))))))))
 ·have he2 : ¬ invE M n = 0 := by simpa using he
  have ho : ovE M n = 5 := if_neg he2
  refine ts (ro rfl (bY cJ) (ro rfl (bY (cZ 5)) (R_nil (T_ret2 rfl (rv_to (rv_tmp rfl) ?_) (rv_to (rv_tmp rfl) ?_)))))
  ·exact (fun v V h => by rw [unX, ho]; exact nil_slT v V h)
  ·exact (int_of ho.symm)
 ·have he2 : invE M n = 0 := by simpa using he
  have ho : ovE M n = 0 := if_pos he2
  have hif := invX_fit hM hf hL he2
  have hx1 : 1 ≤ xgr (grow L n) n := Nat.le_trans hL (Nat.le_trans (grow_le L n) (xgr_ge (grow L n) n))
  refine T_sub (E' := [(0, _), (1, _), (4, _), (5, _), (6, _), (7, _), (8, _), (9, _), (10, _), (11, _), (12, _), (13, _), (14, _)]) (aQ rfl (aQ rfl (aQ rfl (aQ rfl (aZ rfl (slT_of (Us := (invX M n).map NumsT) (by rw [he2]; rfl)) (aQ rfl (aQ rfl (aQ rfl (aQ rfl (aQ rfl (aQ rfl (aQ rfl (aQ rfl aX))))))))))))) ?_
  refine cK (ts (rm rfl (rm rfl (ro rfl (cX Tryz.call76 (c_Prod (n := n) (k := n) (m := n) (invX_shp M n) hY hif hfY hx1 hK hxn hKb h1 h1 hn hn hn) ⟨(Ht rfl), (Ht rfl), trivial⟩) (ro rfl (dG (Ht rfl) rfl) (ro rfl (dG (Ht rfl) rfl) (ra rfl (ra rfl (R_nil (T_ret2 rfl (rv_to (rv_tmp rfl) ?_) (rv_to (rv_tmp rfl) ?_)))))))))))
  ·exact (slT_of (by rw [unX, ho]; rfl))
  ·exact (int_of ho.symm)
end
section
open Go Go.RowKit
theorem ov_five {M : List (List Qi)} {n : Nat} (h : ovE M n ≠ 0) : ovE M n = 5 := by
  unfold ovE at h ⊢
  by_cases e : invE M n = 0
  · rw [if_pos e] at h; exact absurd rfl h
  · rw [if_neg e]
end
section
open Go Go.RowKit
def impE (z : List Qi) (s : List (List Qi)) : Int := ovE (plM 1 (-1) s z.length) z.length
def impM (z : List Qi) (s : List (List Qi)) : List (List Qi) := tab z.length fun i => tab z.length fun j => gm (mulM (plM 1 1 s z.length) (invX (plM 1 (-1) s z.length) z.length) z.length z.length z.length) i j * gv z j
def impX (z : List Qi) (s : List (List Qi)) : List (List Qi) := okL (impE z s) (impM z s)
def admE (z : List Qi) (s : List (List Qi)) : Int := ovE (plM 1 1 s z.length) z.length
def admM (z : List Qi) (s : List (List Qi)) : List (List Qi) := tab z.length fun i => tab z.length fun j => gm (mulM (plM 1 (-1) s z.length) (invX (plM 1 1 s z.length) z.length) z.length z.length z.length) i j / gv z i
def admX (z : List Qi) (s : List (List Qi)) : List (List Qi) := okL (admE z s) (admM z s)
def fiQ (z : List Qi) (m : List (List Qi)) : List (List Qi) := tab z.length fun i => tab z.length fun j => gm m i j / gv z j
def faQ (z : List Qi) (m : List (List Qi)) : List (List Qi) := tab z.length fun i => tab z.length fun j => gv z i * gm m i j
def frE (z : List Qi) (m q : List (List Qi)) : Int := if netErr z m = 0 then ovE (plM 1 1 q z.length) z.length else netErr z m
def frM (z : List Qi) (q r : List (List Qi)) : List (List Qi) := mulM (invX (plM 1 1 q z.length) z.length) r z.length z.length z.length
def frZ (z : List Qi) (m q : List (List Qi)) : List Qi := okL (frE z m q) z
def frS (z : List Qi) (m q r : List (List Qi)) : List (List Qi) := okL (frE z m q) (frM z q r)
theorem fr_bad {z : List Qi} {m q : List (List Qi)} (h : netErr z m ≠ 0) : frE z m q = netErr z m := if_neg h
theorem fr_ok {z : List Qi} {m q : List (List Qi)} (h : netErr z m = 0) : frE z m q = ovE (plM 1 1 q z.length) z.length := if_pos h
theorem fr_shp (z : List Qi) (m q r : List (List Qi)) : Shp (frS z m q r) (frZ z m q).length (frZ z m q).length ∧ (frZ z m q).length ≤ z.length := by
  by_cases h : frE z m q = 0
  · rw [frS, frZ, okL, okL, h, if_pos rfl, if_pos rfl]; exact ⟨mulM_shp, Nat.le_refl _⟩
  · rw [frS, frZ, okL, okL, if_neg h, if_neg h]; exact ⟨⟨rfl, fun r hr => by cases hr⟩, Nat.zero_le _⟩
theorem fr_zero {z : List Qi} {m q : List (List Qi)} (h : frE z m q = 0) : netErr z m = 0 ∧ invE (plM 1 1 q z.length) z.length = 0 := by
  by_cases e : netErr z m = 0
  · rw [fr_ok e] at h; exact ⟨e, ovE_zero h⟩
  · rw [fr_bad e] at h; exact absurd h e
theorem fit_p1 : FitC (Qi.ofInt 1) 1 := fit_one
theorem fit_m1 : FitC (Qi.ofInt (-1)) 1 := by haveI := fit_one; exact (fitNeg : FitC (-(Qi.ofInt 1)) 1)
theorem fiQ_fit {z : List Qi} {m : List (List Qi)} {L M : Nat} (hz : FitL z M) (hm : FitM m L) (hL : 1 ≤ L) (hM : 1 ≤ M) (hp : z.all posQ = true) : FitM (fiQ z m) (L + 3 * M + 2) := FitM.tab fun i j _ hj => fit_div (hm.get hL i j) (hz.get hM j) (all_ne hp hj)
theorem faQ_fit {z : List Qi} {m : List (List Qi)} {L M : Nat} (hz : FitL z M) (hm : FitM m L) (hL : 1 ≤ L) (hM : 1 ≤ M) : FitM (faQ z m) (M + L + 1) := FitM.tab fun i j _ _ => by
  haveI := hm.get hL i j; haveI := hz.get hM i; exact fitMul
theorem faQ_comm (z : List Qi) (m : List (List Qi)) : faQ z m = tab z.length fun i => tab z.length fun j => gm m i j * gv z i := tab_congr fun i _ => tab_congr fun j _ => Qi.mul_comm' _ _
theorem fr_fit {z : List Qi} {m q r : List (List Qi)} {L K G : Nat} (hq : FitM q L) (hr : FitM r K) (hL : 1 ≤ L) (hK : 1 ≤ K) (h8 : z.length ≤ 8) (hqs : Shp q z.length z.length) (hG : xgr (grow (L + 4) z.length) z.length ≤ G) : FitM (frS z m q r) (8 * (G + K) + 17) := by
  by_cases h : frE z m q = 0
  · have hi := (invX_fit (plM_shp 1 1 q z.length) (plM_fit (x := 1) (y := 1) hq hL fit_p1 fit_p1) (by omega) (fr_zero h).2).le hG
    have hx1 : 1 ≤ G := Nat.le_trans (by omega) (Nat.le_trans (Nat.le_trans (grow_le (L + 4) z.length) (xgr_ge _ _)) hG)
    exact okL_fitM (mulM_fit hi hr hx1 hK h8)
  · rw [frS, okL, if_neg h]; exact FitM.nil
theorem impM_fit {z : List Qi} {s : List (List Qi)} {L G : Nat} (hz : FitL z L) (hs : FitM s L) (hL : 1 ≤ L) (h8 : z.length ≤ 8) (hG : xgr (grow (L + 4) z.length) z.length ≤ G) : FitM (impX z s) (8 * (L + 4 + G) + 17 + L + 1) := by
  by_cases h : impE z s = 0
  · have hi := (invX_fit (plM_shp 1 (-1) s z.length) (plM_fit (x := 1) (y := -1) hs hL fit_p1 fit_m1) (by omega) (ovE_zero h)).le hG
    have hx1 : 1 ≤ G := Nat.le_trans (by omega) (Nat.le_trans (Nat.le_trans (grow_le (L + 4) z.length) (xgr_ge _ _)) hG)
    have hp := mulM_fit (n := z.length) (k := z.length) (m := z.length) (plM_fit (n := z.length) (x := 1) (y := 1) hs hL fit_p1 fit_p1) hi (by omega) hx1 h8
    refine okL_fitM (FitM.tab fun i j _ _ => ?_)
    haveI := hp.get (by omega) i j; haveI := hz.get hL j
    exact fitMul
  · rw [impX, okL, if_neg h]; exact FitM.nil
theorem admM_fit {z : List Qi} {s : List (List Qi)} {L G : Nat} (hz : FitL z L) (hs : FitM s L) (hL : 1 ≤ L) (h8 : z.length ≤ 8) (hpz : z.all posQ = true) (hG : xgr (grow (L + 4) z.length) z.length ≤ G) : FitM (admX z s) (8 * (L + 4 + G) + 17 + 3 * L + 2) := by
  by_cases h : admE z s = 0
  · have hi := (invX_fit (plM_shp 1 1 s z.length) (plM_fit (x := 1) (y := 1) hs hL fit_p1 fit_p1) (by omega) (ovE_zero h)).le hG
    have hx1 : 1 ≤ G := Nat.le_trans (by omega) (Nat.le_trans (Nat.le_trans (grow_le (L + 4) z.length) (xgr_ge _ _)) hG)
    have hp := mulM_fit (n := z.length) (k := z.length) (m := z.length) (plM_fit (n := z.length) (x := 1) (y := -1) hs hL fit_p1 fit_m1) hi (by omega) hx1 h8
    refine okL_fitM (FitM.tab fun i j hi2 _ => ?_)
    exact fit_div (hp.get (by omega) i j) (hz.get hL i) (all_ne hpz hi2)
  · rw [admX, okL, if_neg h]; exact FitM.nil
end
section
open Go Go.RowKit
set_option maxRecDepth 20000 in
theorem c_column {i j : Nat} : Fun Tryz.prog 95 [NT .i64 i, NT .i64 j] (NT .i64 j) := by
 refine Fun.intro Tryz.func95 rfl Tryz.ntmps95 rfl (fun cx => (ts (ro rfl (bY (cZ 0)) (R_nil (ts (rm rfl (ra rfl (R_nil ?_))))))))
 exact T_ret1 rfl (rv_tmp rfl)
set_option maxRecDepth 20000 in
theorem c_row {i j : Nat} : Fun Tryz.prog 100 [NT .i64 i, NT .i64 j] (NT .i64 i) := by
 refine Fun.intro Tryz.func100 rfl Tryz.ntmps100 rfl (fun cx => (ts (ro rfl (bY (cZ 0)) (R_nil (ts (rm rfl (ra rfl (R_nil ?_))))))))
 exact T_ret1 rfl (rv_tmp rfl)
set_option maxRecDepth 20000 in
theorem c_netTimes {x y : Qi} {L M : Nat} [hx : FitC x L] [hy : FitC y M] (h : L + M + 1 ≤ 17592186044415) : Fun Tryz.prog 96 [NumT x, NumT y] (TupT [NumT (x * y), IntT .i64 0]) := by
 refine Fun.intro Tryz.func96 rfl Tryz.ntmps96 rfl (fun cx => (ts (rn rfl (new_box (Ht rfl)) fun B2 => (rn rfl (new_box (Ht rfl)) fun B3 => (rn rfl (new_alloc (Ts := [Is (.bool false), Is (.slice none 0 0), Is (.bool false), Is (.slice none 0 0), Is (.slice none 0 0)]) O_45 rfl (fun V => aW ⟨rfl, trivial⟩ (aW ⟨rfl, trivial⟩ (aW ⟨rfl, trivial⟩ (aW ⟨rfl, trivial⟩ (aW ⟨rfl, trivial⟩ (aG))))))) fun B4 => (ro rfl (bY (cZ 0)) (R_nil (ts (ro rfl (op_ldBA A_45 Z_45 (Ht rfl) (i := 0) rfl rfl rfl) (ro rfl (op_iface mkif_45 (Ht rfl)) ?_))))))))))
 refine ro rfl (op_ldBA A_45 Z_45 (Ht rfl) (i := 1) rfl rfl rfl) (ro rfl (op_invoke meth_45_Mul K_67 (c_Mul (x := x) (y := y) (L := L) (M := M) h) (Ht rfl) ⟨(Ht rfl), trivial⟩) (R_stA Z_45 (Ht rfl) (Ht rfl) rfl (i := 2) rfl (Nat.le_of_ble_eq_true rfl) rfl rfl (ro rfl (bY (cZ 0)) (R_nil ?_))))
 exact T_ret2 rfl (rv_cell A_45 Z_45 rfl (i := 2) rfl rfl) (rv_tmp rfl)
set_option maxRecDepth 20000 in
theorem c_before {x y : Qi} {L M : Nat} [hx : FitC x L] [hy : FitC y M] (h : L + M + 1 ≤ 17592186044415) : Fun Tryz.prog 107 [NumT x, NumT y] (TupT [NumT (y * x), IntT .i64 0]) := by
 refine Fun.intro Tryz.func107 rfl Tryz.ntmps107 rfl (fun cx => (ts (rn rfl (new_box (Ht rfl)) fun B2 => (rn rfl (new_box (Ht rfl)) fun B3 => (rn rfl (new_alloc (Ts := [Is (.bool false), Is (.slice none 0 0), Is (.bool false), Is (.slice none 0 0), Is (.slice none 0 0)]) O_45 rfl (fun V => aW ⟨rfl, trivial⟩ (aW ⟨rfl, trivial⟩ (aW ⟨rfl, trivial⟩ (aW ⟨rfl, trivial⟩ (aW ⟨rfl, trivial⟩ (aG))))))) fun B4 => (ro rfl (bY (cZ 0)) (R_nil (ts (ro rfl (op_ldBA A_45 Z_45 (Ht rfl) (i := 1) rfl rfl rfl) (ro rfl (op_iface mkif_45 (Ht rfl)) ?_))))))))))
 refine ro rfl (op_ldBA A_45 Z_45 (Ht rfl) (i := 0) rfl rfl rfl) (ro rfl (op_invoke meth_45_Mul K_67 (c_Mul (x := y) (y := x) (L := M) (M := L) (by omega)) (Ht rfl) ⟨(Ht rfl), trivial⟩) (R_stA Z_45 (Ht rfl) (Ht rfl) rfl (i := 2) rfl (Nat.le_of_ble_eq_true rfl) rfl rfl (ro rfl (bY (cZ 0)) (R_nil ?_))))
 exact T_ret2 rfl (rv_cell A_45 Z_45 rfl (i := 2) rfl rfl) (rv_tmp rfl)
set_option maxRecDepth 20000 in
theorem c_divided {x y : Qi} {L M : Nat} [hx : FitC x L] [hy : FitC y M] (h : L + 3 * M + 2 ≤ 17592186044415) : Fun Tryz.prog 101 [NumT x, NumT y] (TupT [NumT (x / y), IntT .i64 (if y = Qi.zero then 3 else 0)]) := by
 refine Fun.intro Tryz.func101 rfl Tryz.ntmps101 rfl (fun cx => (ts (rn rfl (new_box (Ht rfl)) fun B2 => (rn rfl (new_box (Ht rfl)) fun B3 => (rn rfl (new_alloc (Ts := [Is (.bool false), Is (.slice none 0 0), Is (.bool false), Is (.slice none 0 0), Is (.slice none 0 0)]) O_45 rfl (fun V => aW ⟨rfl, trivial⟩ (aW ⟨rfl, trivial⟩ (aW ⟨rfl, trivial⟩ (aW ⟨rfl, trivial⟩ (aW ⟨rfl, trivial⟩ (aG))))))) fun B4 => (ro rfl (bY (cZ 0)) (R_nil (ts (ro rfl (op_ldBA A_45 Z_45 (Ht rfl) (i := 0) rfl rfl rfl) (ro rfl (op_iface mkif_45 (Ht rfl)) ?_))))))))))
 refine ro rfl (op_ldBA A_45 Z_45 (Ht rfl) (i := 1) rfl rfl rfl) (ro rfl (op_invoke meth_45_Div Tryz.call59 (c_Div (x := x) (y := y) (L := L) (M := M) h) (Ht rfl) ⟨(Ht rfl), trivial⟩) (ro rfl (dG (Ht rfl) rfl) (ro rfl (dG (Ht rfl) rfl) (R_stA Z_45 (Ht rfl) (Ht rfl) rfl (i := 2) rfl (Nat.le_of_ble_eq_true rfl) rfl rfl (ra rfl (R_nil ?_))))))
 exact T_ret2 rfl (rv_cell A_45 Z_45 rfl (i := 2) rfl rfl) (rv_tmp rfl)
set_option maxRecDepth 20000 in
theorem c_scaled1 {m : List (List Qi)} {n i j : Nat} (hm : Shp m n n) (hi : i < n) (hj : j < n) : Fun Tryz.prog 199 [NT .i64 i, NT .i64 j, PT (NumM m)] (NumT (gm m i j)) := by
 have hml := hm.1
 have hmr := hm.row hi
 refine Fun.intro Tryz.func199 rfl Tryz.ntmps199 rfl (fun cx => (ts (rn rfl (new_alloc (Ts := [Is (.bool false), Is (.slice none 0 0), Is (.bool false), Is (.slice none 0 0), Is (.slice none 0 0)]) O_45 rfl (fun V => aW ⟨rfl, trivial⟩ (aW ⟨rfl, trivial⟩ (aW ⟨rfl, trivial⟩ (aW ⟨rfl, trivial⟩ (aW ⟨rfl, trivial⟩ (aG))))))) fun B5 => (R_nil (ts (ro rfl (dZ A_28 Z_28 (Ht rfl)) (rm rfl (ro rfl (dX U_28 Z_27 (Ht rfl) (Ht rfl) rfl (dU (dK (d := []) (by omega)))) (ro rfl (dZ A_27 Z_27 (Ht rfl)) ?_)))))))))
 refine rm rfl (ro rfl (dX U_27 Z_45 (Ht rfl) (Ht rfl) rfl (dU (dK (d := Qi.zero) (by omega)))) (ro rfl (dZ A_45 Z_45 (Ht rfl)) (R_stA Z_45 (Ht rfl) (Ht rfl) rfl (i := 0) rfl (Nat.le_of_ble_eq_true rfl) rfl rfl (R_nil ?_))))
 exact T_ret1 rfl (rv_cell A_45 Z_45 rfl (i := 0) rfl rfl)
set_option maxHeartbeats 1000000 in
set_option maxRecDepth 20000 in
theorem c_netScaled {m : List (List Qi)} {z : List Qi} {n L M : Nat} {ak : Nat → Nat → Nat} {op : Qi → Qi → Qi} (hm : Shp m n n) (hz : z.length = n) (hf : FitM m L) (hfz : FitL z M) (hp : z.all posQ = true) (hL : 1 ≤ L) (hM : 1 ≤ M) (hn : n ≤ 1000) (ha : ∀ i j, i < n → j < n → ak i j < n) : Fun Tryz.prog 94 [NumM m, NumsT z, ClT Tryz.prog (Nat × Nat) (fun x => [NT .i64 x.1, NT .i64 x.2]) (fun x => NT .i64 (ak x.1 x.2)), ClT Tryz.prog {p : Qi × Qi // FitC p.1 L ∧ FitC p.2 M ∧ p.2 ≠ 0} (fun p => [NumT p.1.1, NumT p.1.2]) (fun p => TupT [NumT (op p.1.1 p.1.2), IntT .i64 0])] (TupT [NumM (tab n fun i => tab n fun j => op (gm m i j) (gv z (ak i j))), IntT .i64 0]) := by
 have hml := hm.1
 refine Fun.intro Tryz.func94 rfl Tryz.ntmps94 rfl (fun cx => (ts (rn rfl (new_box1 (Ht rfl)) fun B4 => (ro rfl (bY cJ) (ro rfl (bY (cZ 0)) (R_nil (cG (T_freeze (i := 0) (tt := 4) rfl rfl frz_ptr1 (cU (ro rfl (dZ A_28 Z_28 (Ht rfl)) (ro rfl (dW U_28 (Ht rfl) (by rw [List.length_map, hml])) ?_)))))))))))
 refine ro rfl (op_clos (γ := Fin n × Fin n) (Ts := fun x => [NT .i64 x.1.1, NT .i64 x.2.1]) (U := fun x => NumT (gm m x.1.1 x.2.1)) Tryz.call199 (fun x => c_scaled1 hm x.1.2 x.2.2) ⟨(Ht rfl), trivial⟩) (R_call0 Tryz.call119 (c_fillO (n := n) (f := fun i j => gm m i j) hn) ⟨(Ht rfl), (Ht rfl), trivial⟩ rfl (fun B18 _ => (ra rfl (R_nil (cG (ts (rm rfl (ro rfl (op_lenI U_28 (Ht rfl)) (ro rfl (cQ (cZ 0)) (R_nil (T_block (T_keep [1] rfl (by decide) ?_))))))))))))
 refine T_loop (fun (i : Nat) => i ≤ n) (fun (i : Nat) => n - i) (fun (i : Nat) => [(1, NumsT z), (2, ClT Tryz.prog (Nat × Nat) (fun x => [NT .i64 x.1, NT .i64 x.2]) (fun x => NT .i64 (ak x.1 x.2))), (3, ClT Tryz.prog {p : Qi × Qi // FitC p.1 L ∧ FitC p.2 M ∧ p.2 ≠ 0} (fun p => [NumT p.1.1, NumT p.1.2]) (fun p => TupT [NumT (op p.1.1 p.1.2), IntT .i64 0])), (10, Is (.slice (some ⟨B18, 0, none⟩) n n)), (20, NT .i64 n), (21, NT .i64 i)]) (fun (i : Nat) => [matO B18 27 45 5 (FRow NumT (mixG (fun i => tab n fun j => op (gm m i j) (gv z (ak i j))) (fun i => tab n fun j => gm m i j) n i))]) 0 (Nat.zero_le _)
  (aQ rfl (aQ rfl (aQ rfl (aQ rfl (aQ rfl (aQ rfl aX)))))) (aK (matO_of (by rw [← mixG_zero])) aU) (fun i hi => ?_)
 refine ts (ro rfl (op_lssN (Ht rfl) (Ht rfl)) (R_nil (cG (cY (Ht rfl) (fun hc => ?_) (fun hc => ?_)))))
 ·have hin : i < n := by simp only [decide_eq_true_eq] at hc; omega
  have hrt := tab_len n fun j => gm m i j
  refine T_focus 0 (i) rfl (frow_mixG hin) (fun v0 => (cK (cG (T_block (ts (rm rfl (ra rfl (R_nil (ts (rm rfl (rm rfl (ro rfl (op_idxB U_28 Z_27 (Ht rfl) (Ht rfl) rfl (by omega) (by rw [Nat.mul_one, Nat.zero_add])) ?_))))))))))))
  refine ro rfl (op_ldH A_27 Z_27 (Ht rfl) (j := 0) rfl) (ro rfl (op_lenO U_27 (Ht rfl) (i := 1) rfl (by rw [List.length_map, hrt])) ?_)
  refine ro rfl (cQ (cZ 0)) (R_nil (T_block ?_))
  refine T_loop (fun (j : Nat) => j ≤ n) (fun (j : Nat) => n - j) (fun (j : Nat) => [(1, NumsT z), (2, ClT Tryz.prog (Nat × Nat) (fun x => [NT .i64 x.1, NT .i64 x.2]) (fun x => NT .i64 (ak x.1 x.2))), (3, ClT Tryz.prog {p : Qi × Qi // FitC p.1 L ∧ FitC p.2 M ∧ p.2 ≠ 0} (fun p => [NumT p.1.1, NumT p.1.2]) (fun p => TupT [NumT (op p.1.1 p.1.2), IntT .i64 0])), (10, Is (.slice (some ⟨B18, 0, none⟩) n n)), (11, NT .i64 i), (20, NT .i64 n), (21, NT .i64 i), (28, NT .i64 n), (29, NT .i64 j)]) (fun (j : Nat) => [matH B18 27 45 5 (FRow NumT (mixG (fun i => tab n fun j => op (gm m i j) (gv z (ak i j))) (fun i => tab n fun j => gm m i j) n i)) i v0, rowO 45 5 v0 ((mixG (fun j => op (gm m i j) (gv z (ak i j))) (fun j => gm m i j) n j).map NumT)]) 0 (Nat.zero_le _)
   (aQ rfl (aQ rfl (aQ rfl (aQ rfl (aQ rfl (aQ rfl (aQ rfl (aQ rfl (aQ rfl aX))))))))) (aK (fun _ _ _ h => h) (aK (rowO_of (by rw [← mixG_zero])) aU)) (fun j hj => ?_)
  refine ts (ro rfl (op_lssN (Ht rfl) (Ht rfl)) (R_nil (cG (cY (Ht rfl) (fun hd => ?_) (fun hd => ?_)))))
  ·have hjn : j < n := by simp only [decide_eq_true_eq] at hd; omega
   have hrl := mixG_len (fun j => op (gm m i j) (gv z (ak i j))) (fun j => gm m i j) n j
   have hak := ha i j hin hjn
   haveI g1 : FitC (gm m i j) L := hf.get hL i j
   haveI g2 : FitC (gv z (ak i j)) M := hfz.get hM _
   have hzn := all_ne hp (show ak i j < z.length by omega)
   refine cK (cG (T_block (ts (rm rfl (ra rfl (R_nil (cG (Y.D_start (m := 30) [] (bU (Ei := [(3, _)]) rfl rfl (aY (bZ rfl rfl) bQ) rfl rfl (dQ rfl (cQ (Ht rfl))) (bU (Ei := [(10, _)]) rfl rfl (aY (bZ rfl rfl) bQ) rfl rfl (dQ rfl (cQ (Ht rfl))) (bU (Ei := [(11, _)]) rfl rfl (aY (bZ rfl rfl) bQ) rfl rfl (dQ rfl (cQ (Ht rfl))) (bU (Ei := [(34, _), (35, _)]) rfl rfl (aY (bX 1 rfl rfl) (aY (bX 2 rfl rfl) bQ)) rfl rfl (dQ rfl (op_idxB U_28 Z_27 (Ht rfl) (Ht rfl) rfl (by omega) (by rw [Nat.mul_one, Nat.zero_add]))) ?_))))))))))))
   refine bU (Ei := [(36, _)]) rfl rfl (aY (bX 3 rfl rfl) bQ) rfl rfl (dQ rfl (op_ldH A_27 Z_27 (Ht rfl) (j := 0) rfl)) (bU (Ei := [(12, _)]) rfl rfl (aY (bZ rfl rfl) bQ) rfl rfl (dQ rfl (cQ (Ht rfl))) (bU (Ei := [(37, _), (38, _)]) rfl rfl (aY (bX 4 rfl rfl) (aY (bX 5 rfl rfl) bQ)) rfl rfl (dQ rfl (op_idxO U_27 Z_45 (Ht rfl) (Ht rfl) rfl (i := 1) rfl (by rw [List.length_map, hrl]; exact hjn) rfl)) ?_))
   refine bU (Ei := [(39, _)]) rfl rfl (aY (bX 6 rfl rfl) bQ) rfl rfl (dQ rfl (op_ldO A_45 Z_45 (Ht rfl) (i := 1) rfl rfl (dU (mixG_get hjn)))) (bU (Ei := [(10, _)]) rfl rfl (aY (bZ rfl rfl) bQ) rfl rfl (dQ rfl (cQ (Ht rfl))) (bU (Ei := [(11, _)]) rfl rfl (aY (bZ rfl rfl) bQ) rfl rfl (dQ rfl (cQ (Ht rfl))) (bU (Ei := [(41, _), (42, _)]) rfl rfl (aY (bX 8 rfl rfl) (aY (bX 9 rfl rfl) bQ)) rfl rfl (dQ rfl (op_idxB U_28 Z_27 (Ht rfl) (Ht rfl) rfl (by omega) (by rw [Nat.mul_one, Nat.zero_add]))) ?_)))
   refine bU (Ei := [(43, _)]) rfl rfl (aY (bX 10 rfl rfl) bQ) rfl rfl (dQ rfl (op_ldH A_27 Z_27 (Ht rfl) (j := 0) rfl)) (bU (Ei := [(12, _)]) rfl rfl (aY (bZ rfl rfl) bQ) rfl rfl (dQ rfl (cQ (Ht rfl))) (bU (Ei := [(44, _), (45, _)]) rfl rfl (aY (bX 11 rfl rfl) (aY (bX 12 rfl rfl) bQ)) rfl rfl (dQ rfl (op_idxO U_27 Z_45 (Ht rfl) (Ht rfl) rfl (i := 1) rfl (by rw [List.length_map, hrl]; exact hjn) rfl)) ?_))
   refine bU (Ei := [(46, _)]) rfl rfl (aY (bX 13 rfl rfl) bQ) rfl rfl (dQ rfl (op_ldO A_45 Z_45 (Ht rfl) (i := 1) rfl rfl (dU (mixG_get hjn)))) (bU (Ei := [(47, _)]) rfl rfl (aY (bX 14 rfl rfl) bQ) rfl rfl (dQ rfl (op_iface mkif_45 (Ht rfl))) (bU (Ei := [(1, _)]) rfl rfl (aY (bZ rfl rfl) bQ) rfl rfl (dQ rfl (cQ (Ht rfl))) (bU (Ei := [(2, _)]) rfl rfl (aY (bZ rfl rfl) bQ) rfl rfl (dQ rfl (cQ (Ht rfl))) (bU (Ei := [(11, _)]) rfl rfl (aY (bZ rfl rfl) bQ) rfl rfl (dQ rfl (cQ (Ht rfl))) ?_))))
   refine bU (Ei := [(12, _)]) rfl rfl (aY (bZ rfl rfl) bQ) rfl rfl (dQ rfl (cQ (Ht rfl))) (bU (Ei := [(50, _), (51, _), (52, _)]) rfl rfl (aY (bX 17 rfl rfl) (aY (bX 18 rfl rfl) (aY (bX 19 rfl rfl) bQ))) rfl rfl (dQ rfl (op_callV (i, j) (Ht rfl) ⟨(Ht rfl), (Ht rfl), trivial⟩)) (bU (Ei := [(49, _), (53, _)]) rfl rfl (aY (bX 16 rfl rfl) (aY (bX 20 rfl rfl) bQ)) rfl rfl (dQ rfl (dX U_27 Z_45 (Ht rfl) (Ht rfl) rfl (dU (dK (d := Qi.zero) (show ak i j < z.length by omega))))) ?_))
   refine bU (Ei := [(54, _)]) rfl rfl (aY (bX 21 rfl rfl) bQ) rfl rfl (dQ rfl (dZ A_45 Z_45 (Ht rfl))) (bU (Ei := [(48, _), (55, _)]) rfl rfl (aY (bX 15 rfl rfl) (aY (bX 22 rfl rfl) bQ)) rfl rfl (dQ rfl (op_invoke meth_45_Of Tryz.call302 c_Of (Ht rfl) ⟨(Ht rfl), trivial⟩)) (bU (Ei := [(33, _), (40, _), (56, _)]) rfl rfl (aY (bX 0 rfl rfl) (aY (bX 7 rfl rfl) (aY (bX 23 rfl rfl) bQ))) rfl rfl (dQ rfl (op_callV ⟨(gm m i j, gv z (ak i j)), g1, g2, hzn⟩ (Ht rfl) ⟨(Ht rfl), (Ht rfl), trivial⟩)) ?_))
   refine bU (Ei := [(57, _)]) rfl rfl (aY (bX 24 rfl rfl) bQ) rfl rfl (dQ rfl (cQ (Ht rfl))) (bU (Ei := [(32, _)]) rfl rfl (aY (bX 25 rfl rfl) bQ) rfl rfl (dQ rfl (dG (Ht rfl) rfl)) (bU (Ei := [(32, _)]) rfl rfl (aY (bX 25 rfl rfl) bQ) rfl rfl (dQ rfl (dG (Ht rfl) rfl)) (Y.D_newp (Ei := []) (fun bb => box bb 45 [BoolT (decide ((op (gm m i j) (gv z (ak i j))).a < 0)), NatT (op (gm m i j) (gv z (ak i j))).a.natAbs, BoolT (decide ((op (gm m i j) (gv z (ak i j))).b < 0)), NatT (op (gm m i j) (gv z (ak i j))).b.natAbs, NatT (du (op (gm m i j) (gv z (ak i j))))]) 29 rfl rfl rfl bQ rfl rfl (by kernel_rfl) (new_alloc (Ts := [Is (.bool false), Is (.slice none 0 0), Is (.bool false), Is (.slice none 0 0), Is (.slice none 0 0)]) O_45 rfl (fun V => aW ⟨rfl, trivial⟩ (aW ⟨rfl, trivial⟩ (aW ⟨rfl, trivial⟩ (aW ⟨rfl, trivial⟩ (aW ⟨rfl, trivial⟩ (aG))))))) ?_)))
   refine Y.D_putN (Ei := [(58, _)]) 28 rfl rfl rfl rfl rfl rfl (aY (bX 26 rfl rfl) bQ) (fun bb => P_stA Z_45 (Ht rfl) (Ht rfl) rfl (i := 0) rfl (Nat.le_of_ble_eq_true rfl) rfl rfl) (Y.D_done mixed rfl (by kernel_rfl) rfl (by simp [Y.okP]) rfl rfl (bK (bK (bK (bK (bK (bK (bK (bK (bK (bK (bK (bK (bK (bK (bK (bK (bK (bK (bK (bK (bK (bK (bK (bK (bK (bK (bK (bK (Y.F_newp (fun B13 => Y.F_putN (Y.F_nil ?_))))))))))))))))))))))))))))))))
   refine ra rfl (R_nil (cG (ts (rm rfl (ro rfl (op_neq (Ht rfl) cJ) (R_nil (T_condF (Ht rfl) (by rfl) ?_)))))))
   refine cK (C.D_start (m := 6) (dp 10 rfl (cQ (Ht rfl)) (dp 11 rfl (cQ (Ht rfl)) (dqq 62 0 63 1 rfl (op_idxB U_28 Z_27 (Ht rfl) (Ht rfl) rfl (by omega) (by rw [Nat.mul_one, Nat.zero_add])) ?_))))
   refine dq 64 2 rfl (op_ldH A_27 Z_27 (Ht rfl) (j := 0) rfl) (dp 12 rfl (cQ (Ht rfl)) (dp 13 rfl (op_ldBA A_45 Z_45 (Ht rfl) (i := 2) rfl rfl rfl) (C.D_done mixed rfl (by kernel_rfl) (aJ (aJ (aJ (aJ (aJ (aJ (aV (ro rfl (op_idxO U_27 Z_45 (Ht rfl) (Ht rfl) rfl (i := 1) rfl (by rw [List.length_map, hrl]; exact hjn) rfl) ?_)))))))))))
   refine R_stO Z_45 (Ht rfl) (Ht rfl) (El.ag rfl) (i := 1) rfl rfl (by rw [List.length_map, hrl]; exact hjn) rfl ?_
   refine R_nil (T_blk (cU (ro rfl (dJ (Ht rfl) (cZ 1) (by show _ < 9223372036854775808; first | omega | (simp only [lim]; omega))) (rm rfl (R_nil (T_keep [0, 1] rfl (by decide) (T_again (j + 1) hjn (by omega) (aQ rfl (aQ rfl (aQ rfl (aQ rfl (aQ rfl (aQ rfl (aQ rfl (aQ rfl (aQ rfl aX))))))))) (aK (fun _ _ _ h => h) (aK (rowO_of (show (List.map NumT (mixG (fun j => op (gm m i j) (gv z (ak i j))) (fun j => gm m i j) n j)).set j (NumT (op (gm m i j) (gv z (ak i j)))) = List.map NumT (mixG (fun j => op (gm m i j) (gv z (ak i j))) (fun j => gm m i j) n (j + 1)) from by rw [set_mapF]; exact congrArg _ (mixG_set (f := (fun j => op (gm m i j) (gv z (ak i j))))))) aU)))))))))
  ·have hjn : j = n := by simp only [decide_eq_false_iff_not] at hd; omega
   rw [hjn, mixG_fin]
   refine T_exit rfl (T_blk (T_unfocus 0 1 rfl rfl (by decide) (by simp only [FRow, List.length_map, mixG_len]; omega) ?_))
   refine cU (ro rfl (dJ (Ht rfl) (cZ 1) (by show _ < 9223372036854775808; first | omega | (simp only [lim]; omega))) (rm rfl (R_nil (T_keep [0] rfl (by decide) (T_again (i + 1) hin (by omega) (aQ rfl (aQ rfl (aQ rfl (aQ rfl (aQ rfl (aQ rfl aX)))))) (aK (matO_of (by rw [set_FRow]; exact congrArg _ (mixG_set (f := (fun i => tab n fun j => op (gm m i j) (gv z (ak i j))))))) aU))))))
 ·have hin : i = n := by simp only [decide_eq_false_iff_not] at hc; omega
  rw [hin, mixG_fin]
  refine T_exit rfl (T_freeze (i := 0) (tt := 10) rfl rfl (frz_matF (s := 5) (M := tab n fun i => tab n fun j => op (gm m i j) (gv z (ak i j))) (tab_len _ _).symm) (ts (rm rfl (ra rfl (ro rfl (bY (cZ 0)) (R_nil ?_))))))
  exact T_ret2 rfl (rv_tmp rfl) (rv_tmp rfl)
set_option maxHeartbeats 1000000 in
set_option maxRecDepth 20000 in
theorem c_Imp {z : List Qi} {s : List (List Qi)} {L : Nat} (hs : Shp s z.length z.length) (hf : FitM s L) (hfz : FitL z L) (hp : z.all posQ = true) (hL : 1 ≤ L) (hLb : L ≤ 1000) (h1 : 1 ≤ z.length) (h8 : z.length ≤ 8) (hg : 6 * grow (L + 4) z.length + 4 ≤ 17592186044415) (hx : xgr (grow (L + 4) z.length) (z.length + 1) ≤ 900000000000) : Fun Tryz.prog 17 [NetT z s] (TupT [NumM (impX z s), IntT .i64 (impE z s)]) := by
 have hid := idM_shp z.length
 have hif : FitM (idM z.length) 1 := idM_fit (Nat.le_refl 1)
 have hxn := Nat.le_trans (xgr_step (grow (L + 4) z.length) z.length) hx
 have hx1 : 1 ≤ xgr (grow (L + 4) z.length) z.length := Nat.le_trans (by omega) (Nat.le_trans (grow_le (L + 4) z.length) (xgr_ge _ _))
 refine Fun.intro Tryz.func17 rfl Tryz.ntmps17 rfl (fun cx => (ts (rn rfl (new_box (Ht rfl)) fun B1 => (ro rfl (bY cJ) (ro rfl (bY (cZ 0)) (R_nil (ts (ro rfl (op_fldB fa_30_0 (Ht rfl) rfl) (ro rfl (op_ldB A_27 Z_27 (Ht rfl) (i := 0) rfl rfl) (ro rfl (dW U_27 (Ht rfl) len_map) (ro rfl (cX K_91 (c_Id (n := z.length) (by omega)) ⟨(Ht rfl), trivial⟩) (ra rfl (R_nil (cG (C.D_start (m := 13) (dp 4 rfl (cQ (Ht rfl)) (dp 1 rfl (op_fldB fa_30_1 (Ht rfl) rfl) (dq 13 1 rfl (op_ldB A_28 Z_28 (Ht rfl) (i := 0) rfl rfl) ?_))))))))))))))))))
 refine dqq 12 0 14 2 rfl (cX K_93 (dY (c_sum (m := false) (n := z.length) (L := 1) (M := L) hid hs hif hf (Nat.le_refl 1) hL (by omega) (by omega)) (by rw [pm_plus]; exact fun _ _ h => h)) ⟨(Ht rfl), (Ht rfl), cJ, trivial⟩) ?_
 refine dp 4 rfl (cQ (Ht rfl)) (dp 1 rfl (op_fldB fa_30_1 (Ht rfl) rfl) (dq 17 5 rfl (op_ldB A_28 Z_28 (Ht rfl) (i := 0) rfl rfl) (dqq 16 4 18 6 rfl (cX K_93 (dY (c_sum (m := true) (n := z.length) (L := 1) (M := L) hid hs hif hf (Nat.le_refl 1) hL (by omega) (by omega)) (by rw [pm_minus]; exact fun _ _ h => h)) ⟨(Ht rfl), (Ht rfl), cJ, trivial⟩) ?_)))
 refine dqq 15 3 19 7 rfl (cX Tryz.call92 (c_netOver (Y := (plM 1 1 s z.length)) (M := (plM 1 (-1) s z.length)) (n := z.length) (L := L + 4) (K := L + 4) (plM_shp _ _ _ _) (plM_shp _ _ _ _) (plM_fit hf hL fit_p1 fit_p1) (plM_fit hf hL fit_p1 fit_m1) (by omega) (by omega) (by omega) h1 h8 hg hx) ⟨(Ht rfl), (Ht rfl), trivial⟩) (dq 20 8 rfl (cQ (Ht rfl)) (dq 11 9 rfl (dG (Ht rfl) rfl) (dq 11 9 rfl (dG (Ht rfl) rfl) (dq 21 10 rfl (bY (Ht rfl)) (C.D_done mixed rfl (by kernel_rfl) (aJ (aJ (aJ (aJ (aJ (aJ (aJ (aJ (aJ (aJ (aJ (aJ (aJ (aV ?_)))))))))))))))))))
 refine ra rfl (R_nil (cG (ts (rm rfl (ro rfl (op_neq (Ht rfl) cJ) (R_nil (cY (Ht rfl) (fun he => ?_) (fun he => ?_))))))))
 ·have ho : ovE (plM 1 (-1) s z.length) z.length ≠ 0 := by simpa using he
  refine ts (rm rfl (ro rfl (bY cJ) (ra rfl (R_nil (T_ret2 rfl (rv_to (rv_tmp rfl) ?_) (rv_tmp rfl))))))
  exact (fun v V h => by rw [impX, okL, if_neg (show ¬ impE z s = 0 from ho)]; exact nil_slT v V h)
 ·have ho : ovE (plM 1 (-1) s z.length) z.length = 0 := by simpa using he
  have hov : ovX (plM 1 1 s z.length) (plM 1 (-1) s z.length) z.length = mulM (plM 1 1 s z.length) (invX (plM 1 (-1) s z.length) z.length) z.length z.length z.length := by rw [ovX, ho]; rfl
  have hif2 := invX_fit (plM_shp _ _ _ _) (plM_fit (n := z.length) hf hL fit_p1 fit_m1) (by omega) (ovE_zero ho)
  have hpf := mulM_fit (n := z.length) (k := z.length) (m := z.length) (plM_fit (n := z.length) hf hL fit_p1 fit_p1) hif2 (by omega) hx1 h8
  refine T_sub (E' := [(0, _), (1, _), (2, _), (3, _), (4, _), (5, _), (6, _), (7, _), (8, _), (9, _), (10, _), (11, _), (12, _), (13, _), (14, _), (15, _), (16, _), (17, _), (18, _), (19, _), (20, _), (21, _), (22, _), (23, _), (24, _)]) (aQ rfl (aQ rfl (aQ rfl (aQ rfl (aQ rfl (aZ rfl (slT_of (by rw [hov])) (aQ rfl (aQ rfl (aQ rfl (aQ rfl (aQ rfl (aQ rfl (aQ rfl (aQ rfl (aQ rfl (aQ rfl (aQ rfl (aQ rfl (aQ rfl (aQ rfl (aQ rfl (aQ rfl (aQ rfl (aQ rfl (aQ rfl aX))))))))))))))))))))))))) ?_
  refine cK (ts (rm rfl (ro rfl (op_fldB fa_30_0 (Ht rfl) rfl) (ro rfl (op_ldB A_27 Z_27 (Ht rfl) (i := 0) rfl rfl) (ro rfl (cX Tryz.call94 (c_netScaled (m := mulM (plM 1 1 s z.length) (invX (plM 1 (-1) s z.length) z.length) z.length z.length z.length) (z := z) (n := z.length) (L := 8 * (L + 4 + xgr (grow (L + 4) z.length) z.length) + 17) (M := L) (ak := fun i j => j) (op := fun x y => x * y) mulM_shp rfl hpf hfz hp (by omega) hL (by omega) (fun i j hi hj => hj)) ⟨(Ht rfl), (Ht rfl), (Has.fn Tryz.call95 (γ := Nat × Nat) (Ts := fun x => [NT .i64 x.1, NT .i64 x.2]) (U := fun x => NT .i64 x.2) (fun x => c_column)), (Has.fn Tryz.call96 (γ := {p : Qi × Qi // FitC p.1 (8 * (L + 4 + xgr (grow (L + 4) z.length) z.length) + 17) ∧ FitC p.2 L ∧ p.2 ≠ 0}) (Ts := fun p => [NumT p.1.1, NumT p.1.2]) (U := fun p => TupT [NumT (p.1.1 * p.1.2), IntT .i64 0]) (fun p => haveI := p.2.1; haveI := p.2.2.1; (c_netTimes (x := p.1.1) (y := p.1.2) (by omega)))), trivial⟩) ?_)))))
  refine ro rfl (dG (Ht rfl) rfl) (ro rfl (dG (Ht rfl) rfl) (ra rfl (ra rfl (R_nil (T_ret2 rfl (rv_to (rv_tmp rfl) ?_) (rv_to (rv_tmp rfl) ?_))))))
  ·exact (slT_of (by rw [impX, okL, if_pos (show impE z s = 0 from ho)]; rfl))
  ·exact (int_of ho.symm)
set_option maxHeartbeats 1000000 in
set_option maxRecDepth 20000 in
theorem c_Adm {z : List Qi} {s : List (List Qi)} {L : Nat} (hs : Shp s z.length z.length) (hf : FitM s L) (hfz : FitL z L) (hp : z.all posQ = true) (hL : 1 ≤ L) (hLb : L ≤ 1000) (h1 : 1 ≤ z.length) (h8 : z.length ≤ 8) (hg : 6 * grow (L + 4) z.length + 4 ≤ 17592186044415) (hx : xgr (grow (L + 4) z.length) (z.length + 1) ≤ 900000000000) : Fun Tryz.prog 19 [NetT z s] (TupT [NumM (admX z s), IntT .i64 (admE z s)]) := by
 have hid := idM_shp z.length
 have hif : FitM (idM z.length) 1 := idM_fit (Nat.le_refl 1)
 have hxn := Nat.le_trans (xgr_step (grow (L + 4) z.length) z.length) hx
 have hx1 : 1 ≤ xgr (grow (L + 4) z.length) z.length := Nat.le_trans (by omega) (Nat.le_trans (grow_le (L + 4) z.length) (xgr_ge _ _))
 refine Fun.intro Tryz.func19 rfl Tryz.ntmps19 rfl (fun cx => (ts (rn rfl (new_box (Ht rfl)) fun B1 => (ro rfl (bY cJ) (ro rfl (bY (cZ 0)) (R_nil (ts (ro rfl (op_fldB fa_30_0 (Ht rfl) rfl) (ro rfl (op_ldB A_27 Z_27 (Ht rfl) (i := 0) rfl rfl) (ro rfl (dW U_27 (Ht rfl) len_map) (ro rfl (cX K_91 (c_Id (n := z.length) (by omega)) ⟨(Ht rfl), trivial⟩) (ra rfl (R_nil (cG (C.D_start (m := 13) (dp 4 rfl (cQ (Ht rfl)) (dp 1 rfl (op_fldB fa_30_1 (Ht rfl) rfl) (dq 13 1 rfl (op_ldB A_28 Z_28 (Ht rfl) (i := 0) rfl rfl) ?_))))))))))))))))))
 refine dqq 12 0 14 2 rfl (cX K_93 (dY (c_sum (m := true) (n := z.length) (L := 1) (M := L) hid hs hif hf (Nat.le_refl 1) hL (by omega) (by omega)) (by rw [pm_minus]; exact fun _ _ h => h)) ⟨(Ht rfl), (Ht rfl), cJ, trivial⟩) ?_
 refine dp 4 rfl (cQ (Ht rfl)) (dp 1 rfl (op_fldB fa_30_1 (Ht rfl) rfl) (dq 17 5 rfl (op_ldB A_28 Z_28 (Ht rfl) (i := 0) rfl rfl) (dqq 16 4 18 6 rfl (cX K_93 (dY (c_sum (m := false) (n := z.length) (L := 1) (M := L) hid hs hif hf (Nat.le_refl 1) hL (by omega) (by omega)) (by rw [pm_plus]; exact fun _ _ h => h)) ⟨(Ht rfl), (Ht rfl), cJ, trivial⟩) ?_)))
 refine dqq 15 3 19 7 rfl (cX Tryz.call92 (c_netOver (Y := (plM 1 (-1) s z.length)) (M := (plM 1 1 s z.length)) (n := z.length) (L := L + 4) (K := L + 4) (plM_shp _ _ _ _) (plM_shp _ _ _ _) (plM_fit hf hL fit_p1 fit_m1) (plM_fit hf hL fit_p1 fit_p1) (by omega) (by omega) (by omega) h1 h8 hg hx) ⟨(Ht rfl), (Ht rfl), trivial⟩) (dq 20 8 rfl (cQ (Ht rfl)) (dq 11 9 rfl (dG (Ht rfl) rfl) (dq 11 9 rfl (dG (Ht rfl) rfl) (dq 21 10 rfl (bY (Ht rfl)) (C.D_done mixed rfl (by kernel_rfl) (aJ (aJ (aJ (aJ (aJ (aJ (aJ (aJ (aJ (aJ (aJ (aJ (aJ (aV ?_)))))))))))))))))))
 refine ra rfl (R_nil (cG (ts (rm rfl (ro rfl (op_neq (Ht rfl) cJ) (R_nil (cY (Ht rfl) (fun he => ?_) (fun he => ?_))))))))
 ·have ho : ovE (plM 1 1 s z.length) z.length ≠ 0 := by simpa using he
  refine ts (rm rfl (ro rfl (bY cJ) (ra rfl (R_nil (T_ret2 rfl (rv_to (rv_tmp rfl) ?_) (rv_tmp rfl))))))
  exact (fun v V h => by rw [admX, okL, if_neg (show ¬ admE z s = 0 from ho)]; exact nil_slT v V h)
 ·have ho : ovE (plM 1 1 s z.length) z.length = 0 := by simpa using he
  have hov : ovX (plM 1 (-1) s z.length) (plM 1 1 s z.length) z.length = mulM (plM 1 (-1) s z.length) (invX (plM 1 1 s z.length) z.length) z.length z.length z.length := by rw [ovX, ho]; rfl
  have hif2 := invX_fit (plM_shp _ _ _ _) (plM_fit (n := z.length) hf hL fit_p1 fit_p1) (by omega) (ovE_zero ho)
  have hpf := mulM_fit (n := z.length) (k := z.length) (m := z.length) (plM_fit (n := z.length) hf hL fit_p1 fit_m1) hif2 (by omega) hx1 h8
  refine T_sub (E' := [(0, _), (1, _), (2, _), (3, _), (4, _), (5, _), (6, _), (7, _), (8, _), (9, _), (10, _), (11, _), (12, _), (13, _), (14, _), (15, _), (16, _), (17, _), (18, _), (19, _), (20, _), (21, _), (22, _), (23, _), (24, _)]) (aQ rfl (aQ rfl (aQ rfl (aQ rfl (aQ rfl (aZ rfl (slT_of (by rw [hov])) (aQ rfl (aQ rfl (aQ rfl (aQ rfl (aQ rfl (aQ rfl (aQ rfl (aQ rfl (aQ rfl (aQ rfl (aQ rfl (aQ rfl (aQ rfl (aQ rfl (aQ rfl (aQ rfl (aQ rfl (aQ rfl (aQ rfl aX))))))))))))))))))))))))) ?_
  refine cK (ts (rm rfl (ro rfl (op_fldB fa_30_0 (Ht rfl) rfl) (ro rfl (op_ldB A_27 Z_27 (Ht rfl) (i := 0) rfl rfl) (ro rfl (cX Tryz.call94 (c_netScaled (m := mulM (plM 1 (-1) s z.length) (invX (plM 1 1 s z.length) z.length) z.length z.length z.length) (z := z) (n := z.length) (L := 8 * (L + 4 + xgr (grow (L + 4) z.length) z.length) + 17) (M := L) (ak := fun i j => i) (op := fun x y => x / y) mulM_shp rfl hpf hfz hp (by omega) hL (by omega) (fun i j hi hj => hi)) ⟨(Ht rfl), (Ht rfl), (Has.fn Tryz.call100 (γ := Nat × Nat) (Ts := fun x => [NT .i64 x.1, NT .i64 x.2]) (U := fun x => NT .i64 x.1) (fun x => c_row)), (Has.fn Tryz.call101 (γ := {p : Qi × Qi // FitC p.1 (8 * (L + 4 + xgr (grow (L + 4) z.length) z.length) + 17) ∧ FitC p.2 L ∧ p.2 ≠ 0}) (Ts := fun p => [NumT p.1.1, NumT p.1.2]) (U := fun p => TupT [NumT (p.1.1 / p.1.2), IntT .i64 0]) (fun p => haveI := p.2.1; haveI := p.2.2.1; (dY (c_divided (x := p.1.1) (y := p.1.2) (by omega)) (by rw [if_neg (show ¬ p.1.2 = Qi.zero from p.2.2.2)]; exact fun _ _ h => h)))), trivial⟩) ?_)))))
  refine ro rfl (dG (Ht rfl) rfl) (ro rfl (dG (Ht rfl) rfl) (ra rfl (ra rfl (R_nil (T_ret2 rfl (rv_to (rv_tmp rfl) ?_) (rv_to (rv_tmp rfl) ?_))))))
  ·exact (slT_of (by rw [admX, okL, if_pos (show admE z s = 0 from ho)]; rfl))
  ·exact (int_of ho.symm)
set_option maxHeartbeats 2000000 in
set_option maxRecDepth 20000 in
theorem c_FromImp {z : List Qi} {m : List (List Qi)} {L : Nat} (hf : FitM m L) (hfz : FitL z L) (hL : 1 ≤ L) (hLb : L ≤ 1000) (hzl : z.length ≤ 1000) (hml : m.length ≤ 1000) (hg : 6 * grow (4 * L + 6) z.length + 4 ≤ 17592186044415) (hx : xgr (grow (4 * L + 6) z.length) (z.length + 1) ≤ 900000000000) : Fun Tryz.prog 22 [NumsT z, NumM m] (TupT [NetT (frZ z m (fiQ z m)) (frS z m (fiQ z m) (plM (-1) 1 (fiQ z m) z.length)), IntT .i64 (frE z m (fiQ z m))]) := by
 refine Fun.intro Tryz.func22 rfl Tryz.ntmps22 rfl (fun cx => (ts (rn rfl (new_alloc (Ts := [Is (.slice none 0 0), Is (.slice none 0 0)]) O_30 rfl (fun V => aW ⟨rfl, trivial⟩ (aW ⟨rfl, trivial⟩ (aG)))) fun B4 => (ro rfl (bY (cZ 0)) (R_nil (ts (rm rfl (rm rfl (ro rfl (cX Tryz.call85 (c_netNew (z := z) (s := m) (L := L) hfz (by omega) hzl hml) ⟨(Ht rfl), (Ht rfl), trivial⟩) (rm rfl (ro rfl (dG (Ht rfl) rfl) (ro rfl (dG (Ht rfl) rfl) (rn rfl (new_alloc (Ts := [Is (.slice none 0 0), Is (.slice none 0 0)]) O_30 rfl (fun V => aW ⟨rfl, trivial⟩ (aW ⟨rfl, trivial⟩ (aG)))) fun B6 => ?_)))))))))))))
 refine R_stA Z_30 (Ht rfl) (Ht rfl) rfl (i := 1) rfl (Nat.le_of_ble_eq_true rfl) rfl rfl (ra rfl (R_nil (cG (ts (rm rfl (ro rfl (op_neq (Ht rfl) cJ) (R_nil (cY (Ht rfl) (fun he => ?_) (fun he => ?_)))))))))
 ·have hn : netErr z m ≠ 0 := by simpa using he
  have hfr := fr_bad (q := fiQ z m) hn
  refine ts (ro rfl (OpTy.imp (bld_30_ ) net_nil) (rm rfl (R_stA Z_30 (Ht rfl) (Ht rfl) rfl (i := 0) rfl (Nat.le_of_ble_eq_true rfl) rfl rfl (ra rfl (R_nil (T_ret2 rfl (rv_to (rv_cell A_30 Z_30 rfl (i := 0) rfl rfl) ?_) (rv_to (rv_tmp rfl) ?_)))))))
  ·exact (fun v V h => by rw [frZ, frS, okL, okL, hfr, if_neg hn, if_neg hn]; exact h)
  ·exact (int_of hfr.symm)
 ·have hn : netErr z m = 0 := by simpa using he
  have hfr := fr_ok (q := fiQ z m) hn
  obtain ⟨h1, h8, hs, hp2⟩ := netErr_ok hn
  have hqs : Shp (fiQ z m) z.length z.length := Shp.tab
  have hqf : FitM (fiQ z m) (4 * L + 2) := ((fiQ_fit hfz hf hL hL hp2)).le (by omega)
  have hok : okL (netErr z m) z = z := by rw [hn]; rfl
  have hokm : okL (netErr z m) m = m := by rw [hn]; rfl
  have hid := idM_shp z.length
  have hif : FitM (idM z.length) 1 := idM_fit (Nat.le_refl 1)
  rw [hok, hokm]
  refine cK (ts (ro rfl (op_fldB fa_30_1 (Ht rfl) rfl) (ro rfl (op_ldB A_28 Z_28 (Ht rfl) (i := 1) rfl rfl) (ro rfl (op_fldB fa_30_0 (Ht rfl) rfl) (ro rfl (op_ldB A_27 Z_27 (Ht rfl) (i := 1) rfl rfl) (ro rfl (cX Tryz.call94 (c_netScaled (m := m) (z := z) (n := z.length) (L := L) (M := L) (ak := fun i j => j) (op := fun x y => x / y) hs rfl hf hfz hp2 hL hL (by omega) (fun i j hi hj => hj)) ⟨(Ht rfl), (Ht rfl), (Has.fn Tryz.call95 (γ := Nat × Nat) (Ts := fun x => [NT .i64 x.1, NT .i64 x.2]) (U := fun x => NT .i64 x.2) (fun x => c_column)), (Has.fn Tryz.call101 (γ := {p : Qi × Qi // FitC p.1 L ∧ FitC p.2 L ∧ p.2 ≠ 0}) (Ts := fun p => [NumT p.1.1, NumT p.1.2]) (U := fun p => TupT [NumT (p.1.1 / p.1.2), IntT .i64 0]) (fun p => haveI := p.2.1; haveI := p.2.2.1; (dY (c_divided (x := p.1.1) (y := p.1.2) (by omega)) (by rw [if_neg (show ¬ p.1.2 = Qi.zero from p.2.2.2)]; exact fun _ _ h => h)))), trivial⟩) ?_))))))
  refine rm rfl (ro rfl (dG (Ht rfl) rfl) (ro rfl (dG (Ht rfl) rfl) (ra rfl (ra rfl (R_nil (cG (ts (rm rfl (ro rfl (op_neq (Ht rfl) cJ) (R_nil (T_condF (Ht rfl) (by rfl) ?_)))))))))))
  refine cK (ts (rm rfl (ro rfl (dW U_27 (Ht rfl) len_map) (ro rfl (cX K_91 (c_Id (n := z.length) (by omega)) ⟨(Ht rfl), trivial⟩) (ra rfl (R_nil (ts (rm rfl (rm rfl (ro rfl (cX K_93 (dY (c_sum (m := false) (n := z.length) (L := 4 * L + 2) (M := 1) hqs hid hqf hif (by omega) (Nat.le_refl 1) (by omega) (by omega)) (by rw [pm_plus2]; exact fun _ _ h => h)) ⟨(Ht rfl), (Ht rfl), cJ, trivial⟩) ?_))))))))))
  refine rm rfl (rm rfl (ro rfl (cX K_93 (dY (c_sum (m := true) (n := z.length) (L := 4 * L + 2) (M := 1) hqs hid hqf hif (by omega) (Nat.le_refl 1) (by omega) (by omega)) (by rw [pm_minus2]; exact fun _ _ h => h)) ⟨(Ht rfl), (Ht rfl), cJ, trivial⟩) ?_))
  refine ro rfl (cX Tryz.call104 (c_netUnder (M := (plM 1 1 (fiQ z m) z.length)) (Y := (plM (-1) 1 (fiQ z m) z.length)) (n := z.length) (L := 4 * L + 6) (K := 4 * L + 6) (plM_shp _ _ _ _) (plM_shp _ _ _ _) (plM_fit hqf (by omega) fit_m1 fit_p1) (plM_fit hqf (by omega) fit_p1 fit_p1) (by omega) (by omega) (by omega) h1 h8 hg hx) ⟨(Ht rfl), (Ht rfl), trivial⟩) (rm rfl (ro rfl (dG (Ht rfl) rfl) (ro rfl (dG (Ht rfl) rfl) (ro rfl (op_fldB fa_30_1 (Ht rfl) rfl) (R_st Z_28 (Ht rfl) (Ht rfl) (i := 1) rfl (Nat.le_of_ble_eq_true rfl) rfl (ra rfl (R_nil (cG (ts (rm rfl ?_))))))))))
  refine ro rfl (op_neq (Ht rfl) cJ) (R_nil (cY (Ht rfl) (fun hf2 => ?_) (fun hf2 => ?_)))
  ·have ho : ovE (plM 1 1 (fiQ z m) z.length) z.length ≠ 0 := by simpa using hf2
   refine ts (ro rfl (OpTy.imp (bld_30_ ) net_nil) (rm rfl (R_stA Z_30 (Ht rfl) (Ht rfl) rfl (i := 0) rfl (Nat.le_of_ble_eq_true rfl) rfl rfl (ra rfl (R_nil (T_ret2 rfl (rv_to (rv_cell A_30 Z_30 rfl (i := 0) rfl rfl) ?_) (rv_to (rv_tmp rfl) ?_)))))))
   ·exact (fun v V h => by rw [frZ, frS, okL, okL, hfr, if_neg ho, if_neg ho]; exact h)
   ·exact (int_of hfr.symm)
  ·have ho : ovE (plM 1 1 (fiQ z m) z.length) z.length = 0 := by simpa using hf2
   refine cK (ts (ro rfl (op_ldBA A_30 Z_30 (Ht rfl) (i := 1) rfl rfl rfl) (R_stA Z_30 (Ht rfl) (Ht rfl) rfl (i := 0) rfl (Nat.le_of_ble_eq_true rfl) rfl rfl (ro rfl (bY (cZ 0)) (R_nil (T_ret2 rfl (rv_to (rv_cell A_30 Z_30 rfl (i := 0) rfl rfl) ?_) (rv_to (rv_tmp rfl) ?_)))))))
   ·exact (fun v V h => by rw [frZ, frS, okL, okL, hfr, if_pos ho, if_pos ho]; rw [unX, okL, if_pos ho] at h; exact h)
   ·exact (int_of (hfr.trans ho).symm)
set_option maxHeartbeats 2000000 in
set_option maxRecDepth 20000 in
theorem c_FromAdm {z : List Qi} {m : List (List Qi)} {L : Nat} (hf : FitM m L) (hfz : FitL z L) (hL : 1 ≤ L) (hLb : L ≤ 1000) (hzl : z.length ≤ 1000) (hml : m.length ≤ 1000) (hg : 6 * grow (4 * L + 6) z.length + 4 ≤ 17592186044415) (hx : xgr (grow (4 * L + 6) z.length) (z.length + 1) ≤ 900000000000) : Fun Tryz.prog 28 [NumsT z, NumM m] (TupT [NetT (frZ z m (faQ z m)) (frS z m (faQ z m) (plM 1 (-1) (faQ z m) z.length)), IntT .i64 (frE z m (faQ z m))]) := by
 refine Fun.intro Tryz.func28 rfl Tryz.ntmps28 rfl (fun cx => (ts (rn rfl (new_alloc (Ts := [Is (.slice none 0 0), Is (.slice none 0 0)]) O_30 rfl (fun V => aW ⟨rfl, trivial⟩ (aW ⟨rfl, trivial⟩ (aG)))) fun B4 => (ro rfl (bY (cZ 0)) (R_nil (ts (rm rfl (rm rfl (ro rfl (cX Tryz.call85 (c_netNew (z := z) (s := m) (L := L) hfz (by omega) hzl hml) ⟨(Ht rfl), (Ht rfl), trivial⟩) (rm rfl (ro rfl (dG (Ht rfl) rfl) (ro rfl (dG (Ht rfl) rfl) (rn rfl (new_alloc (Ts := [Is (.slice none 0 0), Is (.slice none 0 0)]) O_30 rfl (fun V => aW ⟨rfl, trivial⟩ (aW ⟨rfl, trivial⟩ (aG)))) fun B6 => ?_)))))))))))))
 refine R_stA Z_30 (Ht rfl) (Ht rfl) rfl (i := 1) rfl (Nat.le_of_ble_eq_true rfl) rfl rfl (ra rfl (R_nil (cG (ts (rm rfl (ro rfl (op_neq (Ht rfl) cJ) (R_nil (cY (Ht rfl) (fun he => ?_) (fun he => ?_)))))))))
 ·have hn : netErr z m ≠ 0 := by simpa using he
  have hfr := fr_bad (q := faQ z m) hn
  refine ts (ro rfl (OpTy.imp (bld_30_ ) net_nil) (rm rfl (R_stA Z_30 (Ht rfl) (Ht rfl) rfl (i := 0) rfl (Nat.le_of_ble_eq_true rfl) rfl rfl (ra rfl (R_nil (T_ret2 rfl (rv_to (rv_cell A_30 Z_30 rfl (i := 0) rfl rfl) ?_) (rv_to (rv_tmp rfl) ?_)))))))
  ·exact (fun v V h => by rw [frZ, frS, okL, okL, hfr, if_neg hn, if_neg hn]; exact h)
  ·exact (int_of hfr.symm)
 ·have hn : netErr z m = 0 := by simpa using he
  have hfr := fr_ok (q := faQ z m) hn
  obtain ⟨h1, h8, hs, hp2⟩ := netErr_ok hn
  have hqs : Shp (faQ z m) z.length z.length := Shp.tab
  have hqf : FitM (faQ z m) (4 * L + 2) := ((faQ_fit hfz hf hL hL)).le (by omega)
  have hok : okL (netErr z m) z = z := by rw [hn]; rfl
  have hokm : okL (netErr z m) m = m := by rw [hn]; rfl
  have hid := idM_shp z.length
  have hif : FitM (idM z.length) 1 := idM_fit (Nat.le_refl 1)
  rw [hok, hokm]
  refine cK (ts (ro rfl (op_fldB fa_30_1 (Ht rfl) rfl) (ro rfl (op_ldB A_28 Z_28 (Ht rfl) (i := 1) rfl rfl) (ro rfl (op_fldB fa_30_0 (Ht rfl) rfl) (ro rfl (op_ldB A_27 Z_27 (Ht rfl) (i := 1) rfl rfl) (ro rfl (cX Tryz.call94 (c_netScaled (m := m) (z := z) (n := z.length) (L := L) (M := L) (ak := fun i j => i) (op := fun x y => y * x) hs rfl hf hfz hp2 hL hL (by omega) (fun i j hi hj => hi)) ⟨(Ht rfl), (Ht rfl), (Has.fn Tryz.call100 (γ := Nat × Nat) (Ts := fun x => [NT .i64 x.1, NT .i64 x.2]) (U := fun x => NT .i64 x.1) (fun x => c_row)), (Has.fn Tryz.call107 (γ := {p : Qi × Qi // FitC p.1 L ∧ FitC p.2 L ∧ p.2 ≠ 0}) (Ts := fun p => [NumT p.1.1, NumT p.1.2]) (U := fun p => TupT [NumT (p.1.2 * p.1.1), IntT .i64 0]) (fun p => haveI := p.2.1; haveI := p.2.2.1; (c_before (x := p.1.1) (y := p.1.2) (by omega)))), trivial⟩) ?_))))))
  refine rm rfl (ro rfl (dG (Ht rfl) rfl) (ro rfl (dG (Ht rfl) rfl) (ra rfl (ra rfl (R_nil (cG (ts (rm rfl (ro rfl (op_neq (Ht rfl) cJ) (R_nil (T_condF (Ht rfl) (by rfl) ?_)))))))))))
  refine cK (ts (rm rfl (ro rfl (dW U_27 (Ht rfl) len_map) (ro rfl (cX K_91 (c_Id (n := z.length) (by omega)) ⟨(Ht rfl), trivial⟩) (ra rfl (R_nil (ts (rm rfl (rm rfl (ro rfl (cX K_93 (dY (c_sum (m := false) (n := z.length) (L := 1) (M := 4 * L + 2) hid hqs hif hqf (Nat.le_refl 1) (by omega) (by omega) (by omega)) (by rw [pm_plus]; exact fun _ _ h => h)) ⟨(Ht rfl), (Ht rfl), cJ, trivial⟩) ?_))))))))))
  refine rm rfl (rm rfl (ro rfl (cX K_93 (dY (c_sum (m := true) (n := z.length) (L := 1) (M := 4 * L + 2) hid hqs hif hqf (Nat.le_refl 1) (by omega) (by omega) (by omega)) (by rw [pm_minus]; exact fun _ _ h => h)) ⟨(Ht rfl), (Ht rfl), cJ, trivial⟩) ?_))
  refine ro rfl (cX Tryz.call104 (c_netUnder (M := (plM 1 1 (faQ z m) z.length)) (Y := (plM 1 (-1) (faQ z m) z.length)) (n := z.length) (L := 4 * L + 6) (K := 4 * L + 6) (plM_shp _ _ _ _) (plM_shp _ _ _ _) (plM_fit hqf (by omega) fit_p1 fit_m1) (plM_fit hqf (by omega) fit_p1 fit_p1) (by omega) (by omega) (by omega) h1 h8 hg hx) ⟨(Ht rfl), (Ht rfl), trivial⟩) (rm rfl (ro rfl (dG (Ht rfl) rfl) (ro rfl (dG (Ht rfl) rfl) (ro rfl (op_fldB fa_30_1 (Ht rfl) rfl) (R_st Z_28 (Ht rfl) (Ht rfl) (i := 1) rfl (Nat.le_of_ble_eq_true rfl) rfl (ra rfl (R_nil (cG (ts (rm rfl ?_))))))))))
  refine ro rfl (op_neq (Ht rfl) cJ) (R_nil (cY (Ht rfl) (fun hf2 => ?_) (fun hf2 => ?_)))
  ·have ho : ovE (plM 1 1 (faQ z m) z.length) z.length ≠ 0 := by simpa using hf2
   refine ts (ro rfl (OpTy.imp (bld_30_ ) net_nil) (rm rfl (R_stA Z_30 (Ht rfl) (Ht rfl) rfl (i := 0) rfl (Nat.le_of_ble_eq_true rfl) rfl rfl (ra rfl (R_nil (T_ret2 rfl (rv_to (rv_cell A_30 Z_30 rfl (i := 0) rfl rfl) ?_) (rv_to (rv_tmp rfl) ?_)))))))
   ·exact (fun v V h => by rw [frZ, frS, okL, okL, hfr, if_neg ho, if_neg ho]; exact h)
   ·exact (int_of hfr.symm)
  ·have ho : ovE (plM 1 1 (faQ z m) z.length) z.length = 0 := by simpa using hf2
   refine cK (ts (ro rfl (op_ldBA A_30 Z_30 (Ht rfl) (i := 1) rfl rfl rfl) (R_stA Z_30 (Ht rfl) (Ht rfl) rfl (i := 0) rfl (Nat.le_of_ble_eq_true rfl) rfl rfl (ro rfl (bY (cZ 0)) (R_nil (T_ret2 rfl (rv_to (rv_cell A_30 Z_30 rfl (i := 0) rfl rfl) ?_) (rv_to (rv_tmp rfl) ?_)))))))
   ·exact (fun v V h => by rw [frZ, frS, okL, okL, hfr, if_pos ho, if_pos ho]; rw [unX, okL, if_pos ho] at h; exact h)
   ·exact (int_of (hfr.trans ho).symm)
end
section
open Go Go.RowKit
def ExtT (i : Nat) (T : Ty) : Ty where
  p v V := ∃ vs : List Value, T.p (.tuple vs.toArray) V ∧ vs[i]? = some v
  mono h k := by obtain ⟨vs, h1, h2⟩ := h; exact ⟨vs, T.mono h1 k, h2⟩
theorem ext_tup {i : Nat} {Ts : List Ty} {U : Ty} (h : Ts[i]? = some U) : ∀ v V, (ExtT i (TupT Ts)).p v V → U.p v V := fun v V ⟨vs, ⟨ws, e, h2⟩, h3⟩ => by
  have e2 : vs = ws := by simpa using e
  subst e2
  obtain ⟨u, q1, q2⟩ := h2.get h
  rw [h3] at q1; obtain rfl := Option.some.inj q1; exact q2
namespace C
section
variable {P : Program} {R : Post} {cx : Cx} {n : Nat} {k : List It} {E : Env} {H : Hp}
theorem D_ext {ops l : List Oper} {m : Nat} {acc : List (Nat × Ob)} {d t i : Nat} {b : Ob} {ty : TypeId} {pos : String} {af : Array Edge} (j : Nat) (hn : Nat.blt d n = true) (hj : acc.reverse[j]? = some (t, b))
    (he : (af.toList.any fun e => Nat.beq e.on j && Region.binds .any e) = true) (hf : ∀ T, Fits b T → ∃ Ts U, T = TupT Ts ∧ Ts[i]? = some U)
    (h : Dr P R cx n ops m k E H l ((d, .dep t t (fun T _ => ExtT i T) (fun _ => True)) :: acc)) : Dr P R cx n ops m k E H (⟨some d, .extract (.tmp t) i, ty, pos, af, none⟩ :: l) acc :=
  D_der (fun T _ => ExtT i T) (fun _ => True) j j rfl hn hj he hj he (fun T U hT _ => ⟨fun cx X a w V hi hs K Q hK => by
    obtain ⟨Ts, U, rfl, hU⟩ := hf T hT
    obtain ⟨v, s1, s2⟩ := hs.2.2 t _ (by rw [look_cons, if_pos rfl])
    obtain ⟨vs, rfl, h2⟩ := s2
    obtain ⟨u, h3, h4⟩ := h2.get hU
    have ev : a.eval (.tmp t) = .tuple vs.toArray := by simp [Act.eval, s1]
    have hrun : (execOp a.eval ⟨some d, .extract (.tmp t) i, ty, pos, af, none⟩).run P w = .ok (.value u) w := by simp [execOp, ev, Instr.extract, h3, bind, Sem.bind, pure, Sem.run]
    rw [if_pos (by simp [Region.wanted])]
    simp only [Oper.wp, hrun, Oper.upon_value]
    exact hK u w V hi (VLe.refl V) ⟨vs, ⟨vs, rfl, h2⟩, h3⟩, trivial⟩) h
end
end C
end
end Go.Proofs.YteimkhgiekndjaaGreat
