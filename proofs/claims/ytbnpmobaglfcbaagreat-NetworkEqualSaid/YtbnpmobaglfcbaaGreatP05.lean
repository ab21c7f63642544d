/- What functions of the program compute, proved by walks over their code, and the plain mathematics of it; a part of the proof in the last text. -/
import Derived.Test.YtbnpmobaglfcbaaGreatP04
set_option linter.unusedVariables false
set_option linter.unusedSimpArgs false
namespace Go.Proofs.YtbnpmobaglfcbaaGreat
open Go Go.RowKit
theorem c_copied0 {M : List (List Qi)} {n m : Nat} (hM : Shp M n m) (hn : n ≤ 1000) (hm : m ≤ 1000) : FunO Tryz.prog 236 [NumM M, Is (.slice none 0 0)] [] Nat (fun B => Is (.slice (some ⟨B, 0, none⟩) n n)) (fun B => [matO B 27 49 5 (FRow NumT M)]) (fun _ => True) := by
  have h := c_copiedO (M := M) (bs := []) hM (fun b hb => by cases hb) hn hm (by simp)
  rw [copyM_nil hM] at h
  exact h.arg all2_nil
set_option maxHeartbeats 1000000 in
set_option maxRecDepth 20000 in
theorem c_Inv {M : List (List Qi)} {n L : Nat} (hM : Shp M n n) (hf : FitM M L) (hL : 1 ≤ L) (h1 : 1 ≤ n) (hn : n ≤ 32) (hg : 6 * grow L n + 4 ≤ 17592186044415) (hx : xgr (grow L n) (n + 1) ≤ 17592186044415) : Fun Tryz.prog 192 [NumM M] (TupT [NumM (okL (invE M n) (invX M n)), IntT .i64 (invE M n)]) := by
 have hMl := hM.1
 refine Fun.intro Tryz.func192 rfl Tryz.ntmps192 rfl (fun cx => (ts (ro rfl (op_assign Has.c) (ro rfl (op_assign (Has.cN 0)) (R_nil (T_seq (ts (rm rfl (ro rfl (op_call Tryz.call235 (c_square hM h1 hn) ⟨(Ht rfl), trivial⟩) (ro rfl (op_not (Ht rfl)) (R_nil (T_condF (Ht rfl) (by rfl) ?_))))))))))))
 refine T_skip (ts (rm rfl (R_call0 Tryz.call236 (c_copied0 hM (by omega) (by omega)) ⟨(Ht rfl), Has.c, trivial⟩ rfl (fun B14 _ => (ra rfl (R_nil (T_seq (ts (rm rfl (ro rfl (op_len U_28 (Ht rfl) (by rw [List.length_map, hMl])) ?_))))))))))
 refine ro rfl (op_call Tryz.call130 (c_Id (n := n) hn) ⟨(Ht rfl), trivial⟩) (ro rfl (op_len U_28 (Ht rfl) len_map) (ro rfl (op_move (Has.cN 0)) (R_nil (T_block ?_))))
 refine T_loop (fun (k : Nat) => k ≤ n ∧ ∀ i, i < k → slvE M (ek n i) n = 0) (fun (k : Nat) => n - k) (fun (k : Nat) => [(0, NumM M), (4, Is (.slice (some ⟨B14, 0, none⟩) n n)), (17, NumM (idM n)), (18, NT .i64 n), (19, NT .i64 k)]) (fun (k : Nat) => [matO B14 27 49 5 (FRow NumT (invP M n k 0))]) 0 ⟨Nat.zero_le _, fun i h => by omega⟩
  (Sub.cons rfl (Sub.cons rfl (Sub.cons rfl (Sub.to rfl (nt_of (idM_shp n).1) (Sub.cons rfl Sub.nil))))) (HSub.cons (matO_of (congrArg _ (invP_zero hM))) HSub.nil) (fun k ⟨hk, h0⟩ => ?_)
 refine ts (ro rfl (op_lssN (Ht rfl) (Ht rfl)) (R_nil (T_seq (T_cond (Ht rfl) (fun hd0 => ?_) (fun hd0 => ?_)))))
 ·simp only [decide_eq_true_eq] at hd0
  have hel := ek_len hd0
  refine T_skip (T_seq (T_block (ts (rm rfl (ro rfl (op_idx U_28 Z_27 (Ht rfl) (Ht rfl) rfl (map_get (getD_some (d := []) (by rw [(idM_shp n).1]; exact hd0)))) ?_)))))
  refine ro rfl (op_ld A_27 Z_27 (Ht rfl)) (ra rfl (ra rfl (R_nil (ts (rm rfl (rm rfl (ro rfl (op_call Tryz.call179 (c_Solve (M := M) (b := ek n k) (n := n) (L := L) hM hel hf (ek_fit hL) hL h1 hn hg hx) ⟨(Ht rfl), (Ht rfl), trivial⟩) (rm rfl (ro rfl (op_extract (Ht rfl) rfl) (ro rfl (op_extract (Ht rfl) rfl) (ra rfl (ra rfl (R_nil (T_seq (ts (rm rfl (ro rfl (op_neq (Ht rfl) Has.c) (R_nil (T_cond (Ht rfl) (fun he => ?_) (fun he => ?_))))))))))))))))))))
  ·have he2 : ¬ slvE M (ek n k) n = 0 := by simpa using he
   have hi := invE_at h0 hd0 he2
   refine ts (rm rfl (ro rfl (op_assign Has.c) (ra rfl (R_nil (T_ret2 rfl (rv_to (rv_tmp rfl) ?_) (rv_to (rv_tmp rfl) ?_))))))
   ·exact (fun v V h => by rw [hi, okL, if_neg he2]; exact nil_slT v V h)
   ·exact (int_of hi.symm)
  ·have he2 : slvE M (ek n k) n = 0 := by simpa using he
   have hxl : (slvX M (ek n k) n).length = n := bkS_len _ _ _
   refine T_sub (E' := [(0, _), (4, _), (5, _), (7, _), (17, _), (18, _), (19, _)]) (Sub.cons rfl (Sub.cons rfl (Sub.cons rfl (Sub.to rfl (slT_of (Us := (slvX M (ek n k) n).map NumT) (by rw [he2]; rfl)) (Sub.cons rfl (Sub.cons rfl (Sub.cons rfl Sub.nil))))))) ?_
   refine T_skip (ts (rm rfl (ro rfl (op_len U_27 (Ht rfl) len_map) (ro rfl (op_move (Has.cN 0)) (R_nil (T_block ?_))))))
   refine T_loop (fun (i : Nat) => i ≤ n) (fun (i : Nat) => n - i) (fun (i : Nat) => [(0, NumM M), (4, Is (.slice (some ⟨B14, 0, none⟩) n n)), (5, NT .i64 k), (7, NumsT (slvX M (ek n k) n)), (17, NumM (idM n)), (18, NT .i64 n), (19, NT .i64 k), (34, NT .i64 n), (35, NT .i64 i)]) (fun (i : Nat) => [matO B14 27 49 5 (FRow NumT (invP M n k i))]) 0 (Nat.zero_le _)
    (Sub.cons rfl (Sub.cons rfl (Sub.cons rfl (Sub.cons rfl (Sub.cons rfl (Sub.cons rfl (Sub.cons rfl (Sub.to rfl (nt_of hxl) (Sub.cons rfl Sub.nil))))))))) (HSub.refl _) (fun i hi => ?_)
   refine ts (ro rfl (op_lssN (Ht rfl) (Ht rfl)) (R_nil (T_seq (T_cond (Ht rfl) (fun hf2 => ?_) (fun hf2 => ?_)))))
   ·simp only [decide_eq_true_eq] at hf2
    have hpl := (invP_shp M n k i).1
    have hpr : ((invP M n k i).getD i []).length = n := (invP_shp M n k i).row hf2
    refine T_focus 0 (i) rfl (frow_get (by omega)) (fun v => (T_skip (T_seq (T_block (ts (rm rfl (ra rfl (R_nil (C.D_start (m := 9) (dp 4 rfl (op_move (Ht rfl)) (dp 9 rfl (op_move (Ht rfl)) (dqq 38 0 39 1 rfl (op_idxB U_28 Z_27 (Ht rfl) (Ht rfl) rfl (by omega) (by rw [Nat.mul_one, Nat.zero_add])) ?_))))))))))))
    refine dq 40 2 rfl (op_ldH A_27 Z_27 (Ht rfl) (j := 0) rfl) (dp 5 rfl (op_move (Ht rfl)) (dp 7 rfl (op_move (Ht rfl)) (dp 9 rfl (op_move (Ht rfl)) (dqq 43 5 44 6 rfl (op_idx U_27 Z_49 (Ht rfl) (Ht rfl) rfl (map_get (getD_some (d := Qi.zero) (by omega)))) (dq 45 7 rfl (op_ld A_49 Z_49 (Ht rfl)) (C.D_done mixed rfl (by kernel_rfl) (C.F_val (C.F_val (C.F_val (C.F_val (C.F_val (C.F_val (C.F_val (C.F_val (C.F_val (C.F_nil (ro rfl (op_idxO U_27 Z_49 (Ht rfl) (Ht rfl) rfl (i := 1) rfl (by rw [List.length_map]; omega) rfl) ?_)))))))))))))))))
    refine R_stO Z_49 (Ht rfl) (Ht rfl) (El.ag rfl) (i := 1) rfl rfl (by rw [List.length_map]; omega) rfl ?_
    refine R_nil (T_blk (T_unfocus 0 1 rfl rfl (by decide) (by simp only [FRow, List.length_map]; omega) ?_))
    refine T_region (ro rfl (op_addN (Ht rfl) (Has.cN 1) (by show _ < 9223372036854775808; first | omega | (simp only [lim]; omega))) (rm rfl (R_nil (T_keep [0] rfl (by decide) (T_again (i + 1) hf2 (by omega) (Sub.cons rfl (Sub.cons rfl (Sub.cons rfl (Sub.cons rfl (Sub.cons rfl (Sub.cons rfl (Sub.cons rfl (Sub.cons rfl (Sub.cons rfl Sub.nil))))))))) (HSub.cons (matO_of (by rw [set_mapF, set_FRow, invP_next hf2 hd0])) HSub.nil))))))
   ·simp only [decide_eq_false_iff_not] at hf2
    obtain rfl : n = i := Nat.le_antisymm (by omega) hi
    refine T_exit rfl (T_blk (T_region (ro rfl (op_addN (Ht rfl) (Has.cN 1) (by show _ < 9223372036854775808; first | omega | (simp only [lim]; omega))) (rm rfl (R_nil ?_)))))
    refine T_again (k + 1) ⟨hd0, fun j h => by
     by_cases e : j = k
     ·rw [e]; exact he2
     ·exact h0 j (by omega)⟩ (by omega) (Sub.cons rfl (Sub.cons rfl (Sub.cons rfl (Sub.cons rfl (Sub.cons rfl Sub.nil))))) (HSub.cons (matO_of (by rw [invP_col])) HSub.nil)
 ·simp only [decide_eq_false_iff_not] at hd0
  obtain rfl : n = k := Nat.le_antisymm (by omega) hk
  have hi := invE_zero h0
  refine T_freeze (i := 0) (tt := 4) rfl rfl (frz_matF (s := 5) (M := invP M n n 0) (invP_shp M n n 0).1.symm) (T_exit rfl (ts (rm rfl (ra rfl (ro rfl (op_assign (Has.cN 0)) (R_nil (T_ret2 rfl (rv_to (rv_tmp rfl) ?_) (rv_to (rv_tmp rfl) ?_))))))))
  ·exact (slT_of (by rw [hi, invP_fin]; rfl))
  ·exact (int_of hi.symm)
set_option maxRecDepth 20000 in
theorem c_sum1 {m : Bool} {a b : List (List Qi)} {n i j L M : Nat} (ha : Shp a n n) (hb : Shp b n n) (hfa : FitM a L) (hfb : FitM b M) (h1 : 1 ≤ L) (h2 : 1 ≤ M) (hg : L + M + 1 ≤ 17592186044415) (hi : i < n) (hj : j < n) : Fun Tryz.prog 219 [NT .i64 i, NT .i64 j, PT (BoolT m), PT (NumM a), PT (NumM b)] (NumT (if m = true then gm a i j - gm b i j else gm a i j + gm b i j)) := by
 have hal := ha.1
 have hbl := hb.1
 have har := ha.row hi
 have hbr := hb.row hi
 haveI f1 : FitC (gm a i j) L := hfa.get h1 i j
 haveI f2 : FitC (gm b i j) M := hfb.get h2 i j
 refine Fun.intro Tryz.func219 rfl Tryz.ntmps219 rfl (fun cx => (ts (rn rfl (new_alloc (Ts := [Is (.bool false), Is (.slice none 0 0), Is (.bool false), Is (.slice none 0 0), Is (.slice none 0 0)]) O_49 rfl (fun V => Cells.cons' ⟨rfl, trivial⟩ (Cells.cons' ⟨rfl, trivial⟩ (Cells.cons' ⟨rfl, trivial⟩ (Cells.cons' ⟨rfl, trivial⟩ (Cells.cons' ⟨rfl, trivial⟩ (Cells.nil))))))) fun B7 => (R_nil (T_seq (ts (ro rfl (op_ld A_4 Z_4 (Ht rfl)) (R_nil (T_cond (Ht rfl) (fun hm => ?_) (fun hm => ?_))))))))))
 ·refine T_seq (C.D_start (m := 15) (dp 3 rfl (op_ld A_28 Z_28 (Ht rfl)) (dp 0 rfl (op_move (Ht rfl)) (dqq 9 0 10 1 rfl (op_idx U_28 Z_27 (Ht rfl) (Ht rfl) rfl (map_get (getD_some (d := []) (by omega)))) (dq 11 2 rfl (op_ld A_27 Z_27 (Ht rfl)) (dp 1 rfl (op_move (Ht rfl)) (dqq 12 3 13 4 rfl (op_idx U_27 Z_49 (Ht rfl) (Ht rfl) rfl (map_get (getD_some (d := Qi.zero) (by omega)))) (dq 14 5 rfl (op_ld A_49 Z_49 (Ht rfl)) (dq 15 6 rfl (op_iface mkif_49 (Ht rfl)) (dp 4 rfl (op_ld A_28 Z_28 (Ht rfl)) ?_))))))))))
  refine dp 0 rfl (op_move (Ht rfl)) (dqq 17 8 18 9 rfl (op_idx U_28 Z_27 (Ht rfl) (Ht rfl) rfl (map_get (getD_some (d := []) (by omega)))) (dq 19 10 rfl (op_ld A_27 Z_27 (Ht rfl)) (dp 1 rfl (op_move (Ht rfl)) (dqq 20 11 21 12 rfl (op_idx U_27 Z_49 (Ht rfl) (Ht rfl) rfl (map_get (getD_some (d := Qi.zero) (by omega)))) (dq 22 13 rfl (op_ld A_49 Z_49 (Ht rfl)) (C.D_done mixed rfl (by kernel_rfl) (C.F_val (C.F_val (C.F_val (C.F_val (C.F_val (C.F_val (C.F_val (C.F_val (C.F_val (C.F_val (C.F_val (C.F_val (C.F_val (C.F_val (C.F_val (C.F_nil ?_))))))))))))))))))))))
  refine ro rfl (op_invoke meth_49_Sub Tryz.call68 (c_Sub (x := gm a i j) (y := gm b i j) (L := L) (M := M) hg) (Ht rfl) ⟨(Ht rfl), trivial⟩) (R_stA Z_49 (Ht rfl) (Ht rfl) rfl (i := 0) rfl (Nat.le_of_ble_eq_true rfl) rfl rfl (R_nil (T_ret1 rfl (rv_to (rv_cell A_49 Z_49 rfl (i := 0) rfl rfl) ?_))))
  exact (num_of (by rw [if_pos hm]))
 ·refine T_skip (T_seq (C.D_start (m := 15) (dp 3 rfl (op_ld A_28 Z_28 (Ht rfl)) (dp 0 rfl (op_move (Ht rfl)) (dqq 25 0 26 1 rfl (op_idx U_28 Z_27 (Ht rfl) (Ht rfl) rfl (map_get (getD_some (d := []) (by omega)))) (dq 27 2 rfl (op_ld A_27 Z_27 (Ht rfl)) (dp 1 rfl (op_move (Ht rfl)) (dqq 28 3 29 4 rfl (op_idx U_27 Z_49 (Ht rfl) (Ht rfl) rfl (map_get (getD_some (d := Qi.zero) (by omega)))) (dq 30 5 rfl (op_ld A_49 Z_49 (Ht rfl)) (dq 31 6 rfl (op_iface mkif_49 (Ht rfl)) (dp 4 rfl (op_ld A_28 Z_28 (Ht rfl)) ?_)))))))))))
  refine dp 0 rfl (op_move (Ht rfl)) (dqq 33 8 34 9 rfl (op_idx U_28 Z_27 (Ht rfl) (Ht rfl) rfl (map_get (getD_some (d := []) (by omega)))) (dq 35 10 rfl (op_ld A_27 Z_27 (Ht rfl)) (dp 1 rfl (op_move (Ht rfl)) (dqq 36 11 37 12 rfl (op_idx U_27 Z_49 (Ht rfl) (Ht rfl) rfl (map_get (getD_some (d := Qi.zero) (by omega)))) (dq 38 13 rfl (op_ld A_49 Z_49 (Ht rfl)) (C.D_done mixed rfl (by kernel_rfl) (C.F_val (C.F_val (C.F_val (C.F_val (C.F_val (C.F_val (C.F_val (C.F_val (C.F_val (C.F_val (C.F_val (C.F_val (C.F_val (C.F_val (C.F_val (C.F_nil ?_))))))))))))))))))))))
  refine ro rfl (op_invoke meth_49_Add Tryz.call71 (c_Add (x := gm a i j) (y := gm b i j) (L := L) (M := M) hg) (Ht rfl) ⟨(Ht rfl), trivial⟩) (R_stA Z_49 (Ht rfl) (Ht rfl) rfl (i := 0) rfl (Nat.le_of_ble_eq_true rfl) rfl rfl (R_nil (T_ret1 rfl (rv_to (rv_cell A_49 Z_49 rfl (i := 0) rfl rfl) ?_))))
  exact (num_of (by rw [if_neg (by rw [hm]; decide)]))
set_option maxRecDepth 20000 in
theorem c_sum {m : Bool} {a b : List (List Qi)} {n L M : Nat} (ha : Shp a n n) (hb : Shp b n n) (hfa : FitM a L) (hfb : FitM b M) (h1 : 1 ≤ L) (h2 : 1 ≤ M) (hg : L + M + 1 ≤ 17592186044415) (hn : n ≤ 1000) : Fun Tryz.prog 131 [NumM a, NumM b, BoolT m] (NumM (pmM m a b n)) := by
 have hal := ha.1
 refine Fun.intro Tryz.func131 rfl Tryz.ntmps131 rfl (fun cx => (ts (rn rfl (new_box1 (Ht rfl)) fun B3 => (rn rfl (new_box1 (Ht rfl)) fun B4 => (rn rfl (new_box1 (Ht rfl)) fun B5 => (ro rfl (op_assign Has.c) (R_nil (T_seq (T_freeze (i := 0) (tt := 3) rfl rfl frz_ptr1 (T_freeze (i := 1) (tt := 4) rfl rfl frz_ptr1 (T_freeze (i := 2) (tt := 5) rfl rfl frz_ptr1 (T_region (ro rfl (op_ld A_28 Z_28 (Ht rfl)) (ro rfl (op_len U_28 (Ht rfl) (by rw [List.length_map, hal])) ?_))))))))))))))
 refine ro rfl (op_clos (γ := Fin n × Fin n) (Ts := fun x => [NT .i64 x.1.1, NT .i64 x.2.1]) (U := fun x => NumT (if m = true then gm a x.1.1 x.2.1 - gm b x.1.1 x.2.1 else gm a x.1.1 x.2.1 + gm b x.1.1 x.2.1)) Tryz.call219 (fun x => c_sum1 ha hb hfa hfb h1 h2 hg x.1.2 x.2.2) ⟨(Ht rfl), (Ht rfl), (Ht rfl), trivial⟩) (ro rfl (op_call Tryz.call85 (c_fill (n := n) (f := fun i j => if m = true then gm a i j - gm b i j else gm a i j + gm b i j) hn) ⟨(Ht rfl), (Ht rfl), trivial⟩) (ra rfl (R_nil ?_)))
 exact T_ret1 rfl (rv_tmp rfl)
set_option maxRecDepth 20000 in
theorem c_overE {Y M : List (List Qi)} {n L : Nat} (hM : Shp M n n) (hf : FitM M L) (hL : 1 ≤ L) (h1 : 1 ≤ n) (hn : n ≤ 32) (hg : 6 * grow L n + 4 ≤ 17592186044415) (hx : xgr (grow L n) (n + 1) ≤ 17592186044415) (hE : invE M n ≠ 0) : Fun Tryz.prog 100 [NumM Y, NumM M] (TupT [NumM [], IntT .i64 5]) := by
 refine Fun.intro Tryz.func100 rfl Tryz.ntmps100 rfl (fun cx => (ts (ro rfl (op_assign Has.c) (ro rfl (op_assign (Has.cN 0)) (R_nil (ts (rm rfl (ro rfl (op_call Tryz.call192 (c_Inv hM hf hL h1 hn hg hx) ⟨(Ht rfl), trivial⟩) (rm rfl (ro rfl (op_extract (Ht rfl) rfl) (ro rfl (op_extract (Ht rfl) rfl) (ra rfl (ra rfl (R_nil (T_seq (ts (rm rfl (ro rfl (op_neq (Ht rfl) Has.c) (R_nil (T_condT (Ht rfl) (by simp [hE]) ?_))))))))))))))))))))
 refine ts (ro rfl (op_assign Has.c) (ro rfl (op_assign (Has.cN 5)) (R_nil (T_ret2 rfl (rv_to (rv_tmp rfl) ?_) (rv_tmp rfl)))))
 exact (fun v V h => nil_slT v V h)
set_option maxRecDepth 20000 in
theorem c_ImpE {z : List Qi} {s : List (List Qi)} {L : Nat} (hs : Shp s z.length z.length) (hf : FitM s L) (hL : 1 ≤ L) (h1 : 1 ≤ z.length) (hn : z.length ≤ 8) (hg : 6 * grow (L + 2) z.length + 4 ≤ 17592186044415) (hx : xgr (grow (L + 2) z.length) (z.length + 1) ≤ 17592186044415) (hE : invE (pmM true (idM z.length) s z.length) z.length ≠ 0) : Fun Tryz.prog 38 [NetT z s] (TupT [NumM [], IntT .i64 5]) := by
 have hgl := grow_le (L + 2) z.length
 have hid := idM_shp z.length
 have hif : FitM (idM z.length) 1 := idM_fit (Nat.le_refl 1)
 have hpf : FitM (pmM true (idM z.length) s z.length) (L + 2) := by have h := pmM_fit (m := true) (n := z.length) hif hf (Nat.le_refl 1) hL; rw [show L + 2 = 1 + L + 1 by omega]; exact h
 refine Fun.intro Tryz.func38 rfl Tryz.ntmps38 rfl (fun cx => (ts (rn rfl (new_box (Ht rfl)) fun B1 => (ro rfl (op_assign Has.c) (ro rfl (op_assign (Has.cN 0)) (R_nil (ts (ro rfl (op_fldB fa_30_0 (Ht rfl) rfl) (ro rfl (op_ldB A_27 Z_27 (Ht rfl) (i := 0) rfl rfl) (ro rfl (op_len U_27 (Ht rfl) len_map) (ro rfl (op_call Tryz.call130 (c_Id (n := z.length) (by omega)) ⟨(Ht rfl), trivial⟩) (ra rfl (R_nil (T_seq (C.D_start (m := 13) (dp 4 rfl (op_move (Ht rfl)) (dp 1 rfl (op_fldB fa_30_1 (Ht rfl) rfl) (dq 13 1 rfl (op_ldB A_28 Z_28 (Ht rfl) (i := 0) rfl rfl) ?_))))))))))))))))))
 refine dqq 12 0 14 2 rfl (op_call Tryz.call131 (c_sum (m := false) (n := z.length) (L := 1) (M := L) hid hs hif hf (Nat.le_refl 1) hL (by omega) (by omega)) ⟨(Ht rfl), (Ht rfl), Has.c, trivial⟩) (dp 4 rfl (op_move (Ht rfl)) (dp 1 rfl (op_fldB fa_30_1 (Ht rfl) rfl) (dq 17 5 rfl (op_ldB A_28 Z_28 (Ht rfl) (i := 0) rfl rfl) (dqq 16 4 18 6 rfl (op_call Tryz.call131 (c_sum (m := true) (n := z.length) (L := 1) (M := L) hid hs hif hf (Nat.le_refl 1) hL (by omega) (by omega)) ⟨(Ht rfl), (Ht rfl), Has.c, trivial⟩) (dqq 15 3 19 7 rfl (op_call Tryz.call100 (c_overE (n := z.length) (L := L + 2) pmM_shp hpf (by omega) h1 (by omega) hg hx hE) ⟨(Ht rfl), (Ht rfl), trivial⟩) ?_)))))
 refine dq 20 8 rfl (op_move (Ht rfl)) (dq 11 9 rfl (op_extract (Ht rfl) rfl) (dq 11 9 rfl (op_extract (Ht rfl) rfl) (dq 21 10 rfl (op_assign (Ht rfl)) (C.D_done mixed rfl (by kernel_rfl) (C.F_val (C.F_val (C.F_val (C.F_val (C.F_val (C.F_val (C.F_val (C.F_val (C.F_val (C.F_val (C.F_val (C.F_val (C.F_val (C.F_nil (ra rfl (R_nil (T_seq (ts (rm rfl (ro rfl (op_neq (Ht rfl) Has.c) (R_nil (T_condT (Ht rfl) (by rfl) ?_))))))))))))))))))))))))))
 refine ts (rm rfl (ro rfl (op_assign Has.c) (ra rfl (R_nil (T_ret2 rfl (rv_to (rv_tmp rfl) ?_) (rv_tmp rfl))))))
 exact (fun v V h => nil_slT v V h)
end Go.Proofs.YtbnpmobaglfcbaaGreat
namespace Go.Proofs.YtbnpmobaglfcbaaGreat
open Go Go.RowKit
section
variable {P : Program} {R : Post} {cx : Cx} {n : Nat} {k : List It} {E : Env} {H : Hp}
theorem T_frzcellG (i l off : Nat) {B : Nat} {BT : TypeId} {Us : List Ty} {v : Value} {A : SA} {T : Ty} (hB : H[i]? = some (box B BT Us)) (hU : Us[off]? = some (Is v)) (hL : H[l]? = some A) (hne : i ≠ l) (hT : ∀ S V, A.h S V V → T.p v V)
    (h : Tr P R cx n k E ((H.set l SA.emp).set i (box B BT (Us.set off T)))) : Tr P R cx n k E H := fun a w ⟨V, hi, hs⟩ => by
  obtain ⟨V', S, hle, hi', hA⟩ := hi.freeze hL
  have hT := hT S V' hA
  refine h a w ⟨V', hi'.withHH ?_, hs.mono hle⟩
  obtain ⟨F, h1, h2⟩ := hi'.hp
  have hB' : (H.set l SA.emp)[i]? = some (box B BT Us) := by rw [List.getElem?_set_ne (Ne.symm hne)]; exact hB
  have hil := (List.getElem?_eq_some_iff.1 hB').1
  refine ⟨F, fun q A hq => ?_, fun q r b hq hr => h2 q r b (by simpa using hq) (by simpa using hr)⟩
  by_cases c : i = q
  · subst c
    rw [List.getElem?_set_self hil] at hq
    obtain rfl := Option.some.inj hq
    obtain ⟨⟨k1, cs, k2, k3⟩, k4⟩ := h1 i _ hB'
    obtain ⟨u, u1, u2⟩ := k3.get hU
    obtain rfl : u = v := u2
    have hset : cs.set off u = cs := by
      apply List.ext_getElem?
      intro j
      by_cases cj : off = j
      · subst cj; rw [List.getElem?_set_self (List.getElem?_eq_some_iff.1 u1).1, u1]
      · rw [List.getElem?_set_ne cj]
    refine ⟨⟨k1, cs, k2, ?_⟩, k4⟩
    have := k3.set off (v := u) hT (k3.pl u (List.mem_of_getElem? u1))
    rwa [hset] at this
  · rw [List.getElem?_set_ne c] at hq
    exact h1 q A hq
theorem frzM {B e l : Nat} {BT : TypeId} {F : Qi → Ty} {q : Value → Prop} {M : List (List Qi)} (hl : l = M.length) : ∀ S V, (matP q B BT e 5 (FRow F M)).h S V V → (SlT 1 (M.map fun r => SlT 5 (r.map F))).p (.slice (some ⟨B, 0, none⟩) l l) V := fun S V h =>
  frz_matF (s := 5) (M := M) hl _ S V rfl h
end
def skp (p i : Nat) : Nat := if i < p then i else i + 1
abbrev IntsT (l : List Nat) : Ty := SlT 1 (l.map (NT .i64))
def lftL (p n : Nat) : List Nat := tab n fun j => skp p j + 1
def cnt (p i : Nat) : Nat := if i ≤ p then i else i - 1
theorem cnt_fin {p n : Nat} (h : p < n) : cnt p n = n - 1 := by unfold cnt; split <;> omega
theorem skp_lt {p i n : Nat} (h : i < n - 1) (hp : p < n) : skp p i < n := by unfold skp; split <;> omega
theorem lft_get {p n j : Nat} (h : j < n) : (lftL p n)[j]? = some (skp p j + 1) := tab_get h
def prtZ (z : List Qi) (p m : Nat) : List Qi := tab m fun i => gv z (skp p i)
def prtS (s : List (List Qi)) (p m : Nat) : List (List Qi) := tab m fun i => tab m fun j => gm s (skp p i) (skp p j)
def trmX (s : List (List Qi)) (p : Nat) (f : Qi) (i j : Nat) : Qi := gm s (skp p i) (skp p j) + gm s (skp p i) p * (f * gm s p (skp p j))
def trmS (s : List (List Qi)) (p m : Nat) (f : Qi) : List (List Qi) := tab m fun i => tab m fun j => trmX s p f i j
def trmF (s : List (List Qi)) (p : Nat) (g : Qi) : Qi := g / (Qi.ofInt 1 - gm s p p * g)
def trmE (z : List Qi) (s : List (List Qi)) (port : Int) (g : Qi) : Int :=
  if ¬ (1 ≤ port ∧ port ≤ z.length) then 1 else if z.length = 1 then 4 else if Qi.ofInt 1 - gm s (port - 1).toNat (port - 1).toNat * g = Qi.zero then 6 else 0
def trmRZ (z : List Qi) (s : List (List Qi)) (port : Int) (g : Qi) : List Qi := okL (trmE z s port g) (prtZ z (port - 1).toNat (z.length - 1))
def trmRS (z : List Qi) (s : List (List Qi)) (port : Int) (g : Qi) : List (List Qi) := okL (trmE z s port g) (trmS s (port - 1).toNat (z.length - 1) (trmF s (port - 1).toNat g))
theorem trm_bad {z : List Qi} {s : List (List Qi)} {port : Int} {g : Qi} {e : Int} (h : trmE z s port g = e) (he : e ≠ 0) : ∀ v V, (NetT [] []).p v V → (NetT (trmRZ z s port g) (trmRS z s port g)).p v V := by
  rw [trmRZ, trmRS, okL, okL, h, if_neg he, if_neg he]; exact fun _ _ k => k
theorem trm_p (p : Nat) : ((p : Int) + 1 - 1).toNat = p := by omega
theorem trm_good {z : List Qi} {s : List (List Qi)} {p : Nat} {g : Qi} (h : trmE z s ((p : Int) + 1) g = 0) : ∀ v V, (NetT (prtZ z p (z.length - 1)) (trmS s p (z.length - 1) (trmF s p g))).p v V → (NetT (trmRZ z s ((p : Int) + 1) g) (trmRS z s ((p : Int) + 1) g)).p v V := by
  rw [trmRZ, trmRS, okL, okL, h, if_pos rfl, if_pos rfl, trm_p]; exact fun _ _ k => k
theorem trmE_1 {z : List Qi} {s : List (List Qi)} {port : Int} {g : Qi} (h : ¬ (1 ≤ port ∧ port ≤ z.length)) : trmE z s port g = 1 := by rw [trmE, if_pos h]
theorem trmE_4 {z : List Qi} {s : List (List Qi)} {port : Int} {g : Qi} (h : 1 ≤ port ∧ port ≤ z.length) (h1 : z.length = 1) : trmE z s port g = 4 := by rw [trmE, if_neg (fun k => k h), if_pos h1]
theorem trmE_d {z : List Qi} {s : List (List Qi)} {p : Nat} {g : Qi} (h : p < z.length) (h1 : ¬ z.length = 1) : trmE z s ((p : Int) + 1) g = if Qi.ofInt 1 - gm s p p * g = Qi.zero then 6 else 0 := by
  rw [trmE, if_neg (fun k => k (by omega)), if_neg h1, trm_p]
theorem trmF_fit {s : List (List Qi)} {p L : Nat} {g : Qi} (hs : FitM s L) (hg : FitC g L) (hL : 1 ≤ L) (hd : Qi.ofInt 1 - gm s p p * g ≠ Qi.zero) : FitC (trmF s p g) (7 * L + 11) := by
  haveI f0 := fit_one
  haveI f1 := hs.get hL p p
  haveI f2 := hg
  have f3 : FitC (Qi.ofInt 1 - gm s p p * g) (1 + (L + L + 1) + 1) := @fitSub _ _ _ _ f0 inferInstance
  have : FitC (trmF s p g) (L + 3 * (1 + (L + L + 1) + 1) + 2) := ⟨f2.fit.div f3.fit hd⟩
  exact this.le (by omega)
end Go.Proofs.YtbnpmobaglfcbaaGreat
namespace Go.Proofs.YtbnpmobaglfcbaaGreat
open Go Go.RowKit
abbrev gnI (G : List Nat) : List Int := G.map fun (q : Nat) => (q : Int) + 1
def lfG (G : List Nat) : Nat → List Nat
  | 0 => []
  | k + 1 => lfG G k ++ (if k ∈ G then [] else [k])
theorem lfG_len (G : List Nat) : ∀ k, (lfG G k).length ≤ k
  | 0 => Nat.le_refl _
  | k + 1 => by
    have := lfG_len G k
    simp only [lfG, List.length_append]
    split
    · simp; omega
    · simp; omega
theorem lfG_one {p : Nat} : ∀ {k : Nat}, lfG [p] k = tab (cnt p k) (skp p)
  | 0 => by rw [lfG, show cnt p 0 = 0 by unfold cnt; split <;> omega]; rfl
  | k + 1 => by
    rw [lfG, lfG_one]
    by_cases c : k = p
    · subst c
      rw [if_pos (by simp), List.append_nil, show cnt k (k + 1) = cnt k k by unfold cnt; split <;> split <;> omega]
    · rw [if_neg (by simpa using c)]
      have e1 : skp p (cnt p k) = k := by unfold skp cnt; split <;> split <;> omega
      have e2 : cnt p (k + 1) = cnt p k + 1 := by unfold cnt; split <;> split <;> omega
      rw [e2, tab_succ, e1]
theorem lfG_lft {p n : Nat} (h : p < n) : (lfG [p] n).map Nat.succ = lftL p (n - 1) := by rw [lfG_one, cnt_fin h, tab_map]; rfl
theorem gn_any {G : List Nat} {i : Nat} : ((gnI G).any fun x => decide (((i + 1 : Nat) : Int) = x)) = decide (i ∈ G) := by
  rw [Bool.eq_iff_iff]
  simp only [gnI, List.any_map, List.any_eq_true, Function.comp, decide_eq_true_eq]
  constructor
  · rintro ⟨q, h1, h2⟩
    obtain rfl : i = q := by omega
    exact h1
  · intro h; exact ⟨i, h, by omega⟩
abbrev qat (Q : List Nat) (i : Nat) : Nat := Q.getD i 0
def subZ (z : List Qi) (Q : List Nat) : List Qi := tab Q.length fun i => gv z (qat Q i)
def subM (s : List (List Qi)) (Q : List Nat) : List (List Qi) := tab Q.length fun i => tab Q.length fun j => gm s (qat Q i) (qat Q j)
theorem qat_lt {Q : List Nat} {n i : Nat} (h : ∀ x, x ∈ Q → x < n) (hi : i < Q.length) : qat Q i < n := h _ (by rw [show qat Q i = Q[i] by simp [qat, List.getD, hi]]; exact List.getElem_mem hi)
theorem suc_get {Q : List Nat} {i : Nat} (h : i < Q.length) : (Q.map Nat.succ)[i]? = some (qat Q i + 1) := by simp [qat, List.getD, h]
theorem tabQ_get {m i : Nat} {p : Nat} (h : i < m) : qat (tab m (skp p)) i = skp p i := tab_getD h
theorem subZ_skp (z : List Qi) (p m : Nat) : subZ z (tab m (skp p)) = prtZ z p m := by
  rw [subZ, tab_len]; exact tab_congr fun i hi => by rw [tabQ_get hi]
theorem subM_skp (s : List (List Qi)) (p m : Nat) : subM s (tab m (skp p)) = prtS s p m := by
  rw [subM, tab_len]; exact tab_congr fun i hi => tab_congr fun j hj => by rw [tabQ_get hi, tabQ_get hj]
theorem skp_all {p m n : Nat} (hp : p < n) (hm : m = n - 1) : ∀ x, x ∈ tab m (skp p) → x < n := fun x hx => by
  obtain ⟨i, hi, rfl⟩ := tab_mem.1 hx; exact skp_lt (by omega) hp
theorem lft_skp (p m : Nat) : (tab m (skp p)).map Nat.succ = lftL p m := by rw [tab_map]; rfl
end Go.Proofs.YtbnpmobaglfcbaaGreat
namespace Go.Proofs.YtbnpmobaglfcbaaGreat
open Go Go.RowKit
theorem info_3 : Tryz.prog.info? 3 = some Tryz.t3 := by kernel_rfl
theorem und_91 : Tryz.prog.underlying 91 = some (.slice 3) := by kernel_rfl
end Go.Proofs.YtbnpmobaglfcbaaGreat
namespace Go.Proofs.YtbnpmobaglfcbaaGreat
open Go Go.RowKit
set_option maxRecDepth 20000 in
theorem c_IndexInt {l : List Int} {v : Int} (hl : l.length ≤ 1000000) : Fun Tryz.prog 255 [SlT 1 (l.map (IntT .i64)), IntT .i64 v] (IntT .i64 (idxZ (fun x => decide (v = x)) l)) := by
 refine Fun.intro Tryz.func255 rfl Tryz.ntmps255 rfl (fun cx => (ts (ro rfl (op_assign (Has.cN 0)) (R_nil (T_seq (ts (rm rfl (ro rfl (op_len U_91 (Ht rfl) len_map) (ro rfl (op_move (Has.cN 0)) (R_nil (T_block ?_)))))))))))
 refine T_loop (fun (k : Nat) => k ≤ l.length ∧ ∀ (i : Nat) (x : Int), i < k → l[i]? = some x → decide (v = x) = false) (fun (k : Nat) => l.length - k) (fun (k : Nat) => [(0, SlT 1 (l.map (IntT .i64))), (1, IntT .i64 v), (7, NT .i64 l.length), (8, NT .i64 k)]) (fun (k : Nat) => []) 0 ⟨Nat.zero_le _, fun i x h => by omega⟩
  (Sub.cons rfl (Sub.cons rfl (Sub.cons rfl (Sub.cons rfl Sub.nil)))) HSub.nil (fun k ⟨hk, hn⟩ => ?_)
 refine ts (ro rfl (op_lssN (Ht rfl) (Ht rfl)) (R_nil (T_seq (T_cond (Ht rfl) (fun hb => ?_) (fun hb => ?_)))))
 ·simp only [decide_eq_true_eq] at hb
  refine T_skip (T_seq (T_block (ts (rm rfl (ra rfl (R_nil (ts (rm rfl (rm rfl (rm rfl (ro rfl (op_idx U_91 Z_3 (Ht rfl) (Ht rfl) rfl (map_get (getq hb))) (ro rfl (op_ld A_3 Z_3 (Ht rfl)) (ro rfl (op_eql (Ht rfl) (Ht rfl)) (R_nil (T_cond (Ht rfl) (fun hc => ?_) (fun hc => ?_))))))))))))))))
  ·refine ts (rm rfl (ra rfl (R_nil (T_ret1 rfl (rv_to (rv_tmp rfl) ?_)))))
   exact (int_of (idxZ_at (p := fun x => decide (v = x)) (getq hb) hc hn).symm)
  ·refine T_skip (T_blk (T_region (ro rfl (op_addN (Ht rfl) (Has.cN 1) (by show _ < 9223372036854775808; first | omega | (simp only [lim]; omega))) (rm rfl (R_nil ?_)))))
   refine T_again (k + 1) ⟨hb, fun i x h1 h2 => by
    by_cases e : i = k
    ·subst e; rw [getq hb] at h2; obtain rfl := Option.some.inj h2; exact hc
    ·exact hn i x (by omega) h2⟩ (by omega) (Sub.cons rfl (Sub.cons rfl (Sub.cons rfl (Sub.cons rfl Sub.nil)))) HSub.nil
 ·simp only [decide_eq_false_iff_not] at hb
  refine T_exit rfl (ts (ro rfl (op_assign Has.c) (R_nil (T_ret1 rfl (rv_to (rv_tmp rfl) ?_)))))
  exact (int_of (idxZ_none (p := fun x => decide (v = x)) (fun i x h => hn i x (by have := (List.getElem?_eq_some_iff.1 h).1; omega) h)).symm)
set_option maxRecDepth 20000 in
theorem c_ContainsInt {l : List Int} {v : Int} (hl : l.length ≤ 1000000) : Fun Tryz.prog 222 [SlT 1 (l.map (IntT .i64)), IntT .i64 v] (BoolT (l.any fun x => decide (v = x))) := by
 refine Fun.intro Tryz.func222 rfl Tryz.ntmps222 rfl (fun cx => (ts (ro rfl (op_assign Has.c) (R_nil (ts (rm rfl (rm rfl (ro rfl (op_call Tryz.call255 (c_IndexInt (by omega)) ⟨(Ht rfl), (Ht rfl), trivial⟩) (ro rfl (op_geq (Ht rfl) Has.c) (ra rfl (R_nil (T_ret1 rfl (rv_to (rv_tmp rfl) ?_)))))))))))))
 exact (bool_of (idxZ_any _ l))
set_option maxRecDepth 20000 in
theorem c_leftG {z : List Qi} {s : List (List Qi)} {G : List Nat} (hl : z.length ≤ 1000) (hG : G.length ≤ 1000) : Fun Tryz.prog 151 [NetT z s, SlT 1 ((gnI G).map (IntT .i64))] (IntsT ((lfG G z.length).map Nat.succ)) := by
 refine Fun.intro Tryz.func151 rfl Tryz.ntmps151 rfl (fun cx => (ts (rn rfl (new_box (Ht rfl)) fun B2 => (ro rfl (op_assign Has.c) (R_nil (ts (ro rfl (op_assign Has.c) (R_nil (T_seq (ts (ro rfl (op_assign (Has.cN 1)) (R_nil (T_block (T_row 3 1 ?_))))))))))))))
 refine T_loop2 (fun (i : Nat) (v : Value) => i ≤ z.length) (fun (i : Nat) (v : Value) => z.length - i) (fun (i : Nat) (v : Value) => [(1, SlT 1 ((gnI G).map (IntT .i64))), (2, PtrB B2 0), (5, Is v), (6, NT .i64 (i + 1))]) (fun (i : Nat) (v : Value) => [box B2 30 [NumsT z, NumM s], rowO 3 1 v (((lfG G i).map Nat.succ).map (NT .i64))]) 0 (.slice none 0 0) (Nat.zero_le _)
  (Sub.cons rfl (Sub.cons rfl (Sub.cons rfl (Sub.cons rfl Sub.nil)))) (HSub.cons (box_of rfl) (HSub.cons (rowO_of rfl) HSub.nil)) (fun i v hi => ?_)
 refine T_seq (ts (rm rfl (ro rfl (op_fldB fa_30_0 (Ht rfl) rfl) (ro rfl (op_ldB A_27 Z_27 (Ht rfl) (i := 0) rfl rfl) (ro rfl (op_len U_27 (Ht rfl) len_map) (ro rfl (op_leqN (Ht rfl) (Ht rfl)) (R_nil (T_cond (Ht rfl) (fun hd => ?_) (fun hd => ?_)))))))))
 ·simp only [decide_eq_true_eq] at hd
  have hcl := lfG_len G i
  refine T_skip (T_seq (T_block (T_join (fun (v2 : Value) => True) (fun (v2 : Value) => [(1, SlT 1 ((gnI G).map (IntT .i64))), (2, PtrB B2 0), (5, Is v2), (6, NT .i64 (i + 1))]) (fun (v2 : Value) => [box B2 30 [NumsT z, NumM s], rowO 3 1 v2 (((lfG G (i + 1)).map Nat.succ).map (NT .i64))]) ?_ (fun v2 _ => ?_))))
  ·refine ts (rm rfl (rm rfl (ro rfl (op_call Tryz.call222 (c_ContainsInt (l := gnI G) (v := ((i + 1 : Nat) : Int)) (by rw [List.length_map]; omega)) ⟨(Ht rfl), (Ht rfl), trivial⟩) ?_)))
   refine ro rfl (op_not (Ht rfl)) (R_nil (T_cond (Ht rfl) (fun he => ?_) (fun he => ?_)))
   ·rw [gn_any] at he
    have he2 : i ∉ G := by simpa using he
    have hnx : lfG G (i + 1) = lfG G i ++ [i] := by rw [lfG, if_neg he2]
    refine T_region (rm rfl (rm rfl (ro rfl (op_bslice (xs := [.tmp 19]) U_91 Z_3 Tryz.zeroValue3 (Elems.cons (Ht rfl) Elems.nil) rfl rfl rfl) (R_append (inf := Tryz.t3) und_91 info_3 rfl rfl rfl (Ht rfl) (Ht rfl) (i := 1) rfl (by simp) (fun T hT => by simp at hT; subst hT; exact El.one) (by show _ * 8 ≤ _; simp only [List.length_map, List.length_cons, List.length_nil]; omega) (by simp only [List.length_map, List.length_cons, List.length_nil]; omega) rfl (fun v3 => ?_)))))
    refine ra rfl (R_nil (T_joined v3 trivial (Sub.cons rfl (Sub.cons rfl (Sub.cons rfl (Sub.cons rfl Sub.nil)))) (HSub.cons (box_of rfl) (HSub.cons (rowO_of (by rw [hnx, List.map_append, List.map_append]; rfl)) HSub.nil))))
   ·rw [gn_any] at he
    have he2 : i ∈ G := by simpa using he
    have hnx : lfG G (i + 1) = lfG G i := by rw [lfG, if_pos he2, List.append_nil]
    refine T_skip (T_joined v trivial (Sub.cons rfl (Sub.cons rfl (Sub.cons rfl (Sub.cons rfl Sub.nil)))) (HSub.cons (box_of rfl) (HSub.cons (rowO_of (by rw [hnx])) HSub.nil)))
  ·refine T_blk (T_region (rm rfl (ro rfl (op_addN (Ht rfl) (Has.cN 1) (by show _ < 9223372036854775808; first | omega | (simp only [lim]; omega))) (ra rfl (R_nil (T_again (i + 1, v2) hd (by dsimp only; omega) (Sub.cons rfl (Sub.cons rfl (Sub.cons rfl (Sub.cons rfl Sub.nil)))) (HSub.refl _)))))))
 ·simp only [decide_eq_false_iff_not] at hd
  obtain rfl : z.length = i := Nat.le_antisymm (by omega) hi
  refine T_exit rfl (T_freeze (i := 1) (tt := 5) rfl rfl frz_row (ts (rm rfl (ra rfl (R_nil ?_)))))
  exact T_ret1 rfl (rv_tmp rfl)
theorem c_left {z : List Qi} {s : List (List Qi)} {p : Nat} (hp : p < z.length) (hl : z.length ≤ 1000) : Fun Tryz.prog 151 [NetT z s, SlT 1 [IntT .i64 ((p : Int) + 1)]] (IntsT (lftL p (z.length - 1))) := by
  rw [← lfG_lft hp]; exact c_leftG (G := [p]) hl (by simp)
set_option maxRecDepth 20000 in
theorem c_part1 {z : List Qi} {s : List (List Qi)} {Q : List Nat} {m : Nat} (hs : Shp s z.length z.length) (hQ : ∀ x, x ∈ Q → x < z.length) (hm : Q.length = m) (hm2 : m ≤ 1000) (hl : z.length ≤ 1000) {i j : Nat} (hi : i < m) (hj : j < m) : Fun Tryz.prog 223 [NT .i64 i, NT .i64 j, PT (NetT z s), PT (IntsT (Q.map Nat.succ))] (NumT (gm s (qat Q i) (qat Q j))) := by
 have hki : qat Q i < z.length := qat_lt hQ (by omega)
 have hkj : qat Q j < z.length := qat_lt hQ (by omega)
 have hsl := hs.1
 have hsr := hs.row hki
 refine Fun.intro Tryz.func223 rfl Tryz.ntmps223 rfl (fun cx => (ts (rn rfl (new_alloc (Ts := [Is (.bool false), Is (.slice none 0 0), Is (.bool false), Is (.slice none 0 0), Is (.slice none 0 0)]) O_49 rfl (fun V => Cells.cons' ⟨rfl, trivial⟩ (Cells.cons' ⟨rfl, trivial⟩ (Cells.cons' ⟨rfl, trivial⟩ (Cells.cons' ⟨rfl, trivial⟩ (Cells.cons' ⟨rfl, trivial⟩ (Cells.nil))))))) fun B6 => (R_nil (T_seq (C.D_start (m := 14) (dp 2 rfl (op_fld1 fa_30_1 (Ht rfl) rfl) (dq 7 0 rfl (op_ld A_28 Z_28 (Ht rfl)) (dp 3 rfl (op_ld A_91 Z_91 (Ht rfl)) (dp 0 rfl (op_move (Ht rfl)) ?_))))))))))
 refine dqq 9 2 10 3 rfl (op_idx U_91 Z_3 (Ht rfl) (Ht rfl) rfl (map_get (suc_get (by omega)))) (dq 11 4 rfl (op_ld A_3 Z_3 (Ht rfl)) (dq 12 5 rfl (OpTy.nat (op_subN (Ht rfl) (Has.cN 1) (by omega) (by show _ < 9223372036854775808; first | omega | (simp only [lim]; omega))) (show qat Q i + 1 - 1 = qat Q i by omega)) (dqq 8 1 13 6 rfl (op_idx U_28 Z_27 (Ht rfl) (Ht rfl) rfl (map_get (getD_some (d := []) (by omega)))) (dq 14 7 rfl (op_ld A_27 Z_27 (Ht rfl)) (dp 3 rfl (op_ld A_91 Z_91 (Ht rfl)) ?_)))))
 refine dp 1 rfl (op_move (Ht rfl)) (dqq 16 9 17 10 rfl (op_idx U_91 Z_3 (Ht rfl) (Ht rfl) rfl (map_get (suc_get (by omega)))) (dq 18 11 rfl (op_ld A_3 Z_3 (Ht rfl)) (dq 19 12 rfl (OpTy.nat (op_subN (Ht rfl) (Has.cN 1) (by omega) (by show _ < 9223372036854775808; first | omega | (simp only [lim]; omega))) (show qat Q j + 1 - 1 = qat Q j by omega)) (C.D_done mixed rfl (by kernel_rfl) (C.F_val (C.F_val (C.F_val (C.F_val (C.F_val (C.F_val (C.F_val (C.F_val (C.F_val (C.F_val (C.F_val (C.F_val (C.F_val (C.F_val (C.F_nil (ro rfl (op_idx U_27 Z_49 (Ht rfl) (Ht rfl) rfl (map_get (getD_some (d := Qi.zero) (by omega)))) ?_))))))))))))))))))))
 refine ro rfl (op_ld A_49 Z_49 (Ht rfl)) (R_stA Z_49 (Ht rfl) (Ht rfl) rfl (i := 0) rfl (Nat.le_of_ble_eq_true rfl) rfl rfl (R_nil ?_))
 exact T_ret1 rfl (rv_cell A_49 Z_49 rfl (i := 0) rfl rfl)
set_option maxRecDepth 20000 in
theorem c_partG {z : List Qi} {s : List (List Qi)} {Q : List Nat} {m : Nat} (hs : Shp s z.length z.length) (hQ : ∀ x, x ∈ Q → x < z.length) (hm : Q.length = m) (hm2 : m ≤ 1000) (hl : z.length ≤ 1000) : FunO Tryz.prog 147 [NetT z s, IntsT (Q.map Nat.succ)] [] (Nat) (fun B => AggT [NumsT (subZ z Q), Is (.slice (some ⟨B, 0, none⟩) m m)]) (fun B => [matO B 27 49 5 (FRow NumT (subM s Q))]) (fun _ => True) := by
 have hll : (Q.map Nat.succ).length = m := by rw [List.length_map]; exact hm
 refine FunO.intro Tryz.func147 rfl Tryz.ntmps147 rfl (fun cx Z => (ts (rn rfl (new_box (Ht rfl)) fun B2 => (rn rfl (new_box1 (Ht rfl)) fun B3 => (rn rfl (new_alloc (Ts := [Is (.slice none 0 0), Is (.slice none 0 0)]) O_30 rfl (fun V => Cells.cons' ⟨rfl, trivial⟩ (Cells.cons' ⟨rfl, trivial⟩ (Cells.nil)))) fun B4 => (R_nil (T_seq (T_freeze (i := 1) (tt := 2) rfl rfl frz_ptr (T_freeze (i := 2) (tt := 3) rfl rfl frz_ptr1 (T_region (ro rfl (op_ld A_91 Z_91 (Ht rfl)) (ro rfl (op_len U_91 (Ht rfl) (by rw [List.length_map, hll])) ?_))))))))))))
 refine rn rfl (new_makeO (T := NumT Qi.zero) (i := Tryz.t49) und_27 info_49 rfl rfl (Ht rfl) rfl num_zero_p (El.ag rfl) (by show 88 * _ ≤ _; omega) (by omega)) fun B10 => ra rfl (R_nil (T_seq (ts (ro rfl (op_ld A_91 Z_91 (Ht rfl)) (ro rfl (op_len U_91 (Ht rfl) (by rw [List.length_map, hll])) ?_)))))
 refine ro rfl (op_move (Has.cN 0)) (R_nil (T_block (T_keep [0, 3, 4] rfl (by decide) ?_)))
 refine T_loop (fun (i : Nat) => i ≤ m) (fun (i : Nat) => m - i) (fun (i : Nat) => [(2, PT (NetT z s)), (3, PT (IntsT (Q.map Nat.succ))), (4, PtrB B4 0), (5, Is B10), (11, IntsT (Q.map Nat.succ)), (12, NT .i64 m), (13, NT .i64 i)]) (fun (i : Nat) => [Z, box B4 30 [Is (.slice none 0 0), Is (.slice none 0 0)], rowO 49 5 B10 ((mixT (fun i => gv z (qat Q i)) Qi.zero m i).map NumT)]) 0 (Nat.zero_le _)
  (Sub.cons rfl (Sub.cons rfl (Sub.cons rfl (Sub.cons rfl (Sub.cons rfl (Sub.cons rfl (Sub.cons rfl Sub.nil))))))) (HSub.cons (fun _ _ _ h => h) (HSub.cons (fun _ _ _ h => h) (HSub.cons (rowO_of (by rw [← mix_zero]; exact tab_rep NumT m)) HSub.nil))) (fun i hi => ?_)
 refine ts (ro rfl (op_lssN (Ht rfl) (Ht rfl)) (R_nil (T_seq (T_cond (Ht rfl) (fun hd => ?_) (fun hd => ?_)))))
 ·simp only [decide_eq_true_eq] at hd
  have hki : qat Q i < z.length := qat_lt hQ (by omega)
  refine T_skip (T_seq (T_block (ts (rm rfl (ro rfl (op_idx U_91 Z_3 (Ht rfl) (Ht rfl) rfl (map_get (suc_get (by omega)))) (ro rfl (op_ld A_3 Z_3 (Ht rfl)) (ra rfl (ra rfl (R_nil (T_region (rm rfl (rm rfl (ro rfl (op_fld1 fa_30_0 (Ht rfl) rfl) (ro rfl (op_ld A_27 Z_27 (Ht rfl)) (rm rfl (ro rfl (OpTy.nat (op_subN (Ht rfl) (Has.cN 1) (by omega) (by show _ < 9223372036854775808; first | omega | (simp only [lim]; omega))) (show qat Q i + 1 - 1 = qat Q i by omega)) (ro rfl (op_idx U_27 Z_49 (Ht rfl) (Ht rfl) rfl (map_get (getD_some (d := Qi.zero) hki))) ?_)))))))))))))))))
  refine ro rfl (op_ld A_49 Z_49 (Ht rfl)) (ro rfl (op_idxO U_27 Z_49 (Ht rfl) (Ht rfl) rfl (i := 2) rfl (by rw [List.length_map, mix_len]; omega) rfl) ?_)
  refine R_stO Z_49 (Ht rfl) (Ht rfl) (El.ag rfl) (i := 2) rfl rfl (by rw [List.length_map, mix_len]; omega) rfl ?_
  refine R_nil (T_blk (T_region (ro rfl (op_addN (Ht rfl) (Has.cN 1) (by show _ < 9223372036854775808; first | omega | (simp only [lim]; omega))) (rm rfl (R_nil (T_again (i + 1) hd (by omega) (Sub.cons rfl (Sub.cons rfl (Sub.cons rfl (Sub.cons rfl (Sub.cons rfl (Sub.cons rfl (Sub.cons rfl Sub.nil))))))) (HSub.cons (fun _ _ _ h => h) (HSub.cons (fun _ _ _ h => h) (HSub.cons (rowO_of (by rw [set_mapF, ← mix_set (f := (fun i => gv z (qat Q i)))])) HSub.nil)))))))))
 ·simp only [decide_eq_false_iff_not] at hd
  obtain rfl : m = i := Nat.le_antisymm (by omega) hi
  rw [mix_fin]
  refine T_exit rfl (T_freeze (i := 2) (tt := 5) rfl rfl frz_row ?_)
  rw [show subZ z Q = tab m fun i => gv z (qat Q i) from by rw [subZ, hm], show subM s Q = tab m fun i => tab m fun j => gm s (qat Q i) (qat Q j) from by rw [subM, hm]]
  refine ts (rm rfl (ro rfl (op_ld A_91 Z_91 (Ht rfl)) (ro rfl (op_len U_91 (Ht rfl) (by rw [List.length_map, hll])) ?_)))
  refine ro rfl (op_clos (γ := Fin m × Fin m) (Ts := fun x => [NT .i64 x.1.1, NT .i64 x.2.1]) (U := fun x => NumT (gm s (qat Q x.1.1) (qat Q x.2.1))) Tryz.call223 (fun x => c_part1 hs hQ hm hm2 hl x.1.2 x.2.2) ⟨(Ht rfl), (Ht rfl), trivial⟩) (R_call0 Tryz.call85 (c_fillO (n := m) (f := fun i j => gm s (qat Q i) (qat Q j)) (by omega)) ⟨(Ht rfl), (Ht rfl), trivial⟩ rfl (fun B32 _ => (ro rfl (bld_30_0_1 (Ht rfl) (Ht rfl)) (R_stA Z_30 (Ht rfl) (Ht rfl) rfl (i := 1) rfl (Nat.le_of_ble_eq_true rfl) rfl rfl (R_nil ?_)))))
  exact T_retO B32 trivial [0, 3] ⟨⟨_, rfl, fun _ _ _ h => h⟩, ⟨_, rfl, fun _ _ _ h => h⟩, trivial⟩ (by decide) (rvs1 rfl (rv_cell A_30 Z_30 rfl (i := 1) rfl rfl))
theorem c_partO {z : List Qi} {s : List (List Qi)} {p m : Nat} (hs : Shp s z.length z.length) (hp : p < z.length) (hm : m = z.length - 1) (hl : z.length ≤ 1000) : FunO Tryz.prog 147 [NetT z s, IntsT (lftL p m)] [] Nat (fun B => AggT [NumsT (prtZ z p m), Is (.slice (some ⟨B, 0, none⟩) m m)]) (fun B => [matO B 27 49 5 (FRow NumT (prtS s p m))]) (fun _ => True) := by
  have h := c_partG (Q := tab m (skp p)) hs (skp_all hp hm) (tab_len _ _) (by omega) hl
  rw [subZ_skp, subM_skp, lft_skp] at h
  exact h
set_option maxRecDepth 20000 in
theorem c_whole {n : Int} (h1 : -9223372036854775808 ≤ n) (h2 : n ≤ 9223372036854775807) : Fun Tryz.prog 99 [IntT .i64 n] (NumT (Qi.ofInt n)) := by
 refine Fun.intro Tryz.func99 rfl Tryz.ntmps99 rfl (fun cx => (ts (rn rfl (new_alloc (Ts := [Is (.bool false), Is (.slice none 0 0), Is (.bool false), Is (.slice none 0 0), Is (.slice none 0 0)]) O_49 rfl (fun V => Cells.cons' ⟨rfl, trivial⟩ (Cells.cons' ⟨rfl, trivial⟩ (Cells.cons' ⟨rfl, trivial⟩ (Cells.cons' ⟨rfl, trivial⟩ (Cells.cons' ⟨rfl, trivial⟩ (Cells.nil))))))) fun B2 => (R_nil (ts (rn rfl (new_alloc (Ts := [Is (.bool false), Is (.slice none 0 0), Is (.bool false), Is (.slice none 0 0), Is (.slice none 0 0)]) O_49 rfl (fun V => Cells.cons' ⟨rfl, trivial⟩ (Cells.cons' ⟨rfl, trivial⟩ (Cells.cons' ⟨rfl, trivial⟩ (Cells.cons' ⟨rfl, trivial⟩ (Cells.cons' ⟨rfl, trivial⟩ (Cells.nil))))))) fun B3 => ?_))))))
 refine R_nil (T_seq (C.D_start (m := 4) (dp 3 rfl (op_ldBA A_49 Z_49 (Ht rfl) (i := 1) rfl rfl rfl) (dq 4 0 rfl (op_iface mkif_49 (Ht rfl)) (dp 0 rfl (op_move (Ht rfl)) (dq 6 2 rfl (op_call Tryz.call95 (c_Int (n := n) h1 h2) ⟨(Ht rfl), trivial⟩) (C.D_done mixed rfl (by kernel_rfl) (C.F_val (C.F_val (C.F_val (C.F_val (C.F_nil (ro rfl (op_invoke meth_49_Of Tryz.call292 c_OfZ (Ht rfl) ⟨(Ht rfl), trivial⟩) (R_stA Z_49 (Ht rfl) (Ht rfl) rfl (i := 0) rfl (Nat.le_of_ble_eq_true rfl) rfl rfl (R_nil ?_)))))))))))))))
 exact T_ret1 rfl (rv_cell A_49 Z_49 rfl (i := 0) rfl rfl)
end Go.Proofs.YtbnpmobaglfcbaaGreat
namespace Go.Proofs.YtbnpmobaglfcbaaGreat
open Go Go.RowKit
set_option maxHeartbeats 1000000 in
set_option maxRecDepth 20000 in
theorem c_Term {z : List Qi} {s : List (List Qi)} {port : Int} {g : Qi} {L : Nat} (hs : Shp s z.length z.length) (hf : FitM s L) (hg : FitC g L) (hL : 1 ≤ L) (hLb : L ≤ 1000000) (hl : z.length ≤ 1000) : Fun Tryz.prog 62 [NetT z s, IntT .i64 port, NumT g] (TupT [NetT (trmRZ z s port g) (trmRS z s port g), IntT .i64 (trmE z s port g)]) := by
 haveI := hg
 have hsl := hs.1
 refine Fun.intro Tryz.func62 rfl Tryz.ntmps62 rfl (fun cx => (ts (rn rfl (new_box (Ht rfl)) fun B3 => (rn rfl (new_box (Ht rfl)) fun B5 => (rn rfl (new_alloc (Ts := [Is (.slice none 0 0), Is (.slice none 0 0)]) O_30 rfl (fun V => Cells.cons' ⟨rfl, trivial⟩ (Cells.cons' ⟨rfl, trivial⟩ (Cells.nil)))) fun B6 => (ro rfl (op_assign (Has.cN 0)) (R_nil (T_seq (T_block (ts (ro rfl (op_ldBA A_30 Z_30 (Ht rfl) (i := 0) rfl rfl rfl) (rm rfl (ro rfl (op_call Tryz.call165 c_has ⟨(Ht rfl), (Ht rfl), trivial⟩) (ro rfl (op_not (Ht rfl)) (ra rfl (R_nil (T_cond (Ht rfl) (fun hb => ?_) (fun hb => ?_))))))))))))))))))
 ·have he : trmE z s port g = 1 := trmE_1 (by simpa only [Bool.not_eq_true', decide_eq_false_iff_not] using hb)
  refine ts (ro rfl (OpTy.imp (bld_30_ ) net_nil) (R_stA Z_30 (Ht rfl) (Ht rfl) rfl (i := 2) rfl (Nat.le_of_ble_eq_true rfl) rfl rfl (ro rfl (op_assign (Has.cN 1)) (R_nil (T_ret2 rfl (rv_to (rv_cell A_30 Z_30 rfl (i := 2) rfl rfl) ?_) (rv_to (rv_tmp rfl) ?_))))))
  ·exact (trm_bad he (by decide))
  ·exact (int_of he.symm)
 ·have hb2 : 1 ≤ port ∧ port ≤ (z.length : Int) := by simpa using hb
  obtain ⟨p, rfl⟩ : ∃ p : Nat, port = (p : Int) + 1 := ⟨(port - 1).toNat, by omega⟩
  have hp : p < z.length := by omega
  refine ts (ro rfl (op_fldB fa_30_0 (Ht rfl) rfl) (ro rfl (op_ldB A_27 Z_27 (Ht rfl) (i := 0) rfl rfl) (ro rfl (op_len U_27 (Ht rfl) len_map) (ro rfl (op_eqlN (Ht rfl) (Has.cN 1)) (ra rfl (R_nil (T_cond (Ht rfl) (fun hc => ?_) (fun hc => ?_))))))))
  ·have he : trmE z s ((p : Int) + 1) g = 4 := trmE_4 hb2 (by simpa using hc)
   refine ts (ro rfl (OpTy.imp (bld_30_ ) net_nil) (R_stA Z_30 (Ht rfl) (Ht rfl) rfl (i := 2) rfl (Nat.le_of_ble_eq_true rfl) rfl rfl (ro rfl (op_assign (Has.cN 4)) (R_nil (T_ret2 rfl (rv_to (rv_cell A_30 Z_30 rfl (i := 2) rfl rfl) ?_) (rv_to (rv_tmp rfl) ?_))))))
   ·exact (trm_bad he (by decide))
   ·exact (int_of he.symm)
  ·have hn1 : ¬ z.length = 1 := by simpa using hc
   have htd := trmE_d (s := s) (g := g) hp hn1
   obtain ⟨m, hm⟩ : ∃ m, m = z.length - 1 := ⟨_, rfl⟩
   have hspl := hs.row hp
   haveI f0 : FitC (Qi.ofInt 1) 1 := fit_one
   haveI f1 : FitC (gm s p p) L := hf.get hL p p
   refine T_skip (T_blk (ts (rm rfl (ro rfl (op_sub (Ht rfl) Has.c (r := ((p : Nat) : Int)) ((w64 (z := (p : Int) + 1 - 1) (by omega)).trans (by omega))) ?_))))
   refine ra rfl (R_nil (T_seq (Y.D_start (m := 22) [] (Y.D_hide (Ei := [(5, _)]) rfl rfl (Y.Srcs.cons (Y.Src.pre rfl rfl) Y.Srcs.nil) rfl rfl (S_plain rfl (op_ldBA A_49 Z_49 (Ht rfl) (i := 1) rfl rfl rfl)) (Y.D_hide (Ei := [(32, _)]) rfl rfl (Y.Srcs.cons (Y.Src.op 0 rfl rfl) Y.Srcs.nil) rfl rfl (S_plain rfl (op_iface mkif_49 (Ht rfl))) (Y.D_hide (Ei := []) rfl rfl Y.Srcs.nil rfl rfl (S_plain rfl (op_call Tryz.call99 (c_whole (n := 1) (by decide) (by decide)) ⟨(Has.cN 1), trivial⟩)) (Y.D_hide (Ei := [(34, _)]) rfl rfl (Y.Srcs.cons (Y.Src.op 2 rfl rfl) Y.Srcs.nil) rfl rfl (S_plain rfl (op_iface mkif_49 (Ht rfl))) ?_)))))))
   refine Y.D_hide (Ei := [(3, _)]) rfl rfl (Y.Srcs.cons (Y.Src.pre rfl rfl) Y.Srcs.nil) rfl rfl (S_plain rfl (op_fldB fa_30_1 (Ht rfl) rfl)) (Y.D_hide (Ei := [(36, _)]) rfl rfl (Y.Srcs.cons (Y.Src.op 4 rfl rfl) Y.Srcs.nil) rfl rfl (S_plain rfl (op_ldB A_28 Z_28 (Ht rfl) (i := 0) rfl rfl)) (Y.D_hide (Ei := [(8, _)]) rfl rfl (Y.Srcs.cons (Y.Src.pre rfl rfl) Y.Srcs.nil) rfl rfl (S_plain rfl (op_move (Ht rfl))) (Y.D_hide (Ei := [(37, _), (38, _)]) rfl rfl (Y.Srcs.cons (Y.Src.op 5 rfl rfl) (Y.Srcs.cons (Y.Src.op 6 rfl rfl) Y.Srcs.nil)) rfl rfl (S_plain rfl (op_idx U_28 Z_27 (Ht rfl) (Ht rfl) rfl (map_get (getD_some (d := []) (by omega))))) ?_)))
   refine Y.D_hide (Ei := [(39, _)]) rfl rfl (Y.Srcs.cons (Y.Src.op 7 rfl rfl) Y.Srcs.nil) rfl rfl (S_plain rfl (op_ld A_27 Z_27 (Ht rfl))) (Y.D_hide (Ei := [(8, _)]) rfl rfl (Y.Srcs.cons (Y.Src.pre rfl rfl) Y.Srcs.nil) rfl rfl (S_plain rfl (op_move (Ht rfl))) (Y.D_hide (Ei := [(40, _), (41, _)]) rfl rfl (Y.Srcs.cons (Y.Src.op 8 rfl rfl) (Y.Srcs.cons (Y.Src.op 9 rfl rfl) Y.Srcs.nil)) rfl rfl (S_plain rfl (op_idx U_27 Z_49 (Ht rfl) (Ht rfl) rfl (map_get (getD_some (d := Qi.zero) (by omega))))) (Y.D_hide (Ei := [(42, _)]) rfl rfl (Y.Srcs.cons (Y.Src.op 10 rfl rfl) Y.Srcs.nil) rfl rfl (S_plain rfl (op_ld A_49 Z_49 (Ht rfl))) ?_)))
   refine Y.D_hide (Ei := [(43, _)]) rfl rfl (Y.Srcs.cons (Y.Src.op 11 rfl rfl) Y.Srcs.nil) rfl rfl (S_plain rfl (op_iface mkif_49 (Ht rfl))) (Y.D_hide (Ei := [(5, _)]) rfl rfl (Y.Srcs.cons (Y.Src.pre rfl rfl) Y.Srcs.nil) rfl rfl (S_plain rfl (op_ldBA A_49 Z_49 (Ht rfl) (i := 1) rfl rfl rfl)) (Y.D_hide (Ei := [(44, _), (45, _)]) rfl rfl (Y.Srcs.cons (Y.Src.op 12 rfl rfl) (Y.Srcs.cons (Y.Src.op 13 rfl rfl) Y.Srcs.nil)) rfl rfl (S_plain rfl (op_invoke meth_49_Mul K_69 (c_Mul (x := gm s p p) (y := g) (L := L) (M := L) (by omega)) (Ht rfl) ⟨(Ht rfl), trivial⟩)) (Y.D_hide (Ei := [(35, _), (46, _)]) rfl rfl (Y.Srcs.cons (Y.Src.op 3 rfl rfl) (Y.Srcs.cons (Y.Src.op 14 rfl rfl) Y.Srcs.nil)) rfl rfl (S_plain rfl (op_invoke meth_49_Sub Tryz.call68 (c_Sub (x := Qi.ofInt 1) (y := gm s p p * g) (L := 1) (M := L + L + 1) (hx := f0) (by omega)) (Ht rfl) ⟨(Ht rfl), trivial⟩)) ?_)))
   refine Y.D_hide (Ei := [(33, _), (47, _)]) rfl rfl (Y.Srcs.cons (Y.Src.op 1 rfl rfl) (Y.Srcs.cons (Y.Src.op 15 rfl rfl) Y.Srcs.nil)) rfl rfl (S_plain rfl (op_invoke meth_49_Div Tryz.call61 (c_Div (x := g) (y := Qi.ofInt 1 - gm s p p * g) (L := L) (M := 1 + (L + L + 1) + 1) (hy := @fitSub _ _ _ _ f0 inferInstance) (by omega)) (Ht rfl) ⟨(Ht rfl), trivial⟩)) (Y.D_hide (Ei := [(48, _)]) rfl rfl (Y.Srcs.cons (Y.Src.op 16 rfl rfl) Y.Srcs.nil) rfl rfl (S_plain rfl (op_move (Ht rfl))) (Y.D_hide (Ei := [(31, _)]) rfl rfl (Y.Srcs.cons (Y.Src.op 17 rfl rfl) Y.Srcs.nil) rfl rfl (S_plain rfl (op_extract (Ht rfl) rfl)) ?_))
   refine Y.D_hide (Ei := [(31, _)]) rfl rfl (Y.Srcs.cons (Y.Src.op 17 rfl rfl) Y.Srcs.nil) rfl rfl (S_plain rfl (op_extract (Ht rfl) rfl)) (Y.D_newp (Ei := []) (fun bb => box bb 49 [BoolT (decide ((trmF s p g).a < 0)), NatT (trmF s p g).a.natAbs, BoolT (decide ((trmF s p g).b < 0)), NatT (trmF s p g).b.natAbs, NatT (du (trmF s p g))]) 21 rfl rfl rfl Y.Srcs.nil rfl rfl (by kernel_rfl) (new_alloc (Ts := [Is (.bool false), Is (.slice none 0 0), Is (.bool false), Is (.slice none 0 0), Is (.slice none 0 0)]) O_49 rfl (fun V => Cells.cons' ⟨rfl, trivial⟩ (Cells.cons' ⟨rfl, trivial⟩ (Cells.cons' ⟨rfl, trivial⟩ (Cells.cons' ⟨rfl, trivial⟩ (Cells.cons' ⟨rfl, trivial⟩ (Cells.nil))))))) ?_)
   refine Y.D_putN (Ei := [(49, _)]) 20 rfl rfl rfl rfl rfl rfl (Y.Srcs.cons (Y.Src.op 18 rfl rfl) Y.Srcs.nil) (fun bb => P_stA Z_49 (Ht rfl) (Ht rfl) rfl (i := 0) rfl (Nat.le_of_ble_eq_true rfl) rfl rfl) (Y.D_done mixed rfl (by kernel_rfl) rfl (by simp [Y.okP]) rfl rfl (Y.F_val (Y.F_val (Y.F_val (Y.F_val (Y.F_val (Y.F_val (Y.F_val (Y.F_val (Y.F_val (Y.F_val (Y.F_val (Y.F_val (Y.F_val (Y.F_val (Y.F_val (Y.F_val (Y.F_val (Y.F_val (Y.F_val (Y.F_val (Y.F_newp (fun B9 => Y.F_putN (Y.F_nil ?_))))))))))))))))))))))))
   refine ra rfl (R_nil (T_seq (ts (rm rfl (ro rfl (op_neq (Ht rfl) Has.c) (R_nil (T_cond (Ht rfl) (fun he => ?_) (fun he => ?_))))))))
   ·have hz : Qi.ofInt 1 - gm s p p * g = Qi.zero := by simp at he; exact he
    have he : trmE z s ((p : Int) + 1) g = 6 := by rw [htd, if_pos hz]
    refine ts (ro rfl (OpTy.imp (bld_30_ ) net_nil) (R_stA Z_30 (Ht rfl) (Ht rfl) rfl (i := 2) rfl (Nat.le_of_ble_eq_true rfl) rfl rfl (ro rfl (op_assign (Has.cN 6)) (R_nil (T_ret2 rfl (rv_to (rv_cell A_30 Z_30 rfl (i := 2) rfl rfl) ?_) (rv_to (rv_tmp rfl) ?_))))))
    ·exact (trm_bad he (by decide))
    ·exact (int_of he.symm)
   ·have hz : Qi.ofInt 1 - gm s p p * g ≠ Qi.zero := by simp at he; exact he
    have he : trmE z s ((p : Int) + 1) g = 0 := by rw [htd, if_neg hz]
    haveI ff : FitC (trmF s p g) (7 * L + 11) := trmF_fit hf hg hL hz
    have hll : (lftL p m).length = m := tab_len _ _
    refine T_skip (ts (ro rfl (op_ldBA A_30 Z_30 (Ht rfl) (i := 0) rfl rfl rfl) (rm rfl (ro rfl (op_bslice (xs := [.tmp 55]) U_91 Z_3 Tryz.zeroValue3 (Elems.cons (Ht rfl) Elems.nil) rfl rfl rfl) (ro rfl (op_call Tryz.call151 (Fun.imp (c_left (z := z) (s := s) (p := p) hp hl) (slT_of (by rw [← hm]))) ⟨(Ht rfl), (Ht rfl), trivial⟩) ?_)))))
    refine ra rfl (R_nil (ts (ro rfl (op_ldBA A_30 Z_30 (Ht rfl) (i := 0) rfl rfl rfl) (rm rfl (R_call0 Tryz.call147 (c_partO (p := p) (m := m) hs hp hm hl) ⟨(Ht rfl), (Ht rfl), trivial⟩ rfl (fun B60 _ => (rn rfl (new_alloc (Ts := [Is (.slice none 0 0), Is (.slice none 0 0)]) O_30 rfl (fun V => Cells.cons' ⟨rfl, trivial⟩ (Cells.cons' ⟨rfl, trivial⟩ (Cells.nil)))) fun B12 => (R_stA Z_30 (Ht rfl) (Ht rfl) rfl (i := 5) rfl (Nat.le_of_ble_eq_true rfl) rfl rfl (R_nil (T_seq (ts (rm rfl (ro rfl (op_len U_91 (Ht rfl) (by rw [List.length_map, hll])) ?_)))))))))))))
    refine ro rfl (op_move (Has.cN 0)) (R_nil (T_block (T_keep [0, 2, 3, 4, 5] rfl (by decide) ?_)))
    refine T_loop (fun (i : Nat) => i ≤ m) (fun (i : Nat) => m - i) (fun (i : Nat) => [(3, PtrB B3 0), (6, PtrB B6 0), (8, NT .i64 p), (9, PtrB B9 0), (11, IntsT (lftL p m)), (12, PtrB B12 0), (61, IntsT (lftL p m)), (62, NT .i64 m), (63, NT .i64 i)]) (fun (i : Nat) => [box B3 30 [NumsT z, NumM s], box B6 30 [Is (.slice none 0 0), Is (.slice none 0 0)], box B9 49 [BoolT (decide ((trmF s p g).a < 0)), NatT (trmF s p g).a.natAbs, BoolT (decide ((trmF s p g).b < 0)), NatT (trmF s p g).b.natAbs, NatT (du (trmF s p g))], matO B60 27 49 5 (FRow NumT (mixG (fun i => tab m fun j => trmX s p (trmF s p g) i j) (fun i => tab m fun j => gm s (skp p i) (skp p j)) m i)), box B12 30 [NumsT (prtZ z p m), Is (.slice (some ⟨B60, 0, none⟩) m m)]]) 0 (Nat.zero_le _)
     (Sub.cons rfl (Sub.cons rfl (Sub.cons rfl (Sub.cons rfl (Sub.cons rfl (Sub.cons rfl (Sub.cons rfl (Sub.cons rfl (Sub.cons rfl Sub.nil))))))))) (HSub.cons (fun _ _ _ h => h) (HSub.cons (fun _ _ _ h => h) (HSub.cons (box_of rfl) (HSub.cons (matO_of (by rw [← mixG_zero]; rfl)) (HSub.cons (box_of rfl) HSub.nil))))) (fun i hi => ?_)
    refine ts (ro rfl (op_lssN (Ht rfl) (Ht rfl)) (R_nil (T_seq (T_cond (Ht rfl) (fun hd => ?_) (fun hd => ?_)))))
    ·simp only [decide_eq_true_eq] at hd
     have hki : skp p i < z.length := skp_lt (by omega) hp
     have hsr := hs.row hki
     refine T_focus 3 (i) rfl (frow_mixG hd) (fun v => (T_skip (T_seq (T_block (ts (rm rfl (ro rfl (op_idx U_91 Z_3 (Ht rfl) (Ht rfl) rfl (map_get (lft_get hd))) (ro rfl (op_ld A_3 Z_3 (Ht rfl)) (ra rfl (ra rfl (R_nil (ts (rm rfl (ro rfl (op_len U_91 (Ht rfl) (by rw [List.length_map, hll])) ?_))))))))))))))
     refine ro rfl (op_move (Has.cN 0)) (R_nil (T_block ?_))
     refine T_loop (fun (j : Nat) => j ≤ m) (fun (j : Nat) => m - j) (fun (j : Nat) => [(3, PtrB B3 0), (6, PtrB B6 0), (8, NT .i64 p), (9, PtrB B9 0), (11, IntsT (lftL p m)), (12, PtrB B12 0), (13, NT .i64 i), (14, NT .i64 (skp p i + 1)), (61, IntsT (lftL p m)), (62, NT .i64 m), (63, NT .i64 i), (68, IntsT (lftL p m)), (69, NT .i64 m), (70, NT .i64 j)]) (fun (j : Nat) => [box B3 30 [NumsT z, NumM s], box B6 30 [Is (.slice none 0 0), Is (.slice none 0 0)], box B9 49 [BoolT (decide ((trmF s p g).a < 0)), NatT (trmF s p g).a.natAbs, BoolT (decide ((trmF s p g).b < 0)), NatT (trmF s p g).b.natAbs, NatT (du (trmF s p g))], matH B60 27 49 5 (FRow NumT (mixG (fun i => tab m fun j => trmX s p (trmF s p g) i j) (fun i => tab m fun j => gm s (skp p i) (skp p j)) m i)) i v, box B12 30 [NumsT (prtZ z p m), Is (.slice (some ⟨B60, 0, none⟩) m m)], rowO 49 5 v ((mixG (fun j => trmX s p (trmF s p g) i j) (fun j => gm s (skp p i) (skp p j)) m j).map NumT)]) 0 (Nat.zero_le _)
      (Sub.cons rfl (Sub.cons rfl (Sub.cons rfl (Sub.cons rfl (Sub.cons rfl (Sub.cons rfl (Sub.cons rfl (Sub.cons rfl (Sub.cons rfl (Sub.cons rfl (Sub.cons rfl (Sub.cons rfl (Sub.cons rfl (Sub.cons rfl Sub.nil)))))))))))))) (HSub.cons (fun _ _ _ h => h) (HSub.cons (fun _ _ _ h => h) (HSub.cons (fun _ _ _ h => h) (HSub.cons (fun _ _ _ h => h) (HSub.cons (fun _ _ _ h => h) (HSub.cons (rowO_of (by rw [← mixG_zero])) HSub.nil)))))) (fun j hj => ?_)
     refine ts (ro rfl (op_lssN (Ht rfl) (Ht rfl)) (R_nil (T_seq (T_cond (Ht rfl) (fun hf2 => ?_) (fun hf2 => ?_)))))
     ·simp only [decide_eq_true_eq] at hf2
      have hkj : skp p j < z.length := skp_lt (by omega) hp
      have hrl := mixG_len (fun j => trmX s p (trmF s p g) i j) (fun j => gm s (skp p i) (skp p j)) m j
      haveI g1 : FitC (gm s (skp p i) (skp p j)) L := hf.get hL _ _
      haveI g2 : FitC (gm s (skp p i) p) L := hf.get hL _ _
      haveI g3 : FitC (gm s p (skp p j)) L := hf.get hL _ _
      refine T_skip (T_seq (T_block (ts (rm rfl (ro rfl (op_idx U_91 Z_3 (Ht rfl) (Ht rfl) rfl (map_get (lft_get hf2))) (ro rfl (op_ld A_3 Z_3 (Ht rfl)) (ra rfl (ra rfl (R_nil (C.D_start (m := 39) (dp 12 rfl (op_fldB fa_30_1 (Ht rfl) rfl) (dq 75 0 rfl (op_ldB A_28 Z_28 (Ht rfl) (i := 4) rfl rfl) (dp 13 rfl (op_move (Ht rfl)) (dqq 76 1 77 2 rfl (op_idxB U_28 Z_27 (Ht rfl) (Ht rfl) rfl (by omega) (by rw [Nat.mul_one, Nat.zero_add])) ?_))))))))))))))
      refine dq 78 3 rfl (op_ldH A_27 Z_27 (Ht rfl) (j := 3) rfl) (dp 15 rfl (op_move (Ht rfl)) (dp 12 rfl (op_fldB fa_30_1 (Ht rfl) rfl) (dq 81 6 rfl (op_ldB A_28 Z_28 (Ht rfl) (i := 4) rfl rfl) (dp 13 rfl (op_move (Ht rfl)) (dqq 82 7 83 8 rfl (op_idxB U_28 Z_27 (Ht rfl) (Ht rfl) rfl (by omega) (by rw [Nat.mul_one, Nat.zero_add])) ?_)))))
      refine dq 84 9 rfl (op_ldH A_27 Z_27 (Ht rfl) (j := 3) rfl) (dp 15 rfl (op_move (Ht rfl)) (dqq 85 10 86 11 rfl (op_idxO U_27 Z_49 (Ht rfl) (Ht rfl) rfl (i := 5) rfl (by simp only [List.length_map, hrl]; omega) rfl) ?_))
      refine dq 87 12 rfl (op_ldO A_49 Z_49 (Ht rfl) (i := 5) rfl rfl (map_get (mixG_get hf2))) (dq 88 13 rfl (op_iface mkif_49 (Ht rfl)) (dp 3 rfl (op_fldB fa_30_1 (Ht rfl) rfl) (dq 90 15 rfl (op_ldB A_28 Z_28 (Ht rfl) (i := 0) rfl rfl) (dp 14 rfl (op_move (Ht rfl)) (dq 92 17 rfl (OpTy.nat (op_subN (Ht rfl) (Has.cN 1) (by omega) (by show _ < 9223372036854775808; first | omega | (simp only [lim]; omega))) (show skp p i + 1 - 1 = skp p i by omega)) (dqq 91 16 93 18 rfl (op_idx U_28 Z_27 (Ht rfl) (Ht rfl) rfl (map_get (getD_some (d := []) (by omega)))) ?_))))))
      refine dq 94 19 rfl (op_ld A_27 Z_27 (Ht rfl)) (dp 8 rfl (op_move (Ht rfl)) (dqq 95 20 96 21 rfl (op_idx U_27 Z_49 (Ht rfl) (Ht rfl) rfl (map_get (getD_some (d := Qi.zero) (by omega)))) (dq 97 22 rfl (op_ld A_49 Z_49 (Ht rfl)) (dq 98 23 rfl (op_iface mkif_49 (Ht rfl)) (dp 9 rfl (op_ldBA A_49 Z_49 (Ht rfl) (i := 2) rfl rfl rfl) (dq 100 25 rfl (op_iface mkif_49 (Ht rfl)) (dp 3 rfl (op_fldB fa_30_1 (Ht rfl) rfl) (dq 102 27 rfl (op_ldB A_28 Z_28 (Ht rfl) (i := 0) rfl rfl) (dp 8 rfl (op_move (Ht rfl)) ?_)))))))))
      refine dqq 103 28 104 29 rfl (op_idx U_28 Z_27 (Ht rfl) (Ht rfl) rfl (map_get (getD_some (d := []) (by omega)))) (dq 105 30 rfl (op_ld A_27 Z_27 (Ht rfl)) (dp 16 rfl (op_move (Ht rfl)) (dq 107 32 rfl (OpTy.nat (op_subN (Ht rfl) (Has.cN 1) (by omega) (by show _ < 9223372036854775808; first | omega | (simp only [lim]; omega))) (show skp p j + 1 - 1 = skp p j by omega)) (dqq 106 31 108 33 rfl (op_idx U_27 Z_49 (Ht rfl) (Ht rfl) rfl (map_get (getD_some (d := Qi.zero) (by omega)))) (dq 109 34 rfl (op_ld A_49 Z_49 (Ht rfl)) ?_)))))
      refine dqq 101 26 110 35 rfl (op_invoke meth_49_Mul K_69 (c_Mul (x := trmF s p g) (y := gm s p (skp p j)) (L := 7 * L + 11) (M := L) (by omega)) (Ht rfl) ⟨(Ht rfl), trivial⟩) (dqq 99 24 111 36 rfl (op_invoke meth_49_Mul K_69 (c_Mul (x := gm s (skp p i) p) (y := trmF s p g * gm s p (skp p j)) (L := L) (M := 7 * L + 11 + L + 1) (by omega)) (Ht rfl) ⟨(Ht rfl), trivial⟩) (dqq 89 14 112 37 rfl (op_invoke meth_49_Add Tryz.call71 (c_Add (x := gm s (skp p i) (skp p j)) (y := gm s (skp p i) p * (trmF s p g * gm s p (skp p j))) (L := L) (M := L + (7 * L + 11 + L + 1) + 1) (by omega)) (Ht rfl) ⟨(Ht rfl), trivial⟩) ?_))
      refine C.D_done mixed rfl (by kernel_rfl) (C.F_val (C.F_val (C.F_val (C.F_val (C.F_val (C.F_val (C.F_val (C.F_val (C.F_val (C.F_val (C.F_val (C.F_val (C.F_val (C.F_val (C.F_val (C.F_val (C.F_val (C.F_val (C.F_val (C.F_val (C.F_val (C.F_val (C.F_val (C.F_val (C.F_val (C.F_val (C.F_val (C.F_val (C.F_val (C.F_val (C.F_val (C.F_val (C.F_val (C.F_val (C.F_val (C.F_val (C.F_val (C.F_val (C.F_val (C.F_nil (ro rfl (op_idxO U_27 Z_49 (Ht rfl) (Ht rfl) rfl (i := 5) rfl (by simp only [List.length_map, hrl]; omega) rfl) ?_)))))))))))))))))))))))))))))))))))))))))
      refine R_stO Z_49 (Ht rfl) (Ht rfl) (El.ag rfl) (i := 5) rfl rfl (by simp only [List.length_map, hrl]; omega) rfl ?_
      refine R_nil (T_blk (T_region (ro rfl (op_addN (Ht rfl) (Has.cN 1) (by show _ < 9223372036854775808; first | omega | (simp only [lim]; omega))) (rm rfl (R_nil (T_again (j + 1) hf2 (by omega) (Sub.cons rfl (Sub.cons rfl (Sub.cons rfl (Sub.cons rfl (Sub.cons rfl (Sub.cons rfl (Sub.cons rfl (Sub.cons rfl (Sub.cons rfl (Sub.cons rfl (Sub.cons rfl (Sub.cons rfl (Sub.cons rfl (Sub.cons rfl Sub.nil)))))))))))))) (HSub.cons (fun _ _ _ h => h) (HSub.cons (fun _ _ _ h => h) (HSub.cons (fun _ _ _ h => h) (HSub.cons (fun _ _ _ h => h) (HSub.cons (fun _ _ _ h => h) (HSub.cons (rowO_of (by rw [set_mapF, ← mixG_set (f := fun j => trmX s p (trmF s p g) i j)]; rfl)) HSub.nil))))))))))))
     ·simp only [decide_eq_false_iff_not] at hf2
      obtain rfl : m = j := Nat.le_antisymm (by omega) hj
      refine T_exit rfl (T_blk (T_unfocus 3 5 rfl rfl (by decide) (by simp only [FRow, List.length_map, mixG_len]; omega) ?_))
      refine T_region (ro rfl (op_addN (Ht rfl) (Has.cN 1) (by show _ < 9223372036854775808; first | omega | (simp only [lim]; omega))) (rm rfl (R_nil (T_keep [0, 1, 2, 3, 4] rfl (by decide) (T_again (i + 1) hd (by omega) (Sub.cons rfl (Sub.cons rfl (Sub.cons rfl (Sub.cons rfl (Sub.cons rfl (Sub.cons rfl (Sub.cons rfl (Sub.cons rfl (Sub.cons rfl Sub.nil))))))))) (HSub.cons (fun _ _ _ h => h) (HSub.cons (fun _ _ _ h => h) (HSub.cons (fun _ _ _ h => h) (HSub.cons (matO_of (by rw [set_FRow, mixG_fin, ← mixG_set (f := (fun i => tab m fun j => trmX s p (trmF s p g) i j))])) (HSub.cons (fun _ _ _ h => h) HSub.nil))))))))))
    ·simp only [decide_eq_false_iff_not] at hd
     obtain rfl : m = i := Nat.le_antisymm (by omega) hi
     rw [mixG_fin]
     refine T_exit rfl (T_seq (T_frzcellG 4 3 1 rfl rfl rfl (by decide) (frzM (q := fun _ => True) (M := trmS s p m (trmF s p g)) (tab_len _ _).symm) ?_))
     subst hm
     refine T_region (ro rfl (op_ldBA A_30 Z_30 (Ht rfl) (i := 4) rfl rfl rfl) (R_stA Z_30 (Ht rfl) (Ht rfl) rfl (i := 1) rfl (Nat.le_of_ble_eq_true rfl) rfl rfl (ro rfl (op_assign (Has.cN 0)) (R_nil (T_ret2 rfl (rv_to (rv_cell A_30 Z_30 rfl (i := 1) rfl rfl) ?_) (rv_to (rv_tmp rfl) ?_))))))
     ·exact (trm_good he)
     ·exact (int_of he.symm)
end Go.Proofs.YtbnpmobaglfcbaaGreat
namespace Go.Proofs.YtbnpmobaglfcbaaGreat
open Go Go.RowKit
def fwZ : List Qi := [r50, r50].map Rt.q
def fwS : List (List Qi) := rq [[rHalf, rHalf], [rHalf, rHalf]]
def fwTZ : List Qi := trmRZ fwZ fwS 2 (Qi.ofInt 1)
def fwTS : List (List Qi) := trmRS fwZ fwS 2 (Qi.ofInt 1)
theorem fw_err : netErr fwZ fwS = 0 := by decide +kernel
theorem fw_shp : Shp fwS fwZ.length fwZ.length := (netErr_ok fw_err).2.2.1
theorem fw_trm : trmE fwZ fwS 2 (Qi.ofInt 1) = 0 := by decide +kernel
theorem fw_tz : fwTZ.length = 1 := by decide +kernel
theorem fw_ts : fwTS = [[Qi.ofInt 1]] := by decide +kernel
theorem fw_inv : invE (pmM true (idM fwZ.length) fwS fwZ.length) fwZ.length ≠ 0 := by decide +kernel
theorem fw_fz : FitL fwZ 2 := FitL.rt
theorem fw_fs : FitM fwS 2 := FitM.rt
theorem fw_f1 : FitC (Qi.ofInt 1) 2 := fit_one.le (by decide)
theorem fw_net : ∀ v V, (TupT [NetT (okL (netErr fwZ fwS) fwZ) (okL (netErr fwZ fwS) fwS), IntT .i64 (netErr fwZ fwS)]).p v V → (TupT [NetT fwZ fwS, IntT .i64 0]).p v V := by rw [fw_err]; exact fun _ _ h => h
theorem fw_ter : ∀ v V, (TupT [NetT (trmRZ fwZ fwS ((2 : Nat) : Int) (Qi.ofInt 1)) (trmRS fwZ fwS ((2 : Nat) : Int) (Qi.ofInt 1)), IntT .i64 (trmE fwZ fwS ((2 : Nat) : Int) (Qi.ofInt 1))]).p v V → (TupT [NetT fwTZ fwTS, IntT .i64 0]).p v V := by
  rw [show trmE fwZ fwS ((2 : Nat) : Int) (Qi.ofInt 1) = 0 from fw_trm]; exact fun _ _ h => h
theorem fw_tsh : Shp fwTS fwTZ.length fwTZ.length := by rw [fw_tz, fw_ts]; exact ⟨rfl, by simp⟩
theorem fw_at : ∀ v V, (TupT [NumT (pkm fwTZ.length fwTS ((1 : Nat) : Int) ((1 : Nat) : Int)), IntT .i64 (if (1 ≤ ((1 : Nat) : Int) ∧ ((1 : Nat) : Int) ≤ fwTZ.length) ∧ 1 ≤ ((1 : Nat) : Int) ∧ ((1 : Nat) : Int) ≤ fwTZ.length then 0 else 1)]).p v V → (TupT [NumT (Qi.ofInt 1), IntT .i64 0]).p v V := by
  rw [fw_tz, fw_ts, if_pos (by decide)]
  rw [show pkm 1 [[Qi.ofInt 1]] ((1 : Nat) : Int) ((1 : Nat) : Int) = Qi.ofInt 1 from rfl]
  exact fun _ _ h => h
theorem fw_t : txt (Qi.ofInt 1) = [49] := by decide +kernel
end Go.Proofs.YtbnpmobaglfcbaaGreat
namespace Go.Proofs.YtbnpmobaglfcbaaGreat
open Go Go.RowKit
set_option maxHeartbeats 1000000 in
set_option maxRecDepth 20000 in
theorem c_awake4  : Fun Tryz.prog 27 [] (BoolT true) := by
 refine Fun.intro Tryz.func27 rfl Tryz.ntmps27 rfl (fun cx => (ts (ro rfl (op_assign Has.c) (R_nil (ts (ro rfl (bld_26_0_2 Has.c Has.c) (rn rfl (new_alloc (Ts := [Is (.int .i64 0), Is (.int .i64 0), Is (.int .i64 0)]) O_26 rfl (fun V => Cells.cons' ⟨rfl, trivial⟩ (Cells.cons' ⟨rfl, trivial⟩ (Cells.cons' ⟨rfl, trivial⟩ (Cells.nil))))) fun B1 => (R_stA Z_26 (Ht rfl) (Ht rfl) rfl (i := 0) rfl (Nat.le_of_ble_eq_true rfl) rfl rfl (R_nil (T_seq (Y.D_start (m := 18) [] (Y.D_hide (Ei := []) rfl rfl Y.Srcs.nil rfl rfl (S_plain rfl (bld_26_0 Has.c)) (Y.D_hide (Ei := []) rfl rfl Y.Srcs.nil rfl rfl (S_plain rfl (bld_26_0 Has.c)) ?_)))))))))))))
 refine Y.D_hide (Ei := [(12, _), (13, _)]) rfl rfl (Y.Srcs.cons (Y.Src.op 0 rfl rfl) (Y.Srcs.cons (Y.Src.op 1 rfl rfl) Y.Srcs.nil)) rfl rfl (S_plain rfl (op_bslice (xs := [.tmp 12, .tmp 13]) U_22 Z_26 O_26 (Elems.cons (Ht rfl) (Elems.cons (Ht rfl) Elems.nil)) rfl rfl rfl)) (Y.D_hide (Ei := [(14, _)]) rfl rfl (Y.Srcs.cons (Y.Src.op 2 rfl rfl) Y.Srcs.nil) rfl rfl (S_plain rfl (op_call Tryz.call19 (c_lawList (l := [r50, r50]) (by decide)) ⟨(Ht rfl), trivial⟩)) (Y.D_hide (Ei := [(1, _)]) rfl rfl (Y.Srcs.cons (Y.Src.pre rfl rfl) Y.Srcs.nil) rfl rfl (S_plain rfl (op_ldBA A_26 Z_26 (Ht rfl) (i := 0) rfl rfl rfl)) ?_))
 refine Y.D_hide (Ei := [(1, _)]) rfl rfl (Y.Srcs.cons (Y.Src.pre rfl rfl) Y.Srcs.nil) rfl rfl (S_plain rfl (op_ldBA A_26 Z_26 (Ht rfl) (i := 0) rfl rfl rfl)) (Y.D_hide (Ei := [(16, _), (17, _)]) rfl rfl (Y.Srcs.cons (Y.Src.op 4 rfl rfl) (Y.Srcs.cons (Y.Src.op 5 rfl rfl) Y.Srcs.nil)) rfl rfl (S_plain rfl (op_bslice (xs := [.tmp 16, .tmp 17]) U_22 Z_26 O_26 (Elems.cons (Ht rfl) (Elems.cons (Ht rfl) Elems.nil)) rfl rfl rfl)) (Y.D_hide (Ei := [(1, _)]) rfl rfl (Y.Srcs.cons (Y.Src.pre rfl rfl) Y.Srcs.nil) rfl rfl (S_plain rfl (op_ldBA A_26 Z_26 (Ht rfl) (i := 0) rfl rfl rfl)) ?_))
 refine Y.D_hide (Ei := [(1, _)]) rfl rfl (Y.Srcs.cons (Y.Src.pre rfl rfl) Y.Srcs.nil) rfl rfl (S_plain rfl (op_ldBA A_26 Z_26 (Ht rfl) (i := 0) rfl rfl rfl)) (Y.D_hide (Ei := [(19, _), (20, _)]) rfl rfl (Y.Srcs.cons (Y.Src.op 7 rfl rfl) (Y.Srcs.cons (Y.Src.op 8 rfl rfl) Y.Srcs.nil)) rfl rfl (S_plain rfl (op_bslice (xs := [.tmp 19, .tmp 20]) U_22 Z_26 O_26 (Elems.cons (Ht rfl) (Elems.cons (Ht rfl) Elems.nil)) rfl rfl rfl)) (Y.D_hide (Ei := [(18, _), (21, _)]) rfl rfl (Y.Srcs.cons (Y.Src.op 6 rfl rfl) (Y.Srcs.cons (Y.Src.op 9 rfl rfl) Y.Srcs.nil)) rfl rfl (S_plain rfl (op_bslice (xs := [.tmp 18, .tmp 21]) U_37 Z_22 Tryz.zeroValue22 (Elems.cons (Ht rfl) (Elems.cons (Ht rfl) Elems.nil)) rfl rfl rfl)) ?_))
 refine Y.D_hide (Ei := [(22, _)]) rfl rfl (Y.Srcs.cons (Y.Src.op 10 rfl rfl) Y.Srcs.nil) rfl rfl (S_plain rfl (op_call Tryz.call20 (c_lawRows (m := [[rHalf, rHalf], [rHalf, rHalf]]) (by decide) (by intro r hr; simp at hr; subst hr; decide)) ⟨(Ht rfl), trivial⟩)) ?_
 refine Y.D_hide (Ei := [(15, _), (23, _)]) rfl rfl (Y.Srcs.cons (Y.Src.op 3 rfl rfl) (Y.Srcs.cons (Y.Src.op 11 rfl rfl) Y.Srcs.nil)) rfl rfl (S_plain rfl (op_call Tryz.call18 (Fun.imp (c_netNew (z := fwZ) (s := fwS) (L := 2) fw_fz (by decide) (by decide) (by decide)) fw_net) ⟨(Ht rfl), (Ht rfl), trivial⟩)) (Y.D_hide (Ei := [(24, _)]) rfl rfl (Y.Srcs.cons (Y.Src.op 12 rfl rfl) Y.Srcs.nil) rfl rfl (S_plain rfl (op_move (Ht rfl))) (Y.D_hide (Ei := [(11, _)]) rfl rfl (Y.Srcs.cons (Y.Src.op 13 rfl rfl) Y.Srcs.nil) rfl rfl (S_plain rfl (op_extract (Ht rfl) rfl)) (Y.D_hide (Ei := [(11, _)]) rfl rfl (Y.Srcs.cons (Y.Src.op 13 rfl rfl) Y.Srcs.nil) rfl rfl (S_plain rfl (op_extract (Ht rfl) rfl)) ?_)))
 refine Y.D_newp (Ei := []) (fun bb => box bb 30 [NumsT fwZ, NumM fwS]) 17 rfl rfl rfl Y.Srcs.nil rfl rfl (by kernel_rfl) (new_alloc (Ts := [Is (.slice none 0 0), Is (.slice none 0 0)]) O_30 rfl (fun V => Cells.cons' ⟨rfl, trivial⟩ (Cells.cons' ⟨rfl, trivial⟩ (Cells.nil)))) (Y.D_putN (Ei := [(25, _)]) 16 rfl rfl rfl rfl rfl rfl (Y.Srcs.cons (Y.Src.op 14 rfl rfl) Y.Srcs.nil) (fun bb => P_stA Z_30 (Ht rfl) (Ht rfl) rfl (i := 0) rfl (Nat.le_of_ble_eq_true rfl) rfl rfl) (Y.D_done mixed rfl (by kernel_rfl) rfl (by simp [Y.okP]) rfl rfl (Y.F_val (Y.F_val (Y.F_val (Y.F_val (Y.F_val (Y.F_val (Y.F_val (Y.F_val (Y.F_val (Y.F_val (Y.F_val (Y.F_val (Y.F_val (Y.F_val (Y.F_val (Y.F_val (Y.F_newp (fun B2 => Y.F_putN (Y.F_nil ?_)))))))))))))))))))))
 refine ra rfl (R_nil (T_seq (Y.D_start (m := 8) [] (Y.D_hide (Ei := [(2, _)]) rfl rfl (Y.Srcs.cons (Y.Src.pre rfl rfl) Y.Srcs.nil) rfl rfl (S_plain rfl (op_ldBA A_30 Z_30 (Ht rfl) (i := 1) rfl rfl rfl)) (Y.D_hide (Ei := []) rfl rfl Y.Srcs.nil rfl rfl (S_plain rfl (op_call Tryz.call95 (c_Int (n := 1) (by decide) (by decide)) ⟨(Has.cN 1), trivial⟩)) (Y.D_hide (Ei := [(28, _), (29, _)]) rfl rfl (Y.Srcs.cons (Y.Src.op 0 rfl rfl) (Y.Srcs.cons (Y.Src.op 1 rfl rfl) Y.Srcs.nil)) rfl rfl (S_plain rfl (op_call Tryz.call62 (Fun.imp (c_Term (z := fwZ) (s := fwS) (port := ((2 : Nat) : Int)) (g := Qi.ofInt 1) (L := 2) fw_shp fw_fs fw_f1 (by decide) (by decide) (by decide)) fw_ter) ⟨(Ht rfl), (Has.cN 2), (Ht rfl), trivial⟩)) ?_))))))
 refine Y.D_hide (Ei := [(30, _)]) rfl rfl (Y.Srcs.cons (Y.Src.op 2 rfl rfl) Y.Srcs.nil) rfl rfl (S_plain rfl (op_move (Ht rfl))) (Y.D_hide (Ei := [(27, _)]) rfl rfl (Y.Srcs.cons (Y.Src.op 3 rfl rfl) Y.Srcs.nil) rfl rfl (S_plain rfl (op_extract (Ht rfl) rfl)) (Y.D_hide (Ei := [(27, _)]) rfl rfl (Y.Srcs.cons (Y.Src.op 3 rfl rfl) Y.Srcs.nil) rfl rfl (S_plain rfl (op_extract (Ht rfl) rfl)) (Y.D_newp (Ei := []) (fun bb => box bb 30 [NumsT fwTZ, NumM fwTS]) 7 rfl rfl rfl Y.Srcs.nil rfl rfl (by kernel_rfl) (new_alloc (Ts := [Is (.slice none 0 0), Is (.slice none 0 0)]) O_30 rfl (fun V => Cells.cons' ⟨rfl, trivial⟩ (Cells.cons' ⟨rfl, trivial⟩ (Cells.nil)))) ?_)))
 refine Y.D_putN (Ei := [(31, _)]) 6 rfl rfl rfl rfl rfl rfl (Y.Srcs.cons (Y.Src.op 4 rfl rfl) Y.Srcs.nil) (fun bb => P_stA Z_30 (Ht rfl) (Ht rfl) rfl (i := 0) rfl (Nat.le_of_ble_eq_true rfl) rfl rfl) (Y.D_done mixed rfl (by kernel_rfl) rfl (by simp [Y.okP]) rfl rfl (Y.F_val (Y.F_val (Y.F_val (Y.F_val (Y.F_val (Y.F_val (Y.F_newp (fun B4 => Y.F_putN (Y.F_nil ?_))))))))))
 refine ra rfl (R_nil (ts (ro rfl (op_ldBA A_30 Z_30 (Ht rfl) (i := 2) rfl rfl rfl) (ro rfl (op_call Tryz.call67 (Fun.imp (c_At (z := fwTZ) (s := fwTS) (i := ((1 : Nat) : Int)) (j := ((1 : Nat) : Int)) fw_tsh (by rw [fw_tz]; decide)) fw_at) ⟨(Ht rfl), (Has.cN 1), (Has.cN 1), trivial⟩) ?_))))
 refine rm rfl (ro rfl (op_extract (Ht rfl) rfl) (ro rfl (op_extract (Ht rfl) rfl) (rn rfl (new_alloc (Ts := [Is (.bool false), Is (.slice none 0 0), Is (.bool false), Is (.slice none 0 0), Is (.slice none 0 0)]) O_49 rfl (fun V => Cells.cons' ⟨rfl, trivial⟩ (Cells.cons' ⟨rfl, trivial⟩ (Cells.cons' ⟨rfl, trivial⟩ (Cells.cons' ⟨rfl, trivial⟩ (Cells.cons' ⟨rfl, trivial⟩ (Cells.nil))))))) fun B6 => (R_stA Z_49 (Ht rfl) (Ht rfl) rfl (i := 3) rfl (Nat.le_of_ble_eq_true rfl) rfl rfl (ra rfl (R_nil (ts (ro rfl (op_ldBA A_30 Z_30 (Ht rfl) (i := 1) rfl rfl rfl) ?_))))))))
 refine ro rfl (op_call Tryz.call38 (c_ImpE (z := fwZ) (s := fwS) (L := 2) fw_shp fw_fs (by decide) (by decide) (by decide) (by decide +kernel) (by decide +kernel) fw_inv) ⟨(Ht rfl), trivial⟩) (rm rfl (ro rfl (op_extract (Ht rfl) rfl) (ro rfl (op_extract (Ht rfl) rfl) (ra rfl (ra rfl (R_nil (ts (rm rfl (ro rfl (op_eql (Ht rfl) Has.c) (rm rfl (R_step rfl rfl (S_when rfl rfl (Ht rfl) (fun h => op_move (Ht rfl))) (R_step rfl rfl (S_when rfl rfl (Ht rfl) (fun h => op_eql (Has.w rfl h) Has.c)) (ro rfl (op_and (Ht rfl) (fun h => (Has.w rfl h))) (rm rfl (R_step rfl rfl (S_when rfl rfl (Ht rfl) (fun h => op_move (Ht rfl))) ?_)))))))))))))))
 refine R_step rfl rfl (S_when rfl rfl (Ht rfl) (fun h => op_eql (Has.w rfl h) Has.c)) (ro rfl (op_and (Ht rfl) (fun h => (Has.w rfl h))) (rm rfl (R_step rfl rfl (S_when rfl rfl (Ht rfl) (fun h => op_move (Ht rfl))) (R_step rfl rfl (S_when rfl rfl (Ht rfl) (fun h => op_eql (Has.w rfl h) Has.c)) (ro rfl (op_and (Ht rfl) (fun h => (Has.w rfl h))) (rm rfl (R_step rfl rfl (S_when rfl rfl (Ht rfl) (fun h => op_ldBA A_30 Z_30 (Ht rfl) (i := 1) rfl rfl rfl)) (R_step rfl rfl (S_when rfl rfl (Ht rfl) (fun h => op_call Tryz.call72 c_Ports ⟨(Has.w rfl h), trivial⟩)) (R_step rfl rfl (S_when rfl rfl (Ht rfl) (fun h => op_eqlN (Has.w rfl h) (Has.cN 2))) ?_)))))))))
 refine ro rfl (op_and (Ht rfl) (fun h => (Has.w rfl h))) (rm rfl (R_step rfl rfl (S_when rfl rfl (Ht rfl) (fun h => op_ldBA A_49 Z_49 (Ht rfl) (i := 3) rfl rfl rfl)) (R_step rfl rfl (S_when rfl rfl (Ht rfl) (fun h => op_call Tryz.call96 (c_Text (x := Qi.ofInt 1) (L := 2) (hx := fw_f1) (by decide)) ⟨(Has.w rfl h), trivial⟩)) (R_step rfl rfl (S_when rfl rfl (Ht rfl) (fun h => op_eqS (Has.w rfl h) (Has.cS (l := [49]) rfl))) (ro rfl (op_and (Ht rfl) (fun h => (Has.w rfl h))) (ra rfl (R_nil (T_ret1 rfl (rv_to (rv_tmp rfl) ?_)))))))))
 exact (bool_of (by rw [fw_t]; rfl))
end Go.Proofs.YtbnpmobaglfcbaaGreat
namespace Go.Proofs.YtbnpmobaglfcbaaGreat
open Go Go.RowKit
set_option maxRecDepth 20000 in
theorem c_refList4 {l : List Rt} (hl : l.length ≤ 1000000) : Fun Tryz.prog 22 [RatsT l] (QsT (l.map Rt.q)) := by
 refine Fun.intro Tryz.func22 rfl Tryz.ntmps22 rfl (fun cx => (ts (ro rfl (op_assign Has.c) (R_nil (ts (rm rfl (ro rfl (op_len U_22 (Ht rfl) len_map) (rn rfl (new_makeO (T := ZQ) (i := Tryz.t81) und_31 info_81 rfl rfl (Ht rfl) rfl zq_p (El.ag rfl) (by show 88 * _ ≤ _; omega) (by omega)) fun B8 => (ra rfl (R_nil (T_seq (ts (rm rfl (ro rfl (op_len U_22 (Ht rfl) len_map) (ro rfl (op_move (Has.cN 0)) (R_nil (T_block ?_)))))))))))))))))
 refine T_loop (fun (k : Nat) => k ≤ l.length) (fun (k : Nat) => l.length - k) (fun (k : Nat) => [(3, Is B8), (9, RatsT l), (10, NT .i64 l.length), (11, NT .i64 k)]) (fun (k : Nat) => [rowO 81 5 B8 (mixT (fun i => QT (l.getD i default).q) ZQ l.length k)]) 0 (Nat.zero_le _)
  (Sub.cons rfl (Sub.cons rfl (Sub.cons rfl (Sub.cons rfl Sub.nil)))) (HSub.cons (rowO_of (by rw [← mix_zero]; exact rep_tab _ _)) HSub.nil) (fun k hk => ?_)
 refine ts (ro rfl (op_lssN (Ht rfl) (Ht rfl)) (R_nil (T_seq (T_cond (Ht rfl) (fun hd => ?_) (fun hd => ?_)))))
 ·simp only [decide_eq_true_eq] at hd
  refine T_skip (T_seq (T_block (ts (rm rfl (ro rfl (op_idx U_22 Z_26 (Ht rfl) (Ht rfl) rfl (map_get (getD_some (d := default) hd))) (ro rfl (op_ld A_26 Z_26 (Ht rfl)) (rn rfl (new_alloc (Ts := [Is (.int .i64 0), Is (.int .i64 0), Is (.int .i64 0)]) O_26 rfl (fun V => Cells.cons' ⟨rfl, trivial⟩ (Cells.cons' ⟨rfl, trivial⟩ (Cells.cons' ⟨rfl, trivial⟩ (Cells.nil))))) fun B5 => (ra rfl (R_stA Z_26 (Ht rfl) (Ht rfl) rfl (i := 1) rfl (Nat.le_of_ble_eq_true rfl) rfl rfl (R_nil (T_region (rm rfl (rm rfl (ro rfl (op_ldBA A_26 Z_26 (Ht rfl) (i := 1) rfl rfl rfl) ?_))))))))))))))
  refine ro rfl (op_call Tryz.call36 c_rOf ⟨(Ht rfl), trivial⟩) (ro rfl (op_idxO U_31 Z_81 (Ht rfl) (Ht rfl) rfl (i := 0) rfl (by rw [mix_len]; omega) rfl) ?_)
  refine R_stO Z_81 (Ht rfl) (Ht rfl) (El.ag rfl) (i := 0) rfl rfl (by rw [mix_len]; omega) rfl ?_
  refine R_nil (T_blk (T_region (ro rfl (op_addN (Ht rfl) (Has.cN 1) (by show _ < 9223372036854775808; first | omega | (simp only [lim]; omega))) (rm rfl (R_nil (T_keep [0] rfl (by decide) (T_again (k + 1) hd (by omega) (Sub.cons rfl (Sub.cons rfl (Sub.cons rfl (Sub.cons rfl Sub.nil)))) (HSub.cons (rowO_of (mix_set (f := fun i => QT (l.getD i default).q))) HSub.nil))))))))
 ·simp only [decide_eq_false_iff_not] at hd
  obtain rfl : k = l.length := Nat.le_antisymm hk (by omega)
  rw [mix_fin]
  refine T_exit rfl (T_freeze (i := 0) (tt := 3) rfl rfl frz_row (ts (rm rfl (ra rfl (R_nil (T_ret1 rfl (rv_to (rv_tmp rfl) ?_)))))))
  exact (slT_of (by rw [← tab_list l Rt.q, tab_map]))
set_option maxRecDepth 20000 in
theorem c_refRows4 {m : List (List Rt)} (hm : m.length ≤ 1000) (hr : ∀ r, r ∈ m → r.length ≤ 1000) : Fun Tryz.prog 23 [RatM m] (QM (rq m)) := by
 refine Fun.intro Tryz.func23 rfl Tryz.ntmps23 rfl (fun cx => (ts (ro rfl (op_assign Has.c) (R_nil (ts (rm rfl (ro rfl (op_len U_37 (Ht rfl) len_map) (rn rfl (new_makeO (T := QsT []) (i := Tryz.t31) und_32 info_31 rfl rfl (Ht rfl) rfl (fun V => nil_slT _ _ rfl) El.one (by show 24 * _ ≤ _; omega) (by omega)) fun B8 => (ra rfl (R_nil (T_seq (ts (rm rfl (ro rfl (op_len U_37 (Ht rfl) len_map) (ro rfl (op_move (Has.cN 0)) (R_nil (T_block ?_)))))))))))))))))
 refine T_loop2 (fun (k : Nat) (out : List (List Qi)) => FillS (fun i => (m.getD i default).map Rt.q) m.length out k) (fun (k : Nat) (out : List (List Qi)) => m.length - k) (fun (k : Nat) (out : List (List Qi)) => [(3, Is B8), (9, RatM m), (10, NT .i64 m.length), (11, NT .i64 k)]) (fun (k : Nat) (out : List (List Qi)) => [rowO 31 1 B8 (out.map QsT)]) 0 (List.replicate m.length []) (FillS.start _ _ _)
  (Sub.cons rfl (Sub.cons rfl (Sub.cons rfl (Sub.cons rfl Sub.nil)))) (HSub.cons (rowO_of (rep_mapF QsT _ _)) HSub.nil) (fun k out hS => ?_)
 refine ts (ro rfl (op_lssN (Ht rfl) (Ht rfl)) (R_nil (T_seq (T_cond (Ht rfl) (fun hk => ?_) (fun hk => ?_)))))
 ·simp only [decide_eq_true_eq] at hk
  have hlen := hS.len
  have hrk : (m.getD k default).length ≤ 1000 := by
   have e : m.getD k default = m[k] := by simp [List.getD, hk]
   rw [e]; exact hr _ (List.getElem_mem hk)
  refine T_skip (T_seq (T_block (ts (rm rfl (ro rfl (op_idx U_37 Z_22 (Ht rfl) (Ht rfl) rfl (map_get (getD_some (d := default) hk))) (ro rfl (op_ld A_22 Z_22 (Ht rfl)) (ra rfl (ra rfl (R_nil (T_region (rm rfl (rm rfl (rm rfl (ro rfl (op_call Tryz.call22 (c_refList4 (by omega)) ⟨(Ht rfl), trivial⟩) (ro rfl (op_idxO U_32 Z_31 (Ht rfl) (Ht rfl) rfl (i := 0) rfl (by first | omega | (simp; omega)) rfl) (R_stO Z_31 (Ht rfl) (Ht rfl) El.one (i := 0) rfl rfl (by first | omega | (simp; omega)) rfl (R_nil (T_blk ?_))))))))))))))))))
  refine T_region (ro rfl (op_addN (Ht rfl) (Has.cN 1) (by show _ < 9223372036854775808; first | omega | (simp only [lim]; omega))) (rm rfl (R_nil (T_again (k + 1, _) (hS.next hk rfl) (by dsimp only; omega) (Sub.cons rfl (Sub.cons rfl (Sub.cons rfl (Sub.cons rfl Sub.nil)))) (HSub.cons (rowO_of (set_mapF QsT _ _ _)) HSub.nil)))))
 ·simp only [decide_eq_false_iff_not] at hk
  obtain rfl : k = m.length := Nat.le_antisymm hS.kle (by omega)
  have hfin := hS.fin
  rw [tab_list m (fun r => r.map Rt.q)] at hfin
  refine T_exit rfl (T_freeze (i := 0) (tt := 3) rfl rfl frz_row (ts (rm rfl (ra rfl (R_nil (T_ret1 rfl (rv_to (rv_tmp rfl) ?_)))))))
  exact (slT_of (by rw [hfin]))
set_option maxRecDepth 20000 in
theorem c_is4 {z : List Qi} {s : List (List Qi)} {L : Nat} (hz : FitL z L) (hs : FitM s L) (hL1 : 1 ≤ L) (hL : L ≤ 8796093022208) (hsh : Shp s z.length z.length) (hl : z.length ≤ 1000) : Fun Tryz.prog 80 [NetT z s, RNetT z s] (BoolT true) := by
 have hs1 := hsh.1
 refine Fun.intro Tryz.func80 rfl Tryz.ntmps80 rfl (fun cx => (ts (rn rfl (new_box (Ht rfl)) fun B2 => (rn rfl (new_box (Ht rfl)) fun B3 => (ro rfl (op_assign Has.c) (R_nil (T_seq (T_seq (C.D_start (m := 5) (dp 2 rfl (op_ldBA A_30 Z_30 (Ht rfl) (i := 0) rfl rfl rfl) (dq 13 0 rfl (op_call Tryz.call72 c_Ports ⟨(Ht rfl), trivial⟩) (dp 3 rfl (op_fldB fa_34_0 (Ht rfl) rfl) (dq 15 2 rfl (op_ldB A_31 Z_31 (Ht rfl) (i := 1) rfl rfl) (dq 16 3 rfl (op_len U_31 (Ht rfl) len_map) (C.D_done mixed rfl (by kernel_rfl) (C.F_val (C.F_val (C.F_val (C.F_val (C.F_val (C.F_nil ?_)))))))))))))))))))))
 refine ro rfl (op_neqN (Ht rfl) (Ht rfl)) (R_nil (T_condF (Ht rfl) (by simp) ?_))
 refine T_skip (T_seq (ts (ro rfl (op_fldB fa_34_0 (Ht rfl) rfl) (ro rfl (op_ldB A_31 Z_31 (Ht rfl) (i := 1) rfl rfl) (ro rfl (op_len U_31 (Ht rfl) len_map) (ro rfl (op_move (Has.cN 0)) (R_nil (T_block ?_))))))))
 refine T_loop (fun (i : Nat) => i ≤ z.length) (fun (i : Nat) => z.length - i) (fun (i : Nat) => [(2, PtrB B2 0), (3, PtrB B3 0), (20, QsT z), (21, NT .i64 z.length), (22, NT .i64 i)]) (fun (i : Nat) => [box B2 30 [NumsT z, NumM s], box B3 34 [QsT z, QM s]]) 0 (Nat.zero_le _)
  (Sub.cons rfl (Sub.cons rfl (Sub.cons rfl (Sub.cons rfl (Sub.cons rfl Sub.nil))))) (HSub.refl _) (fun i hi => ?_)
 refine ts (ro rfl (op_lssN (Ht rfl) (Ht rfl)) (R_nil (T_seq (T_cond (Ht rfl) (fun hd => ?_) (fun hd => ?_)))))
 ·simp only [decide_eq_true_eq] at hd
  haveI f1 : FitC (gv z i) L := hz.get hL1 i
  have hsr := hsh.row hd
  refine T_skip (T_seq (T_block (ts (rm rfl (ro rfl (op_idx U_31 Z_81 (Ht rfl) (Ht rfl) rfl (map_get (getD_some (d := Qi.zero) hd))) (ro rfl (op_ld A_81 Z_81 (Ht rfl)) (rn rfl (new_alloc (Ts := [Is (.bool false), Is (.slice none 0 0), Is (.bool false), Is (.slice none 0 0), Is (.slice none 0 0)]) O_81 rfl (fun V => Cells.cons' ⟨rfl, trivial⟩ (Cells.cons' ⟨rfl, trivial⟩ (Cells.cons' ⟨rfl, trivial⟩ (Cells.cons' ⟨rfl, trivial⟩ (Cells.cons' ⟨rfl, trivial⟩ (Cells.nil))))))) fun B6 => (ra rfl (R_stA Z_81 (Ht rfl) (Ht rfl) rfl (i := 2) rfl (Nat.le_of_ble_eq_true rfl) rfl rfl ?_)))))))))
  refine R_nil (ts (ro rfl (op_ldBA A_30 Z_30 (Ht rfl) (i := 0) rfl rfl rfl) (rm rfl (ro rfl (op_addN (Ht rfl) (Has.cN 1) (by show _ < 9223372036854775808; first | omega | (simp only [lim]; omega))) (ro rfl (op_call Tryz.call65 (Fun.imp (c_Ref (z := z) (s := s) (i := ((i + 1 : Nat) : Int)) (by omega)) (is_ref hd)) ⟨(Ht rfl), (Ht rfl), trivial⟩) (rm rfl (ro rfl (op_extract (Ht rfl) rfl) (ro rfl (op_extract (Ht rfl) rfl) (rn rfl (new_alloc (Ts := [Is (.bool false), Is (.slice none 0 0), Is (.bool false), Is (.slice none 0 0), Is (.slice none 0 0)]) O_49 rfl (fun V => Cells.cons' ⟨rfl, trivial⟩ (Cells.cons' ⟨rfl, trivial⟩ (Cells.cons' ⟨rfl, trivial⟩ (Cells.cons' ⟨rfl, trivial⟩ (Cells.cons' ⟨rfl, trivial⟩ (Cells.nil))))))) fun B7 => ?_)))))))))
  refine R_stA Z_49 (Ht rfl) (Ht rfl) rfl (i := 3) rfl (Nat.le_of_ble_eq_true rfl) rfl rfl (ra rfl (R_nil (T_seq (ts (rm rfl (ro rfl (op_neq (Ht rfl) Has.c) (rm rfl (R_step rfl rfl (S_when rfl rfl (Ht rfl) (fun h => op_ldBA A_49 Z_49 (Ht rfl) (i := 3) rfl rfl rfl)) (R_step rfl rfl (S_when rfl rfl (Ht rfl) (fun h => op_ldBA A_81 Z_81 (Ht rfl) (i := 2) rfl rfl rfl)) (R_step rfl rfl (S_when rfl rfl (Ht rfl) (fun h => op_call Tryz.call129 (c_lawIs (x := gv z i) (y := gv z i) (L := L) (M := L) hL hL) ⟨(Has.w rfl h), (Has.w rfl h), trivial⟩)) (R_step rfl rfl (S_when rfl rfl (Ht rfl) (fun h => op_not (Has.w rfl h))) ?_)))))))))))
  refine ro rfl (op_or (Ht rfl) (fun h => (Has.w rfl h))) (R_nil (T_condF (Ht rfl) (by simp) ?_))
  refine T_skip (ts (ro rfl (op_fldB fa_34_1 (Ht rfl) rfl) (ro rfl (op_ldB Tryz.isAgg32 Z_32 (Ht rfl) (i := 1) rfl rfl) (rm rfl (ro rfl (op_idx U_32 Z_31 (Ht rfl) (Ht rfl) rfl (map_get (getD_some (d := []) (by omega)))) (ro rfl (op_ld A_31 Z_31 (Ht rfl)) (ro rfl (op_len U_31 (Ht rfl) len_map) (ro rfl (op_move (Has.cN 0)) (R_nil (T_block (T_keep [0, 1] rfl (by decide) ?_)))))))))))
  refine T_loop (fun (j : Nat) => j ≤ z.length) (fun (j : Nat) => z.length - j) (fun (j : Nat) => [(2, PtrB B2 0), (3, PtrB B3 0), (5, NT .i64 i), (20, QsT z), (21, NT .i64 z.length), (22, NT .i64 i), (46, QsT (s.getD i [])), (47, NT .i64 z.length), (48, NT .i64 j)]) (fun (j : Nat) => [box B2 30 [NumsT z, NumM s], box B3 34 [QsT z, QM s]]) 0 (Nat.zero_le _)
   (Sub.cons rfl (Sub.cons rfl (Sub.cons rfl (Sub.cons rfl (Sub.cons rfl (Sub.cons rfl (Sub.cons rfl (Sub.to rfl (nt_of hsr) (Sub.cons rfl Sub.nil))))))))) (HSub.refl _) (fun j hj => ?_)
  refine ts (ro rfl (op_lssN (Ht rfl) (Ht rfl)) (R_nil (T_seq (T_cond (Ht rfl) (fun hf => ?_) (fun hf => ?_)))))
  ·simp only [decide_eq_true_eq] at hf
   haveI f2 : FitC (gm s i j) L := hs.get hL1 i j
   refine T_skip (T_seq (T_block (ts (rm rfl (ro rfl (op_idx U_31 Z_81 (Ht rfl) (Ht rfl) rfl (map_get (getD_some (d := Qi.zero) (by omega)))) (ro rfl (op_ld A_81 Z_81 (Ht rfl)) (rn rfl (new_alloc (Ts := [Is (.bool false), Is (.slice none 0 0), Is (.bool false), Is (.slice none 0 0), Is (.slice none 0 0)]) O_81 rfl (fun V => Cells.cons' ⟨rfl, trivial⟩ (Cells.cons' ⟨rfl, trivial⟩ (Cells.cons' ⟨rfl, trivial⟩ (Cells.cons' ⟨rfl, trivial⟩ (Cells.cons' ⟨rfl, trivial⟩ (Cells.nil))))))) fun B10 => (ra rfl (R_stA Z_81 (Ht rfl) (Ht rfl) rfl (i := 2) rfl (Nat.le_of_ble_eq_true rfl) rfl rfl ?_)))))))))
   refine R_nil (ts (ro rfl (op_ldBA A_30 Z_30 (Ht rfl) (i := 0) rfl rfl rfl) (rm rfl (ro rfl (op_addN (Ht rfl) (Has.cN 1) (by show _ < 9223372036854775808; first | omega | (simp only [lim]; omega))) (rm rfl (ro rfl (op_addN (Ht rfl) (Has.cN 1) (by show _ < 9223372036854775808; first | omega | (simp only [lim]; omega))) (ro rfl (op_call Tryz.call67 (Fun.imp (c_At (z := z) (s := s) (i := ((i + 1 : Nat) : Int)) (j := ((j + 1 : Nat) : Int)) hsh (by omega)) (is_at hd hf)) ⟨(Ht rfl), (Ht rfl), (Ht rfl), trivial⟩) (rm rfl (ro rfl (op_extract (Ht rfl) rfl) (ro rfl (op_extract (Ht rfl) rfl) ?_))))))))))
   refine rn rfl (new_alloc (Ts := [Is (.bool false), Is (.slice none 0 0), Is (.bool false), Is (.slice none 0 0), Is (.slice none 0 0)]) O_49 rfl (fun V => Cells.cons' ⟨rfl, trivial⟩ (Cells.cons' ⟨rfl, trivial⟩ (Cells.cons' ⟨rfl, trivial⟩ (Cells.cons' ⟨rfl, trivial⟩ (Cells.cons' ⟨rfl, trivial⟩ (Cells.nil))))))) fun B11 => R_stA Z_49 (Ht rfl) (Ht rfl) rfl (i := 3) rfl (Nat.le_of_ble_eq_true rfl) rfl rfl (ra rfl (R_nil (ts (rm rfl (ro rfl (op_neq (Ht rfl) Has.c) (rm rfl (R_step rfl rfl (S_when rfl rfl (Ht rfl) (fun h => op_ldBA A_49 Z_49 (Ht rfl) (i := 3) rfl rfl rfl)) ?_)))))))
   refine R_step rfl rfl (S_when rfl rfl (Ht rfl) (fun h => op_ldBA A_81 Z_81 (Ht rfl) (i := 2) rfl rfl rfl)) (R_step rfl rfl (S_when rfl rfl (Ht rfl) (fun h => op_call Tryz.call129 (c_lawIs (x := gm s i j) (y := gm s i j) (L := L) (M := L) hL hL) ⟨(Has.w rfl h), (Has.w rfl h), trivial⟩)) (R_step rfl rfl (S_when rfl rfl (Ht rfl) (fun h => op_not (Has.w rfl h))) (ro rfl (op_or (Ht rfl) (fun h => (Has.w rfl h))) (R_nil (T_condF (Ht rfl) (by simp) ?_)))))
   refine T_skip (T_blk (T_region (ro rfl (op_addN (Ht rfl) (Has.cN 1) (by show _ < 9223372036854775808; first | omega | (simp only [lim]; omega))) (rm rfl (R_nil (T_keep [0, 1] rfl (by decide) (T_again (j + 1) hf (by omega) (Sub.cons rfl (Sub.cons rfl (Sub.cons rfl (Sub.cons rfl (Sub.cons rfl (Sub.cons rfl (Sub.cons rfl (Sub.cons rfl (Sub.cons rfl Sub.nil))))))))) (HSub.refl _))))))))
  ·refine T_exit rfl (T_blk (T_region (ro rfl (op_addN (Ht rfl) (Has.cN 1) (by show _ < 9223372036854775808; first | omega | (simp only [lim]; omega))) (rm rfl (R_nil (T_keep [0, 1] rfl (by decide) (T_again (i + 1) hd (by omega) (Sub.cons rfl (Sub.cons rfl (Sub.cons rfl (Sub.cons rfl (Sub.cons rfl Sub.nil))))) (HSub.refl _))))))))
 ·refine T_exit rfl (ts (ro rfl (op_assign Has.c) (R_nil ?_)))
  exact T_ret1 rfl (rv_tmp rfl)
set_option maxRecDepth 20000 in
theorem c_ans4 {z : List Qi} {s : List (List Qi)} {e : Int} {L : Nat} (hz : FitL z L) (hs : FitM s L) (hL1 : 1 ≤ L) (hL : L ≤ 8796093022208) (hsh : Shp s z.length z.length) (hl : z.length ≤ 1000) : Fun Tryz.prog 24 [NetT z s, IntT .i64 e, RNetT z s, IntT .i64 e] (BoolT true) := by
 refine Fun.intro Tryz.func24 rfl Tryz.ntmps24 rfl (fun cx => (ts (rn rfl (new_box (Ht rfl)) fun B4 => (rn rfl (new_box (Ht rfl)) fun B6 => (ro rfl (op_assign Has.c) (R_nil (ts (rm rfl (rm rfl (ro rfl (op_eql (Ht rfl) (Ht rfl)) (rm rfl (R_step rfl rfl (S_when rfl rfl (Ht rfl) (fun h => op_ldBA A_30 Z_30 (Ht rfl) (i := 0) rfl rfl rfl)) (R_step rfl rfl (S_when rfl rfl (Ht rfl) (fun h => op_ldBA A_34 Z_34 (Ht rfl) (i := 1) rfl rfl rfl)) (R_step rfl rfl (S_when rfl rfl (Ht rfl) (fun h => op_call Tryz.call80 (c_is4 hz hs hL1 hL hsh hl) ⟨(Has.w rfl h), (Has.w rfl h), trivial⟩)) ?_))))))))))))))
 refine ro rfl (op_and (Ht rfl) (fun h => (Has.w rfl h))) (ra rfl (R_nil (T_ret1 rfl (rv_to (rv_tmp rfl) ?_))))
 exact (bool_of (by simp))
end Go.Proofs.YtbnpmobaglfcbaaGreat
namespace Go.Proofs.YtbnpmobaglfcbaaGreat
open Go Go.RowKit
theorem tm_bound (x : Int) {b : Int} (h : 0 < b) : -b < x.tmod b ∧ x.tmod b < b := by
  by_cases hx : 0 ≤ x
  · rw [Int.tmod_eq_emod_of_nonneg hx]
    have h1 := Int.emod_nonneg x (by omega : b ≠ 0)
    have h2 := Int.emod_lt_of_pos x h
    omega
  · have e : x.tmod b = -((-x).tmod b) := by rw [Int.neg_tmod, Int.neg_neg]
    rw [e, Int.tmod_eq_emod_of_nonneg (by omega : 0 ≤ -x)]
    have h1 := Int.emod_nonneg (-x) (by omega : b ≠ 0)
    have h2 := Int.emod_lt_of_pos (-x) h
    omega
def absI (x : Int) : Int := if x < 0 then -x else x
theorem absI_b {x : Int} {b : Int} (h : -b < x ∧ x < b) : 0 ≤ absI x ∧ absI x < b := by unfold absI; split <;> omega
def smR (r : Rt) : Rt where
  re := r.re.tmod 9
  im := r.im.tmod 9
  den := absI (r.den.tmod 4) + 1
  h1 := by have := tm_bound r.re (b := 9) (by decide); omega
  h2 := by have := tm_bound r.re (b := 9) (by decide); omega
  h3 := by have := tm_bound r.im (b := 9) (by decide); omega
  h4 := by have := tm_bound r.im (b := 9) (by decide); omega
  h5 := by have := absI_b (tm_bound r.den (b := 4) (by decide)); omega
  h6 := by have := absI_b (tm_bound r.den (b := 4) (by decide)); omega
def imR (r : Rt) : Rt where
  re := absI (smR r).re + 1
  im := 0
  den := (smR r).den
  h1 := by have := absI_b (tm_bound r.re (b := 9) (by decide)); show _ ≤ absI (r.re.tmod 9) + 1; omega
  h2 := by have := absI_b (tm_bound r.re (b := 9) (by decide)); show absI (r.re.tmod 9) + 1 ≤ _; omega
  h3 := by decide
  h4 := by decide
  h5 := (smR r).h5
  h6 := (smR r).h6
def pkR (l : List Rt) (i : Nat) : Rt := if l.length = 0 then default else l.getD (i % l.length) default
def plN (a : Nat) : Nat := a % 4 + 1
def plZ (a : Nat) (zl : List Rt) : List Rt := tab (plN a) fun i => imR (pkR zl i)
def plS (a : Nat) (sl : List Rt) : List (List Rt) := tab (plN a) fun i => tab (plN a) fun j => smR (pkR sl (plN a * i + j))
theorem imR_pos (r : Rt) : posQ (imR r).q = true := by
  have h1 := absI_b (tm_bound r.re (b := 9) (by decide))
  have h2 := absI_b (tm_bound r.den (b := 4) (by decide))
  have hd : (imR r).d = absI (r.den.tmod 4) + 1 := by
    show (if absI (r.den.tmod 4) + 1 = 0 then 1 else absI (r.den.tmod 4) + 1) = _
    rw [if_neg (by omega)]
  have hq : (imR r).q = Qi.frac (absI (r.re.tmod 9) + 1) 0 (absI (r.den.tmod 4) + 1) := by rw [Rt.q, hd]; rfl
  have hb : (imR r).q.b = 0 := Qi.b_zero.2 (by rw [hq]; show ((0 : Int) : Rat) / _ = 0; rw [Rat.div_def]; exact Rat.zero_mul _)
  have ha : 0 < (imR r).q.a := by
    rw [Qi.a_pos, hq]
    show (0 : Rat) < ((absI (r.re.tmod 9) + 1 : Int) : Rat) / ((absI (r.den.tmod 4) + 1 : Int) : Rat)
    rw [Rat.div_def]
    refine Rat.mul_pos (Rat.intCast_pos.2 (by omega)) (Rat.inv_pos.2 (Rat.intCast_pos.2 (by omega)))
  simp only [posQ, hb, ha, and_self, decide_true]
theorem pl_err (a : Nat) (zl sl : List Rt) : netErr ((plZ a zl).map Rt.q) (rq (plS a sl)) = 0 := by
  have hz : ((plZ a zl).map Rt.q).length = plN a := by rw [List.length_map, plZ, tab_len]
  have hs : (rq (plS a sl)).length = plN a := by rw [List.length_map, plS, tab_len]
  have hn : plN a ≤ 4 := by unfold plN; omega
  have hn1 : 1 ≤ plN a := by unfold plN; omega
  rw [netErr, if_neg, if_pos]
  · rw [List.all_eq_true]
    intro x hx
    obtain ⟨r, hr, rfl⟩ := List.mem_map.1 hx
    obtain ⟨i, _, rfl⟩ := tab_mem.1 hr
    exact imR_pos _
  · rw [hz, hs]
    rintro (h | h | h | h)
    · omega
    · omega
    · exact h rfl
    · obtain ⟨r, hr, h2⟩ := List.any_eq_true.1 h
      obtain ⟨y, hy, rfl⟩ := List.mem_map.1 hr
      obtain ⟨i, _, rfl⟩ := tab_mem.1 hy
      simp [tab_len] at h2
end Go.Proofs.YtbnpmobaglfcbaaGreat
namespace Go.Proofs.YtbnpmobaglfcbaaGreat
open Go Go.RowKit
theorem bld_26_0_1_2 {n : Nat} {E : Env} {H : Hp} {d : Option Tmp} {t : TypeId} {pos : String} {af : Array Edge} {g : Option (Nat × Bool)} {x0 x1 x2 : Operand} {T0 T1 T2 : Ty} [s0 : Shape T0 1 false] (h0 : Has E x0 T0) [s1 : Shape T1 1 false] (h1 : Has E x1 T1) [s2 : Shape T2 1 false] (h2 : Has E x2 T2) :
    OpTy Tryz.prog n E H ⟨d, .build 26 #[(0, x0), (1, x1), (2, x2)], t, pos, af, g⟩ (AggT [T0, T1, T2]) :=
  op_build (parts := [(0, x0), (1, x1), (2, x2)]) fun a V w hs => by
    have p0 := h0 n V a hs
    generalize e0 : a.eval x0 = v0 at p0
    have q0 := (s0.ok v0 V p0).2.2 rfl
    have p1 := h1 n V a hs
    generalize e1 : a.eval x1 = v1 at p1
    have q1 := (s1.ok v1 V p1).2.2 rfl
    have p2 := h2 n V a hs
    generalize e2 : a.eval x2 = v2 at p2
    have q2 := (s2.ok v2 V p2).2.2 rfl
    refine ⟨.agg #[v0, v1, v2], ?_, [v0, v1, v2], rfl, Cells.cons' (⟨p0, q0⟩) (Cells.cons' (⟨p1, q1⟩) (Cells.cons' (⟨p2, q2⟩) (Cells.nil)))⟩
    simp [e0, e1, e2, Instr.build, Instr.fill, Sem.run_bind, Result.andThen, cells_agg, q0.cells, q1.cells, q2.cells, O_26, U_26, Z_2]
end Go.Proofs.YtbnpmobaglfcbaaGreat
namespace Go.Proofs.YtbnpmobaglfcbaaGreat
open Go Go.RowKit
set_option maxRecDepth 20000 in
theorem c_small {r : Rt} : Fun Tryz.prog 17 [RatT r] (RatT (smR r)) := by
 have b1 := tm_bound r.den (b := 4) (by decide)
 refine Fun.intro Tryz.func17 rfl Tryz.ntmps17 rfl (fun cx => (ts (rn rfl (new_box (Ht rfl)) fun B1 => (rn rfl (new_alloc (Ts := [Is (.int .i64 0), Is (.int .i64 0), Is (.int .i64 0)]) O_26 rfl (fun V => Cells.cons' ⟨rfl, trivial⟩ (Cells.cons' ⟨rfl, trivial⟩ (Cells.cons' ⟨rfl, trivial⟩ (Cells.nil))))) fun B2 => (R_nil (ts (ro rfl (op_fldB fa_26_2 (Ht rfl) rfl) (ro rfl (op_ldB A_2 Z_2 (Ht rfl) (i := 0) rfl rfl) (ro rfl (op_rem (Ht rfl) Has.c (by decide) rfl) (ra rfl (R_nil (T_seq (T_join (fun (d : Int) => d = absI (r.den.tmod 4)) (fun (d : Int) => [(1, PtrB B1 0), (2, PtrB B2 0), (3, IntT .i64 d)]) (fun (d : Int) => [box B1 26 [IntT .i64 r.re, IntT .i64 r.im, IntT .i64 r.den], box B2 26 [Is (.int .i64 0), Is (.int .i64 0), Is (.int .i64 0)]]) ?_ (fun d hd => ?_))))))))))))))
 ·refine ts (rm rfl (ro rfl (op_lss (Ht rfl) Has.c) (R_nil (T_cond (Ht rfl) (fun hb => ?_) (fun hb => ?_)))))
  ·have hb2 : r.den.tmod 4 < 0 := of_decide_eq_true hb
   refine T_region (rm rfl (ro rfl (op_neg (Ht rfl) (w64 (by omega))) (ra rfl (R_nil (T_joined (-(r.den.tmod 4)) (by rw [absI, if_pos hb2]) (Sub.cons rfl (Sub.cons rfl (Sub.cons rfl Sub.nil))) (HSub.refl _))))))
  ·have hb2 : ¬ r.den.tmod 4 < 0 := of_decide_eq_false hb
   refine T_skip (T_joined (r.den.tmod 4) (by rw [absI, if_neg hb2]) (Sub.cons rfl (Sub.cons rfl (Sub.cons rfl Sub.nil))) (HSub.refl _))
 ·have b2 := absI_b b1
  rw [← hd] at b2
  refine ts (ro rfl (op_fldB fa_26_0 (Ht rfl) rfl) (ro rfl (op_ldB A_2 Z_2 (Ht rfl) (i := 0) rfl rfl) (ro rfl (op_rem (Ht rfl) Has.c (by decide) rfl) (ro rfl (op_fldB fa_26_1 (Ht rfl) rfl) (ro rfl (op_ldB A_2 Z_2 (Ht rfl) (i := 0) rfl rfl) (ro rfl (op_rem (Ht rfl) Has.c (by decide) rfl) (rm rfl (ro rfl (op_add (Ht rfl) Has.c (w64 (by omega))) (ro rfl (bld_26_0_1_2 (Ht rfl) (Ht rfl) (Ht rfl)) (R_stA Z_26 (Ht rfl) (Ht rfl) rfl (i := 1) rfl (Nat.le_of_ble_eq_true rfl) rfl rfl (R_nil (T_ret1 rfl (rv_to (rv_cell A_26 Z_26 rfl (i := 1) rfl rfl) ?_)))))))))))))
  exact (fun v V h => by rw [hd] at h; exact h)
set_option maxRecDepth 20000 in
theorem c_imped {r : Rt} : Fun Tryz.prog 81 [RatT r] (RatT (imR r)) := by
 have b1 : -9 < (smR r).re ∧ (smR r).re < 9 := tm_bound r.re (b := 9) (by decide)
 refine Fun.intro Tryz.func81 rfl Tryz.ntmps81 rfl (fun cx => (ts (rn rfl (new_box (Ht rfl)) fun B1 => (rn rfl (new_alloc (Ts := [Is (.int .i64 0), Is (.int .i64 0), Is (.int .i64 0)]) O_26 rfl (fun V => Cells.cons' ⟨rfl, trivial⟩ (Cells.cons' ⟨rfl, trivial⟩ (Cells.cons' ⟨rfl, trivial⟩ (Cells.nil))))) fun B2 => (R_nil (ts (ro rfl (op_ldBA A_26 Z_26 (Ht rfl) (i := 0) rfl rfl rfl) (ro rfl (op_call Tryz.call17 c_small ⟨(Ht rfl), trivial⟩) (rn rfl (new_alloc (Ts := [Is (.int .i64 0), Is (.int .i64 0), Is (.int .i64 0)]) O_26 rfl (fun V => Cells.cons' ⟨rfl, trivial⟩ (Cells.cons' ⟨rfl, trivial⟩ (Cells.cons' ⟨rfl, trivial⟩ (Cells.nil))))) fun B3 => ?_)))))))))
 refine R_stA Z_26 (Ht rfl) (Ht rfl) rfl (i := 2) rfl (Nat.le_of_ble_eq_true rfl) rfl rfl (R_nil (T_seq (T_join (fun (x : Int) => x = absI (smR r).re) (fun (x : Int) => [(1, PtrB B1 0), (2, PtrB B2 0), (3, PtrB B3 0)]) (fun (x : Int) => [box B1 26 [IntT .i64 r.re, IntT .i64 r.im, IntT .i64 r.den], box B2 26 [Is (.int .i64 0), Is (.int .i64 0), Is (.int .i64 0)], box B3 26 [IntT .i64 x, IntT .i64 (smR r).im, IntT .i64 (smR r).den]]) ?_ (fun x hx => ?_))))
 ·refine ts (ro rfl (op_fldB fa_26_0 (Ht rfl) rfl) (ro rfl (op_ldB A_2 Z_2 (Ht rfl) (i := 2) rfl rfl) (ro rfl (op_lss (Ht rfl) Has.c) (R_nil (T_cond (Ht rfl) (fun hb => ?_) (fun hb => ?_))))))
  ·have hb2 : (smR r).re < 0 := of_decide_eq_true hb
   refine T_region (ro rfl (op_fldB fa_26_0 (Ht rfl) rfl) (ro rfl (op_ldB A_2 Z_2 (Ht rfl) (i := 2) rfl rfl) (ro rfl (op_neg (Ht rfl) (w64 (by omega))) (ro rfl (op_fldB fa_26_0 (Ht rfl) rfl) (R_st Z_2 (Ht rfl) (Ht rfl) (i := 2) rfl (Nat.le_of_ble_eq_true rfl) rfl (R_nil (T_joined (-((smR r).re)) (by rw [absI, if_pos hb2]) (Sub.cons rfl (Sub.cons rfl (Sub.cons rfl Sub.nil))) (HSub.refl _))))))))
  ·have hb2 : ¬ (smR r).re < 0 := of_decide_eq_false hb
   refine T_skip (T_joined ((smR r).re) (by rw [absI, if_neg hb2]) (Sub.cons rfl (Sub.cons rfl (Sub.cons rfl Sub.nil))) (HSub.refl _))
 ·have b2 := absI_b b1
  rw [← hx] at b2
  refine ts (ro rfl (op_fldB fa_26_0 (Ht rfl) rfl) (ro rfl (op_ldB A_2 Z_2 (Ht rfl) (i := 2) rfl rfl) (ro rfl (op_add (Ht rfl) Has.c (w64 (by omega))) (ro rfl (op_fldB fa_26_2 (Ht rfl) rfl) (ro rfl (op_ldB A_2 Z_2 (Ht rfl) (i := 2) rfl rfl) (ro rfl (bld_26_0_2 (Ht rfl) (Ht rfl)) (R_stA Z_26 (Ht rfl) (Ht rfl) rfl (i := 1) rfl (Nat.le_of_ble_eq_true rfl) rfl rfl (R_nil (T_ret1 rfl (rv_to (rv_cell A_26 Z_26 rfl (i := 1) rfl rfl) ?_))))))))))
  exact (fun v V h => by rw [hx] at h; exact h)
set_option maxRecDepth 20000 in
theorem c_pick {l : List Rt} {i : Nat} : Fun Tryz.prog 82 [RatsT l, NT .i64 i] (RatT (pkR l i)) := by
 refine Fun.intro Tryz.func82 rfl Tryz.ntmps82 rfl (fun cx => (ts (rn rfl (new_alloc (Ts := [Is (.int .i64 0), Is (.int .i64 0), Is (.int .i64 0)]) O_26 rfl (fun V => Cells.cons' ⟨rfl, trivial⟩ (Cells.cons' ⟨rfl, trivial⟩ (Cells.cons' ⟨rfl, trivial⟩ (Cells.nil))))) fun B4 => (R_nil (T_seq (ts (rm rfl (ro rfl (op_len U_22 (Ht rfl) len_map) (ro rfl (op_eqlN (Ht rfl) (Has.cN 0)) (R_nil (T_cond (Ht rfl) (fun hb => ?_) (fun hb => ?_))))))))))))
 ·have hb2 : l.length = 0 := by simpa only [decide_eq_true_eq] using hb
  refine ts (ro rfl (bld_26_ ) (R_stA Z_26 (Ht rfl) (Ht rfl) rfl (i := 0) rfl (Nat.le_of_ble_eq_true rfl) rfl rfl (R_nil (T_ret1 rfl (rv_to (rv_cell A_26 Z_26 rfl (i := 0) rfl rfl) ?_)))))
  exact (fun v V h => by rw [pkR, if_pos hb2]; exact h)
 ·have hb2 : ¬ l.length = 0 := by simpa only [decide_eq_false_iff_not] using hb
  have hm := Nat.mod_lt i (Nat.pos_of_ne_zero hb2)
  refine T_skip (ts (rm rfl (rm rfl (rm rfl (ro rfl (op_len U_22 (Ht rfl) len_map) (ro rfl (op_remN (Ht rfl) (Ht rfl) (by omega)) (ro rfl (op_idx U_22 Z_26 (Ht rfl) (Ht rfl) rfl (map_get (getD_some (d := default) hm))) (ro rfl (op_ld A_26 Z_26 (Ht rfl)) (R_stA Z_26 (Ht rfl) (Ht rfl) rfl (i := 0) rfl (Nat.le_of_ble_eq_true rfl) rfl rfl (R_nil (T_ret1 rfl (rv_to (rv_cell A_26 Z_26 rfl (i := 0) rfl rfl) ?_))))))))))))
  exact (fun v V h => by rw [pkR, if_neg hb2]; exact h)
end Go.Proofs.YtbnpmobaglfcbaaGreat
namespace Go.Proofs.YtbnpmobaglfcbaaGreat
open Go Go.RowKit
theorem fa_24_0 (a : Addr) (w : World) : (Instr.fieldAt 24 (.pointer (some a)) 0).run Tryz.prog w = .ok (.pointer (some (a.add 0))) w := by
  simp [Instr.fieldAt, Instr.sureAddr, fieldPlace, Sem.run_bind, Result.andThen, U_24, Z_5]
theorem fa_24_1 (a : Addr) (w : World) : (Instr.fieldAt 24 (.pointer (some a)) 1).run Tryz.prog w = .ok (.pointer (some (a.add 1))) w := by
  simp [Instr.fieldAt, Instr.sureAddr, fieldPlace, Sem.run_bind, Result.andThen, U_24, Z_22]
theorem fa_24_2 (a : Addr) (w : World) : (Instr.fieldAt 24 (.pointer (some a)) 2).run Tryz.prog w = .ok (.pointer (some (a.add 2))) w := by
  simp [Instr.fieldAt, Instr.sureAddr, fieldPlace, Sem.run_bind, Result.andThen, U_24, Z_22]
theorem info_22 : Tryz.prog.info? 22 = some Tryz.t22 := by kernel_rfl
theorem info_26 : Tryz.prog.info? 26 = some Tryz.t26 := by kernel_rfl
theorem und_22 : Tryz.prog.underlying 22 = some (.slice 26) := by kernel_rfl
end Go.Proofs.YtbnpmobaglfcbaaGreat
namespace Go.Proofs.YtbnpmobaglfcbaaGreat
open Go Go.RowKit
abbrev PartT (a : Nat) (zl sl : List Rt) : Ty := AggT [NT .u8 a, RatsT zl, RatsT sl]
theorem rat0_p : ∀ V, (RatT default).p (.agg #[.int .i64 0, .int .i64 0, .int .i64 0]) V := fun V => ⟨[.int .i64 0, .int .i64 0, .int .i64 0], rfl, Cells.cons' ⟨rfl, trivial⟩ (Cells.cons' ⟨rfl, trivial⟩ (Cells.cons' ⟨rfl, trivial⟩ Cells.nil))⟩
theorem frzG {B e s l : Nat} {BT : TypeId} {Rs : List (List Ty)} {q : Value → Prop} (hl : l = Rs.length) : ∀ u S V, (Is (.slice (some ⟨B, 0, none⟩) l l)).p u V → (matP q B BT e s Rs).h S V V → (SlT 1 (Rs.map (SlT s))).p u V := fun u S V h1 h2 => frz_mat hl (Nat.le_refl _) u S V h1 h2
theorem plS_rows (a : Nat) (sl : List Rt) : (tab (plN a) fun i => tab (plN a) fun j => RatT (smR (pkR sl (plN a * i + j)))).map (SlT 3) = (plS a sl).map RatsT := by
  rw [plS, tab_map, tab_map]
  refine tab_congr fun i _ => ?_
  rw [RatsT, tab_map]
set_option maxRecDepth 20000 in
theorem c_PlainO {a : Nat} {zl sl : List Rt} (ha : a < 256) : FunO Tryz.prog 16 [PartT a zl sl] [] (Nat) (fun B => TupT [RatsT (plZ a zl), Is (.slice (some ⟨B, 0, none⟩) (plN a) (plN a))]) (fun B => [matO B 22 26 3 (tab (plN a) (fun i => tab (plN a) fun j => RatT (smR (pkR sl (plN a * i + j)))))]) (fun _ => True) := by
 have hn : plN a ≤ 4 := by unfold plN; omega
 have hn0 : a % 4 + 1 = plN a := rfl
 refine FunO.intro Tryz.func16 rfl Tryz.ntmps16 rfl (fun cx Z => (ts (rn rfl (new_box (Ht rfl)) fun B1 => (ro rfl (op_assign Has.c) (ro rfl (op_assign Has.c) (R_nil (ts (ro rfl (op_fldB fa_24_0 (Ht rfl) rfl) (ro rfl (op_ldB A_5 Z_5 (Ht rfl) (i := 1) rfl rfl) (ro rfl (op_remN (Ht rfl) (Has.cN 4) (by omega)) (ro rfl (op_convN U_5 U_3 (Ht rfl) (by show _ < 9223372036854775808; first | omega | (simp only [lim]; omega))) (ro rfl (OpTy.nat (op_addN (Ht rfl) (Has.cN 1) (by show _ < 9223372036854775808; first | omega | (simp only [lim]; omega))) hn0) ?_))))))))))))
 refine ra rfl (R_nil (T_seq (C.D_start (m := 5) (dp 4 rfl (op_move (Ht rfl)) (C.D_new (Ei := [(14, _)]) rfl rfl rfl (C.Srcs.cons (C.Src.op 0 rfl rfl) C.Srcs.nil) (new_makeO (T := RatT default) (i := Tryz.t26) und_22 info_26 rfl rfl (Ht rfl) rfl rat0_p (El.ag rfl) (by show 24 * _ ≤ _; omega) (by omega)) (dp 4 rfl (op_move (Ht rfl)) (C.D_new (Ei := [(16, _)]) rfl rfl rfl (C.Srcs.cons (C.Src.op 2 rfl rfl) C.Srcs.nil) (new_make (T := Is (.slice none 0 0)) (i := Tryz.t22) Tryz.underlying37 info_22 rfl rfl (Ht rfl) rfl (fun _ => rfl) trivial (by show 24 * _ ≤ _; omega) (by omega)) (C.D_cpy 1 rfl rfl rfl rfl rfl C.cpy_assign ?_))))))))
 refine C.D_done mixed rfl (by kernel_rfl) (C.F_val (C.F_new (fun B15 => C.F_val (C.F_new (fun B17 => C.F_cpy rfl (C.F_nil (ra rfl (R_nil (T_seq (ts (rm rfl (ro rfl (op_lenO U_22 (Ht rfl) (i := 2) rfl (show ((List.replicate (plN a) (RatT default)).length : Int) = ((plN a : Nat) : Int) from by simp)) (ro rfl (op_move (Has.cN 0)) (R_nil (T_block (T_conv 3 rfl (mat_nil (e := 26) (s := 3)) ?_))))))))))))))))
 refine T_loop (fun (i : Nat) => i ≤ plN a) (fun (i : Nat) => plN a - i) (fun (i : Nat) => [(1, PtrB B1 0), (4, NT .i64 (plN a)), (5, Is B15), (6, Is (.slice (some ⟨B17, 0, none⟩) (plN a) (plN a))), (19, NT .i64 (plN a)), (20, NT .i64 i)]) (fun (i : Nat) => [Z, box B1 24 [NT .u8 a, RatsT zl, RatsT sl], rowO 26 3 B15 (mixT (fun i => RatT (imR (pkR zl i))) (RatT default) (plN a) i), matO B17 22 26 3 (mixT (fun i => tab (plN a) fun j => RatT (smR (pkR sl (plN a * i + j)))) [] (plN a) i)]) 0 (Nat.zero_le _)
  (Sub.cons rfl (Sub.cons rfl (Sub.cons rfl (Sub.cons rfl (Sub.to rfl (nt_of (by simp)) (Sub.cons rfl Sub.nil)))))) (HSub.cons (fun _ _ _ h => h) (HSub.cons (box_of rfl) (HSub.cons (rowO_of (by rw [← mix_zero]; exact rep_tab _ _)) (HSub.cons (matO_of (by rw [← mix_zero]; exact rep_tab _ _)) HSub.nil)))) (fun i hi => ?_)
 refine ts (ro rfl (op_lssN (Ht rfl) (Ht rfl)) (R_nil (T_seq (T_cond (Ht rfl) (fun hd => ?_) (fun hd => ?_)))))
 ·simp only [decide_eq_true_eq] at hd
  have hni : plN a * i ≤ 4 * 4 := Nat.mul_le_mul hn (by omega)
  refine T_focus 3 (i) rfl (mix_get hd) (fun v0 => (T_skip (T_seq (T_block (ts (rm rfl (ra rfl (R_nil (ts (rm rfl (rm rfl (ro rfl (op_fldB fa_24_1 (Ht rfl) rfl) (ro rfl (op_ldB A_22 Z_22 (Ht rfl) (i := 1) rfl rfl) (rm rfl (ro rfl (op_call Tryz.call82 c_pick ⟨(Ht rfl), (Ht rfl), trivial⟩) (ro rfl (op_call Tryz.call81 c_imped ⟨(Ht rfl), trivial⟩) (ro rfl (op_idxO U_22 Z_26 (Ht rfl) (Ht rfl) rfl (i := 2) rfl (by rw [mix_len]; omega) rfl) ?_)))))))))))))))))
  refine R_stO Z_26 (Ht rfl) (Ht rfl) (El.ag rfl) (i := 2) rfl rfl (by rw [mix_len]; omega) rfl ?_
  refine R_nil (ts (rm rfl (rm rfl (rm rfl (rn rfl (new_makeO (T := RatT default) (i := Tryz.t26) und_22 info_26 rfl rfl (Ht rfl) rfl rat0_p (El.ag rfl) (by show 24 * _ ≤ _; omega) (by omega)) fun B34 => (ro rfl (op_idxB U_37 Z_22 (Ht rfl) (Ht rfl) rfl (by omega) (by rw [Nat.mul_one, Nat.zero_add])) ?_))))))
  refine R_stH Z_22 (Ht rfl) (Ht rfl) (by rw [mix_len]; omega) (j := 3) (l := 5) rfl rfl rfl ?_
  refine R_nil (T_seq (T_keep [0, 1, 2, 3, 5] rfl (by decide) (T_region (rm rfl (rm rfl (ro rfl (op_idxB U_37 Z_22 (Ht rfl) (Ht rfl) rfl (by omega) (by rw [Nat.mul_one, Nat.zero_add])) ?_))))))
  refine ro rfl (op_ldH A_22 Z_22 (Ht rfl) (j := 3) rfl) (ro rfl (op_lenO U_22 (Ht rfl) (i := 4) rfl (show ((List.replicate (plN a) (RatT default)).length : Int) = ((plN a : Nat) : Int) from by simp)) (ro rfl (op_move (Has.cN 0)) (R_nil (T_block ?_))))
  refine T_loop (fun (j : Nat) => j ≤ plN a) (fun (j : Nat) => plN a - j) (fun (j : Nat) => [(1, PtrB B1 0), (4, NT .i64 (plN a)), (5, Is B15), (6, Is (.slice (some ⟨B17, 0, none⟩) (plN a) (plN a))), (7, NT .i64 i), (19, NT .i64 (plN a)), (20, NT .i64 i), (40, NT .i64 (plN a)), (41, NT .i64 j)]) (fun (j : Nat) => [Z, box B1 24 [NT .u8 a, RatsT zl, RatsT sl], rowO 26 3 B15 (mixT (fun i => RatT (imR (pkR zl i))) (RatT default) (plN a) (i + 1)), matH B17 22 26 3 (mixT (fun i => tab (plN a) fun j => RatT (smR (pkR sl (plN a * i + j)))) [] (plN a) i) i B34, rowO 26 3 B34 (mixT (fun j => RatT (smR (pkR sl (plN a * i + j)))) (RatT default) (plN a) j)]) 0 (Nat.zero_le _)
   (Sub.cons rfl (Sub.cons rfl (Sub.cons rfl (Sub.cons rfl (Sub.cons rfl (Sub.cons rfl (Sub.cons rfl (Sub.cons rfl (Sub.cons rfl Sub.nil))))))))) (HSub.cons (fun _ _ _ h => h) (HSub.cons (box_of rfl) (HSub.cons (rowO_of (mix_set (f := (fun i => RatT (imR (pkR zl i)))))) (HSub.cons (fun _ _ _ h => h) (HSub.cons (rowO_of (by rw [← mix_zero]; exact rep_tab _ _)) HSub.nil))))) (fun j hj => ?_)
  refine ts (ro rfl (op_lssN (Ht rfl) (Ht rfl)) (R_nil (T_seq (T_cond (Ht rfl) (fun he => ?_) (fun he => ?_)))))
  ·simp only [decide_eq_true_eq] at he
   refine T_skip (T_seq (T_block (ts (rm rfl (ra rfl (R_nil (C.D_start (m := 14) (dp 6 rfl (op_move (Ht rfl)) (dp 7 rfl (op_move (Ht rfl)) (dqq 44 0 45 1 rfl (op_idxB U_37 Z_22 (Ht rfl) (Ht rfl) rfl (by omega) (by rw [Nat.mul_one, Nat.zero_add])) ?_))))))))))
   refine dq 46 2 rfl (op_ldH A_22 Z_22 (Ht rfl) (j := 3) rfl) (dp 8 rfl (op_move (Ht rfl)) (dp 1 rfl (op_fldB fa_24_2 (Ht rfl) rfl) (dq 49 5 rfl (op_ldB A_22 Z_22 (Ht rfl) (i := 1) rfl rfl) (dp 4 rfl (op_move (Ht rfl)) (dp 7 rfl (op_move (Ht rfl)) (dqq 51 7 52 8 rfl (op_mulN (Ht rfl) (Ht rfl) (by show _ < 9223372036854775808; omega)) (dp 8 rfl (op_move (Ht rfl)) (dqq 53 9 54 10 rfl (op_addN (Ht rfl) (Ht rfl) (by show _ < 9223372036854775808; omega)) (dqq 50 6 55 11 rfl (op_call Tryz.call82 c_pick ⟨(Ht rfl), (Ht rfl), trivial⟩) (dq 56 12 rfl (op_call Tryz.call17 c_small ⟨(Ht rfl), trivial⟩) ?_))))))))))
   refine C.D_done mixed rfl (by kernel_rfl) (C.F_val (C.F_val (C.F_val (C.F_val (C.F_val (C.F_val (C.F_val (C.F_val (C.F_val (C.F_val (C.F_val (C.F_val (C.F_val (C.F_val (C.F_nil (ro rfl (op_idxO U_22 Z_26 (Ht rfl) (Ht rfl) rfl (i := 4) rfl (by rw [mix_len]; omega) rfl) ?_))))))))))))))))
   refine R_stO Z_26 (Ht rfl) (Ht rfl) (El.ag rfl) (i := 4) rfl rfl (by rw [mix_len]; omega) rfl ?_
   refine R_nil (T_blk (T_region (ro rfl (op_addN (Ht rfl) (Has.cN 1) (by show _ < 9223372036854775808; first | omega | (simp only [lim]; omega))) (rm rfl (R_nil (T_again (j + 1) he (by omega) (Sub.cons rfl (Sub.cons rfl (Sub.cons rfl (Sub.cons rfl (Sub.cons rfl (Sub.cons rfl (Sub.cons rfl (Sub.cons rfl (Sub.cons rfl Sub.nil))))))))) (HSub.cons (fun _ _ _ h => h) (HSub.cons (box_of rfl) (HSub.cons (fun _ _ _ h => h) (HSub.cons (fun _ _ _ h => h) (HSub.cons (rowO_of (mix_set (f := fun j => RatT (smR (pkR sl (plN a * i + j)))))) HSub.nil)))))))))))
  ·simp only [decide_eq_false_iff_not] at he
   have hjn : j = plN a := Nat.le_antisymm hj (by omega)
   rw [hjn, mix_fin]
   refine T_exit rfl (T_blk (T_unfocus 3 4 rfl rfl (by decide) (by rw [mix_len]; omega) ?_))
   refine T_region (ro rfl (op_addN (Ht rfl) (Has.cN 1) (by show _ < 9223372036854775808; first | omega | (simp only [lim]; omega))) (rm rfl (R_nil (T_keep [0, 1, 2, 3] rfl (by decide) (T_again (i + 1) hd (by omega) (Sub.cons rfl (Sub.cons rfl (Sub.cons rfl (Sub.cons rfl (Sub.cons rfl (Sub.cons rfl Sub.nil)))))) (HSub.cons (fun _ _ _ h => h) (HSub.cons (box_of rfl) (HSub.cons (fun _ _ _ h => h) (HSub.cons (matO_of (mix_set (f := (fun i => tab (plN a) fun j => RatT (smR (pkR sl (plN a * i + j))))))) HSub.nil)))))))))
 ·simp only [decide_eq_false_iff_not] at hd
  have hin : i = plN a := Nat.le_antisymm hi (by omega)
  rw [hin, mix_fin, mix_fin]
  refine T_exit rfl (T_freeze (i := 2) (tt := 5) rfl rfl frz_row (ts (rm rfl (rm rfl (ra rfl (ra rfl (R_nil ?_)))))))
  exact T_retO B17 trivial [0, 3] ⟨⟨_, rfl, fun _ _ _ h => h⟩, ⟨_, rfl, fun _ _ _ h => h⟩, trivial⟩ (by decide) (rvs2 rfl (rv_to (rv_tmp rfl) (slT_of (by rw [plZ, tab_map]))) (rv_tmp rfl))
theorem tup2 {T U U' : Ty} {v : Value} {V : View} (h : (TupT [T, U]).p v V) (hU : ∀ u, U.p u V → U'.p u V) : (TupT [T, U']).p v V := by
  obtain ⟨vs, h1, h2⟩ := h
  match vs, h2 with
  | [x, y], ⟨a, b, c⟩ => exact ⟨[x, y], h1, a, hU y b, c⟩
theorem c_Plain {a : Nat} {zl sl : List Rt} (ha : a < 256) : Fun Tryz.prog 16 [PartT a zl sl] (TupT [RatsT (plZ a zl), RatM (plS a sl)]) := (c_PlainO ha).fun fun B _ v S V h1 h2 => tup2 h1 fun u hu => by
  exact slT_of (plS_rows a sl) u V (frzG (tab_len _ _).symm u S V hu h2)
set_option maxRecDepth 20000 in
theorem c_Build {a : Nat} {zl sl : List Rt} (ha : a < 256) : Fun Tryz.prog 15 [PartT a zl sl] (TupT [NetT ((plZ a zl).map Rt.q) (rq (plS a sl)), RNetT ((plZ a zl).map Rt.q) (rq (plS a sl)), BoolT true]) := by
 have hn : plN a ≤ 4 := by unfold plN; omega
 have herr := pl_err a zl sl
 have hzl : (plZ a zl).length = plN a := tab_len _ _
 have hsl : (plS a sl).length = plN a := tab_len _ _
 have hall : ∀ r, r ∈ plS a sl → r.length ≤ 1000 := fun r hr => by obtain ⟨i, _, rfl⟩ := tab_mem.1 hr; rw [tab_len]; omega
 have hsh := (netErr_ok herr).2.2.1
 have z1 : ((plZ a zl).map Rt.q).length ≤ 1000 := by rw [List.length_map, hzl]; omega
 have s1 : (rq (plS a sl)).length ≤ 1000 := by rw [List.length_map, hsl]; omega
 have hcv : ∀ v V, (TupT [NetT (okL (netErr ((plZ a zl).map Rt.q) (rq (plS a sl))) ((plZ a zl).map Rt.q)) (okL (netErr ((plZ a zl).map Rt.q) (rq (plS a sl))) (rq (plS a sl))), IntT .i64 (netErr ((plZ a zl).map Rt.q) (rq (plS a sl)))]).p v V → (TupT [NetT ((plZ a zl).map Rt.q) (rq (plS a sl)), IntT .i64 0]).p v V := by rw [herr]; exact fun _ _ h => h
 have hcv2 : ∀ v V, (TupT [RNetT (okL (netErr ((plZ a zl).map Rt.q) (rq (plS a sl))) ((plZ a zl).map Rt.q)) (okL (netErr ((plZ a zl).map Rt.q) (rq (plS a sl))) (rq (plS a sl))), IntT .i64 (netErr ((plZ a zl).map Rt.q) (rq (plS a sl)))]).p v V → (TupT [RNetT ((plZ a zl).map Rt.q) (rq (plS a sl)), IntT .i64 0]).p v V := by rw [herr]; exact fun _ _ h => h
 refine Fun.intro Tryz.func15 rfl Tryz.ntmps15 rfl (fun cx => (ts (rn rfl (new_box (Ht rfl)) fun B1 => (rn rfl (new_alloc (Ts := [Is (.slice none 0 0), Is (.slice none 0 0)]) O_30 rfl (fun V => Cells.cons' ⟨rfl, trivial⟩ (Cells.cons' ⟨rfl, trivial⟩ (Cells.nil)))) fun B2 => (rn rfl (new_alloc (Ts := [Is (.slice none 0 0), Is (.slice none 0 0)]) O_34 rfl (fun V => Cells.cons' ⟨rfl, trivial⟩ (Cells.cons' ⟨rfl, trivial⟩ (Cells.nil)))) fun B3 => (ro rfl (op_assign Has.c) (R_nil (ts (ro rfl (op_ldBA Tryz.isAgg24 Tryz.sizeOf24 (Ht rfl) (i := 0) rfl rfl rfl) (ro rfl (op_call Tryz.call16 (c_Plain ha) ⟨(Ht rfl), trivial⟩) ?_))))))))))
 refine rm rfl (ro rfl (op_extract (Ht rfl) rfl) (ro rfl (op_extract (Ht rfl) rfl) (ra rfl (ra rfl (R_nil (ts (rm rfl (ro rfl (op_call Tryz.call19 (c_lawList (by omega)) ⟨(Ht rfl), trivial⟩) (rm rfl (ro rfl (op_call Tryz.call20 (c_lawRows (by omega) hall) ⟨(Ht rfl), trivial⟩) (ro rfl (op_call Tryz.call18 (Fun.imp (c_netNew (z := ((plZ a zl).map Rt.q)) (s := (rq (plS a sl))) (L := 2) FitL.rt (by decide) z1 s1) hcv) ⟨(Ht rfl), (Ht rfl), trivial⟩) (rm rfl (ro rfl (op_extract (Ht rfl) rfl) (ro rfl (op_extract (Ht rfl) rfl) (rn rfl (new_alloc (Ts := [Is (.slice none 0 0), Is (.slice none 0 0)]) O_30 rfl (fun V => Cells.cons' ⟨rfl, trivial⟩ (Cells.cons' ⟨rfl, trivial⟩ (Cells.nil)))) fun B7 => ?_)))))))))))))))
 refine R_stA Z_30 (Ht rfl) (Ht rfl) rfl (i := 3) rfl (Nat.le_of_ble_eq_true rfl) rfl rfl (ra rfl (R_nil (ts (rm rfl (ro rfl (op_call Tryz.call22 (c_refList4 (by omega)) ⟨(Ht rfl), trivial⟩) (rm rfl (ro rfl (op_call Tryz.call23 (c_refRows4 (by omega) hall) ⟨(Ht rfl), trivial⟩) (ro rfl (op_call Tryz.call21 (Fun.imp (c_rnetNew (z := ((plZ a zl).map Rt.q)) (s := (rq (plS a sl))) (L := 2) FitL.rt (by decide) z1 s1) hcv2) ⟨(Ht rfl), (Ht rfl), trivial⟩) (rm rfl (ro rfl (op_extract (Ht rfl) rfl) (ro rfl (op_extract (Ht rfl) rfl) (rn rfl (new_alloc (Ts := [Is (.slice none 0 0), Is (.slice none 0 0)]) O_34 rfl (fun V => Cells.cons' ⟨rfl, trivial⟩ (Cells.cons' ⟨rfl, trivial⟩ (Cells.nil)))) fun B9 => ?_))))))))))))
 refine R_stA Z_34 (Ht rfl) (Ht rfl) rfl (i := 4) rfl (Nat.le_of_ble_eq_true rfl) rfl rfl (ra rfl (R_nil (T_seq (Y.D_start (m := 11) [(9, 1, box B2 30 [NumsT ((plZ a zl).map Rt.q), NumM (rq (plS a sl))]), (10, 2, box B3 34 [QsT ((plZ a zl).map Rt.q), QM (rq (plS a sl))])] (Y.D_step (Ei := [(7, _)]) rfl rfl (Y.Srcs.cons (Y.Src.pre rfl rfl) Y.Srcs.nil) rfl rfl (by kernel_rfl) (S_plain rfl (op_ldBA A_30 Z_30 (Ht rfl) (i := 3) rfl rfl rfl)) (Y.D_hide (Ei := [(9, _)]) rfl rfl (Y.Srcs.cons (Y.Src.pre rfl rfl) Y.Srcs.nil) rfl rfl (S_plain rfl (op_ldBA A_34 Z_34 (Ht rfl) (i := 4) rfl rfl rfl)) ?_))))))
 refine Y.D_step (Ei := [(8, _)]) rfl rfl (Y.Srcs.cons (Y.Src.pre rfl rfl) Y.Srcs.nil) rfl rfl (by kernel_rfl) (S_plain rfl (op_move (Ht rfl))) (Y.D_step (Ei := [(34, _)]) rfl rfl (Y.Srcs.cons (Y.Src.op 2 rfl rfl) Y.Srcs.nil) rfl rfl (by kernel_rfl) (S_plain rfl (op_eql (Ht rfl) Has.c)) (Y.D_step (Ei := [(35, _)]) rfl rfl (Y.Srcs.cons (Y.Src.op 3 rfl rfl) Y.Srcs.nil) rfl rfl (by kernel_rfl) (S_plain rfl (op_move (Ht rfl))) (Y.D_step (Ei := [(7, _), (36, _)]) rfl rfl (Y.Srcs.cons (Y.Src.pre rfl rfl) (Y.Srcs.cons (Y.Src.op 4 rfl rfl) Y.Srcs.nil)) rfl rfl (by kernel_rfl) (S_when rfl rfl (Ht rfl) (fun h => op_ldBA A_30 Z_30 (Ht rfl) (i := 3) rfl rfl rfl)) ?_)))
 refine Y.D_step (Ei := [(9, _), (36, _)]) rfl rfl (Y.Srcs.cons (Y.Src.pre rfl rfl) (Y.Srcs.cons (Y.Src.op 4 rfl rfl) Y.Srcs.nil)) rfl rfl (by kernel_rfl) (S_when rfl rfl (Ht rfl) (fun h => op_ldBA A_34 Z_34 (Ht rfl) (i := 4) rfl rfl rfl)) (Y.D_step (Ei := [(37, _), (38, _), (36, _)]) rfl rfl (Y.Srcs.cons (Y.Src.op 5 rfl rfl) (Y.Srcs.cons (Y.Src.op 6 rfl rfl) (Y.Srcs.cons (Y.Src.op 4 rfl rfl) Y.Srcs.nil))) rfl rfl (by kernel_rfl) (S_when rfl rfl (Ht rfl) (fun h => op_call Tryz.call80 (c_is4 (z := ((plZ a zl).map Rt.q)) (s := (rq (plS a sl))) (L := 2) FitL.rt FitM.rt (by decide) (by decide) hsh z1) ⟨(Has.w rfl h), (Has.w rfl h), trivial⟩)) ?_)
 refine Y.D_hide (Ei := [(36, _), (39, _)]) rfl rfl (Y.Srcs.cons (Y.Src.op 4 rfl rfl) (Y.Srcs.cons (Y.Src.op 7 rfl rfl) Y.Srcs.nil)) rfl rfl (S_plain rfl (op_and (Ht rfl) (fun h => (Has.w rfl h)))) (Y.D_putI (Ei := [(2, _), (32, _)]) 1 rfl rfl rfl (Y.Srcs.cons (Y.Src.pre rfl rfl) (Y.Srcs.cons (Y.Src.op 0 rfl rfl) Y.Srcs.nil)) (.head _) rfl (P_stA Z_30 (Ht rfl) (Ht rfl) rfl (i := 0) rfl (Nat.le_of_ble_eq_true rfl) rfl rfl) (Y.D_putI (Ei := [(3, _), (33, _)]) 2 rfl rfl rfl (Y.Srcs.cons (Y.Src.pre rfl rfl) (Y.Srcs.cons (Y.Src.op 1 rfl rfl) Y.Srcs.nil)) (.tail _ (.head _)) rfl (P_stA Z_34 (Ht rfl) (Ht rfl) rfl (i := 0) rfl (Nat.le_of_ble_eq_true rfl) rfl rfl) ?_))
 refine Y.D_done mixed rfl (by kernel_rfl) rfl (by simp [Y.okP]) rfl rfl (Y.F_val (Y.F_val (Y.F_val (Y.F_val (Y.F_val (Y.F_val (Y.F_val (Y.F_val (Y.F_val (Y.F_putI (Y.F_putI (Y.F_nil ?_))))))))))))
 refine ra rfl (R_nil (T_ret3 rfl (rv_cell A_30 Z_30 rfl (i := 1) rfl rfl) (rv_cell A_34 Z_34 rfl (i := 2) rfl rfl) (rv_to (rv_tmp rfl) ?_)))
 exact (bool_of (by simp))
end Go.Proofs.YtbnpmobaglfcbaaGreat
namespace Go.Proofs.YtbnpmobaglfcbaaGreat
open Go Go.RowKit
def peS (a : Nat) (sl : List Rt) (i j : Nat) (x : Rt) : List (List Rt) := (plS a sl).set (i % plN a) (((plS a sl).getD (i % plN a) []).set (j % plN a) (smR x))
theorem plN_pos (a : Nat) : 0 < plN a := by unfold plN; omega
theorem pe_rows (a : Nat) (sl : List Rt) (i j : Nat) (x : Rt) : (tab (plN a) (fun i => tab (plN a) fun j => RatT (smR (pkR sl (plN a * i + j))))).set (i % plN a) ((tab (plN a) fun k => RatT (smR (pkR sl (plN a * (i % plN a) + k)))).set (j % plN a) (RatT (smR x))) = (peS a sl i j x).map fun r => r.map RatT := by
  have h1 : (tab (plN a) (fun i => tab (plN a) fun j => RatT (smR (pkR sl (plN a * i + j))))) = (plS a sl).map fun r => r.map RatT := by rw [plS, tab_map]; exact tab_congr fun i _ => by rw [tab_map]
  have h2 : (tab (plN a) fun k => RatT (smR (pkR sl (plN a * (i % plN a) + k)))) = ((plS a sl).getD (i % plN a) []).map RatT := by rw [plS, tab_getD (Nat.mod_lt _ (plN_pos a)), tab_map]
  rw [peS, h1, h2, List.map_set, List.map_set]
theorem pe_len (a : Nat) (sl : List Rt) (i j : Nat) (x : Rt) : (peS a sl i j x).length = plN a := by rw [peS, List.length_set, plS, tab_len]
theorem pe_row {a : Nat} {sl : List Rt} {i j : Nat} {x : Rt} : ∀ r, r ∈ peS a sl i j x → r.length = plN a := fun r hr => by
  rcases List.mem_or_eq_of_mem_set hr with h | h
  · obtain ⟨i, _, rfl⟩ := tab_mem.1 h; exact tab_len _ _
  · rw [h, List.length_set, plS, tab_getD (Nat.mod_lt _ (plN_pos a)), tab_len]
theorem netErr_zero {z : List Qi} {s : List (List Qi)} (h1 : 1 ≤ z.length) (h8 : z.length ≤ 8) (hs : Shp s z.length z.length) (hp : z.all posQ = true) : netErr z s = 0 := by
  rw [netErr, if_neg, if_pos hp]
  rintro (h | h | h | h)
  · omega
  · omega
  · exact h hs.1
  · obtain ⟨r, hr, h2⟩ := List.any_eq_true.1 h
    simp [hs.2 r hr] at h2
theorem pe_err (a : Nat) (zl sl : List Rt) (i j : Nat) (x : Rt) : netErr ((plZ a zl).map Rt.q) (rq (peS a sl i j x)) = 0 := by
  obtain ⟨h1, h8, _, hp⟩ := netErr_ok (pl_err a zl sl)
  have hz : ((plZ a zl).map Rt.q).length = plN a := by rw [List.length_map, plZ, tab_len]
  refine netErr_zero h1 h8 ⟨by rw [List.length_map, pe_len, hz], fun r hr => ?_⟩ hp
  obtain ⟨q, hq, rfl⟩ := List.mem_map.1 hr
  rw [List.length_map, pe_row q hq, hz]
theorem frzR {B e l : Nat} {BT : TypeId} {q : Value → Prop} {Rs : List (List Ty)} {S' : List (List Rt)} (hR : Rs = S'.map fun r => r.map RatT) (hl : l = S'.length) : ∀ u S V, (Is (.slice (some ⟨B, 0, none⟩) l l)).p u V → (matP q B BT e 3 Rs).h S V V → (RatM S').p u V := fun u S V h1 h2 => by
  subst hR
  have h := frzG (s := 3) (l := l) (by rw [List.length_map]; exact hl) u S V h1 h2
  rw [List.map_map] at h; exact h
set_option maxHeartbeats 2000000 in
set_option maxRecDepth 20000 in
theorem c_NetworkEqual {a b i j : Nat} {zl sl zm sm : List Rt} {x : Rt} (ha : a < 256) (hb : b < 256) (hi : i < 256) (hj : j < 256) : Fun Tryz.prog 3 [PartT a zl sl, PartT b zm sm, NT .u8 i, NT .u8 j, RatT x] (BoolT true) := by
 have hn : plN a ≤ 4 := by unfold plN; omega
 have hn0 := plN_pos a
 have hI := Nat.mod_lt i hn0
 have hJ := Nat.mod_lt j hn0
 have hn2 : plN b ≤ 4 := by unfold plN; omega
 have herr := pe_err a zl sl i j x
 have hzl : (plZ a zl).length = plN a := tab_len _ _
 have hzl2 : (plZ b zm).length = plN b := tab_len _ _
 have hsl := pe_len a sl i j x
 have hall : ∀ r, r ∈ (peS a sl i j x) → r.length ≤ 1000 := fun r hr => by rw [pe_row r hr]; omega
 obtain ⟨h1, h8, hsh3, _⟩ := netErr_ok herr
 obtain ⟨_, _, hsh, _⟩ := netErr_ok (pl_err a zl sl)
 obtain ⟨_, _, hsh2, _⟩ := netErr_ok (pl_err b zm sm)
 have z1 : ((plZ a zl).map Rt.q).length ≤ 1000 := by rw [List.length_map, hzl]; omega
 have z2 : ((plZ b zm).map Rt.q).length ≤ 1000 := by rw [List.length_map, hzl2]; omega
 have s1 : (rq (peS a sl i j x)).length ≤ 1000 := by rw [List.length_map, hsl]; omega
 have hcv : ∀ v V, (TupT [NetT (okL (netErr ((plZ a zl).map Rt.q) (rq (peS a sl i j x))) ((plZ a zl).map Rt.q)) (okL (netErr ((plZ a zl).map Rt.q) (rq (peS a sl i j x))) (rq (peS a sl i j x))), IntT .i64 (netErr ((plZ a zl).map Rt.q) (rq (peS a sl i j x)))]).p v V → (TupT [NetT ((plZ a zl).map Rt.q) (rq (peS a sl i j x)), IntT .i64 0]).p v V := by rw [herr]; exact fun _ _ h => h
 have hcv2 : ∀ v V, (TupT [RNetT (okL (netErr ((plZ a zl).map Rt.q) (rq (peS a sl i j x))) ((plZ a zl).map Rt.q)) (okL (netErr ((plZ a zl).map Rt.q) (rq (peS a sl i j x))) (rq (peS a sl i j x))), IntT .i64 (netErr ((plZ a zl).map Rt.q) (rq (peS a sl i j x)))]).p v V → (TupT [RNetT ((plZ a zl).map Rt.q) (rq (peS a sl i j x)), IntT .i64 0]).p v V := by rw [herr]; exact fun _ _ h => h
 refine Fun.intro Tryz.func3 rfl Tryz.ntmps3 rfl (fun cx => (ts (rn rfl (new_box (Ht rfl)) fun B5 => (rn rfl (new_box (Ht rfl)) fun B6 => (rn rfl (new_box (Ht rfl)) fun B9 => (ro rfl (op_assign Has.c) (R_nil (ts (ro rfl (op_ldBA Tryz.isAgg24 Tryz.sizeOf24 (Ht rfl) (i := 0) rfl rfl rfl) (ro rfl (op_call Tryz.call15 (c_Build ha) ⟨(Ht rfl), trivial⟩) (rm rfl (ro rfl (op_extract (Ht rfl) rfl) (ro rfl (op_extract (Ht rfl) rfl) (ro rfl (op_extract (Ht rfl) rfl) (rn rfl (new_alloc (Ts := [Is (.slice none 0 0), Is (.slice none 0 0)]) O_30 rfl (fun V => Cells.cons' ⟨rfl, trivial⟩ (Cells.cons' ⟨rfl, trivial⟩ (Cells.nil)))) fun B11 => ?_)))))))))))))))
 refine rn rfl (new_alloc (Ts := [Is (.slice none 0 0), Is (.slice none 0 0)]) O_34 rfl (fun V => Cells.cons' ⟨rfl, trivial⟩ (Cells.cons' ⟨rfl, trivial⟩ (Cells.nil)))) fun B12 => R_stA Z_30 (Ht rfl) (Ht rfl) rfl (i := 3) rfl (Nat.le_of_ble_eq_true rfl) rfl rfl (R_stA Z_34 (Ht rfl) (Ht rfl) rfl (i := 4) rfl (Nat.le_of_ble_eq_true rfl) rfl rfl (ra rfl (R_nil (ts (ro rfl (op_ldBA Tryz.isAgg24 Tryz.sizeOf24 (Ht rfl) (i := 1) rfl rfl rfl) (ro rfl (op_call Tryz.call15 (c_Build hb) ⟨(Ht rfl), trivial⟩) (rm rfl (ro rfl (op_extract (Ht rfl) rfl) (ro rfl (op_extract (Ht rfl) rfl) ?_)))))))))
 refine ro rfl (op_extract (Ht rfl) rfl) (rn rfl (new_alloc (Ts := [Is (.slice none 0 0), Is (.slice none 0 0)]) O_30 rfl (fun V => Cells.cons' ⟨rfl, trivial⟩ (Cells.cons' ⟨rfl, trivial⟩ (Cells.nil)))) fun B14 => (rn rfl (new_alloc (Ts := [Is (.slice none 0 0), Is (.slice none 0 0)]) O_34 rfl (fun V => Cells.cons' ⟨rfl, trivial⟩ (Cells.cons' ⟨rfl, trivial⟩ (Cells.nil)))) fun B15 => (R_stA Z_30 (Ht rfl) (Ht rfl) rfl (i := 5) rfl (Nat.le_of_ble_eq_true rfl) rfl rfl (R_stA Z_34 (Ht rfl) (Ht rfl) rfl (i := 6) rfl (Nat.le_of_ble_eq_true rfl) rfl rfl (ra rfl ?_)))))
 refine R_nil (T_seq (ts (rm rfl (ro rfl (op_not (Ht rfl)) (rm rfl (R_step rfl rfl (S_when rfl rfl (Ht rfl) (fun h => op_move (Ht rfl))) (R_step rfl rfl (S_when rfl rfl (Ht rfl) (fun h => op_not (Has.w rfl h))) (ro rfl (op_or (Ht rfl) (fun h => (Has.w rfl h))) (R_nil (T_condF (Ht rfl) (by rfl) ?_))))))))))
 refine T_skip (ts (ro rfl (op_ldBA Tryz.isAgg24 Tryz.sizeOf24 (Ht rfl) (i := 0) rfl rfl rfl) (R_call0 Tryz.call16 (c_PlainO ha) ⟨(Ht rfl), trivial⟩ rfl (fun B43 _ => (rm rfl (ro rfl (op_extract (Ht rfl) rfl) (ro rfl (op_extract (Ht rfl) rfl) (ra rfl (ra rfl (R_nil (T_seq (T_keep [0, 1, 2, 3, 4, 5, 6, 7] rfl (by decide) (T_focus 7 ((i % plN a)) rfl (tab_get hI) (fun v0 => (C.D_start (m := 15) (dp 18 rfl (op_move (Ht rfl)) (dp 2 rfl (op_move (Ht rfl)) (dq 47 1 rfl (op_convN U_5 U_3 (Ht rfl) (by show _ < 9223372036854775808; omega)) (dp 18 rfl (op_move (Ht rfl)) ?_)))))))))))))))))))
 refine dq 49 3 rfl (op_lenI U_37 (Ht rfl)) (dqq 48 2 50 4 rfl (op_remN (Ht rfl) (Ht rfl) (by omega)) (dqq 46 0 51 5 rfl (op_idxB U_37 Z_22 (Ht rfl) (Ht rfl) rfl (by omega) (by rw [Nat.mul_one, Nat.zero_add])) ?_))
 refine dq 52 6 rfl (op_ldH A_22 Z_22 (Ht rfl) (j := 7) rfl) (dp 3 rfl (op_move (Ht rfl)) (dq 54 8 rfl (op_convN U_5 U_3 (Ht rfl) (by show _ < 9223372036854775808; omega)) (dp 18 rfl (op_move (Ht rfl)) (dq 56 10 rfl (op_lenI U_37 (Ht rfl)) (dqq 55 9 57 11 rfl (op_remN (Ht rfl) (Ht rfl) (by omega)) (dp 9 rfl (op_ldBA A_26 Z_26 (Ht rfl) (i := 2) rfl rfl rfl) (dq 59 13 rfl (op_call Tryz.call17 (c_small (r := x)) ⟨(Ht rfl), trivial⟩) ?_)))))))
 refine C.D_done mixed rfl (by kernel_rfl) (C.F_val (C.F_val (C.F_val (C.F_val (C.F_val (C.F_val (C.F_val (C.F_val (C.F_val (C.F_val (C.F_val (C.F_val (C.F_val (C.F_val (C.F_val (C.F_nil (ro rfl (op_idxO U_22 Z_26 (Ht rfl) (Ht rfl) rfl (i := 8) rfl (by rw [tab_len]; omega) rfl) ?_)))))))))))))))))
 refine R_stO Z_26 (Ht rfl) (Ht rfl) (El.ag rfl) (i := 8) rfl rfl (by rw [tab_len]; omega) rfl ?_
 refine R_nil (T_seq (T_unfocus 7 8 rfl rfl (by decide) (by rw [tab_len]; omega) ?_))
 refine T_keep [0, 1, 2, 3, 4, 5, 6, 7] rfl (by decide) (T_freeze (i := 7) (tt := 18) rfl rfl (frzR (pe_rows a sl i j x) hsl.symm) (T_keep [0, 1, 2, 3, 4, 5, 6] rfl (by decide) (T_region (rm rfl (ro rfl (op_call Tryz.call19 (c_lawList (by omega)) ⟨(Ht rfl), trivial⟩) (rm rfl (ro rfl (op_call Tryz.call20 (c_lawRows (by omega) hall) ⟨(Ht rfl), trivial⟩) (ro rfl (op_call Tryz.call18 (Fun.imp (c_netNew (z := ((plZ a zl).map Rt.q)) (s := (rq (peS a sl i j x))) (L := 2) FitL.rt (by decide) z1 s1) hcv) ⟨(Ht rfl), (Ht rfl), trivial⟩) (rm rfl (ro rfl (op_extract (Ht rfl) rfl) (ro rfl (op_extract (Ht rfl) rfl) ?_)))))))))))
 refine rn rfl (new_alloc (Ts := [Is (.slice none 0 0), Is (.slice none 0 0)]) O_30 rfl (fun V => Cells.cons' ⟨rfl, trivial⟩ (Cells.cons' ⟨rfl, trivial⟩ (Cells.nil)))) fun B19 => R_stA Z_30 (Ht rfl) (Ht rfl) rfl (i := 7) rfl (Nat.le_of_ble_eq_true rfl) rfl rfl (ra rfl (R_nil (ts (rm rfl (ro rfl (op_call Tryz.call22 (c_refList4 (by omega)) ⟨(Ht rfl), trivial⟩) (rm rfl (ro rfl (op_call Tryz.call23 (c_refRows4 (by omega) hall) ⟨(Ht rfl), trivial⟩) (ro rfl (op_call Tryz.call21 (Fun.imp (c_rnetNew (z := ((plZ a zl).map Rt.q)) (s := (rq (peS a sl i j x))) (L := 2) FitL.rt (by decide) z1 s1) hcv2) ⟨(Ht rfl), (Ht rfl), trivial⟩) ?_))))))))
 refine rm rfl (ro rfl (op_extract (Ht rfl) rfl) (ro rfl (op_extract (Ht rfl) rfl) (rn rfl (new_alloc (Ts := [Is (.slice none 0 0), Is (.slice none 0 0)]) O_34 rfl (fun V => Cells.cons' ⟨rfl, trivial⟩ (Cells.cons' ⟨rfl, trivial⟩ (Cells.nil)))) fun B21 => (R_stA Z_34 (Ht rfl) (Ht rfl) rfl (i := 8) rfl (Nat.le_of_ble_eq_true rfl) rfl rfl (ra rfl (R_nil (T_seq (C.D_start (m := 20) (dp 19 rfl (op_ldBA A_30 Z_30 (Ht rfl) (i := 7) rfl rfl rfl) (dp 20 rfl (op_move (Ht rfl)) (dp 21 rfl (op_ldBA A_34 Z_34 (Ht rfl) (i := 8) rfl rfl rfl) ?_)))))))))))
 refine dp 22 rfl (op_move (Ht rfl)) (C.D_step (Ei := [(78, _), (79, _), (80, _), (81, _)]) rfl rfl (C.Srcs.cons (C.Src.op 0 rfl rfl) (C.Srcs.cons (C.Src.op 1 rfl rfl) (C.Srcs.cons (C.Src.op 2 rfl rfl) (C.Srcs.cons (C.Src.op 3 rfl rfl) C.Srcs.nil)))) (S_plain rfl (op_call Tryz.call24 (c_ans4 (z := ((plZ a zl).map Rt.q)) (s := (rq (peS a sl i j x))) (e := 0) (L := 2) FitL.rt FitM.rt (by decide) (by decide) hsh3 z1) ⟨(Ht rfl), (Ht rfl), (Ht rfl), (Ht rfl), trivial⟩)) (dq 82 4 rfl (op_move (Ht rfl)) (C.D_step (Ei := [(11, _), (83, _)]) rfl rfl (C.Srcs.cons (C.Src.pre rfl rfl) (C.Srcs.cons (C.Src.op 5 rfl rfl) C.Srcs.nil)) (S_when rfl rfl (Ht rfl) (fun h => op_ldBA A_30 Z_30 (Ht rfl) (i := 3) rfl rfl rfl)) ?_)))
 refine C.D_step (Ei := [(14, _), (83, _)]) rfl rfl (C.Srcs.cons (C.Src.pre rfl rfl) (C.Srcs.cons (C.Src.op 5 rfl rfl) C.Srcs.nil)) (S_when rfl rfl (Ht rfl) (fun h => op_ldBA A_30 Z_30 (Ht rfl) (i := 5) rfl rfl rfl)) (C.D_step (Ei := [(84, _), (85, _), (83, _)]) rfl rfl (C.Srcs.cons (C.Src.op 6 rfl rfl) (C.Srcs.cons (C.Src.op 7 rfl rfl) (C.Srcs.cons (C.Src.op 5 rfl rfl) C.Srcs.nil))) (S_when rfl rfl (Ht rfl) (fun h => op_call Tryz.call25 (c_netEqual (z := ((plZ a zl).map Rt.q)) (s := (rq (plS a sl))) (z' := ((plZ b zm).map Rt.q)) (s' := (rq (plS b sm))) (L := 2) FitL.rt FitL.rt FitM.rt FitM.rt (by decide) (by decide) hsh hsh2 z1 z2) ⟨(Has.w rfl h), (Has.w rfl h), trivial⟩)) ?_)
 refine C.D_step (Ei := [(12, _), (83, _)]) rfl rfl (C.Srcs.cons (C.Src.pre rfl rfl) (C.Srcs.cons (C.Src.op 5 rfl rfl) C.Srcs.nil)) (S_when rfl rfl (Ht rfl) (fun h => op_ldBA A_34 Z_34 (Ht rfl) (i := 4) rfl rfl rfl)) (C.D_step (Ei := [(15, _), (83, _)]) rfl rfl (C.Srcs.cons (C.Src.pre rfl rfl) (C.Srcs.cons (C.Src.op 5 rfl rfl) C.Srcs.nil)) (S_when rfl rfl (Ht rfl) (fun h => op_ldBA A_34 Z_34 (Ht rfl) (i := 6) rfl rfl rfl)) (C.D_step (Ei := [(87, _), (88, _), (83, _)]) rfl rfl (C.Srcs.cons (C.Src.op 9 rfl rfl) (C.Srcs.cons (C.Src.op 10 rfl rfl) (C.Srcs.cons (C.Src.op 5 rfl rfl) C.Srcs.nil))) (S_when rfl rfl (Ht rfl) (fun h => op_call Tryz.call26 (c_rEqual (z := ((plZ a zl).map Rt.q)) (s := (rq (plS a sl))) (z' := ((plZ b zm).map Rt.q)) (s' := (rq (plS b sm))) (L := 2) FitL.rt FitL.rt FitM.rt FitM.rt (by decide) (by decide) hsh hsh2 z1 z2) ⟨(Has.w rfl h), (Has.w rfl h), trivial⟩)) ?_))
 refine C.D_step (Ei := [(86, _), (89, _), (83, _)]) rfl rfl (C.Srcs.cons (C.Src.op 8 rfl rfl) (C.Srcs.cons (C.Src.op 11 rfl rfl) (C.Srcs.cons (C.Src.op 5 rfl rfl) C.Srcs.nil))) (S_when rfl rfl (Ht rfl) (fun h => op_beq U_4 (Has.w rfl h) (Has.w rfl h))) (dqq 83 5 90 12 rfl (op_and (Ht rfl) (fun h => (Has.w rfl h))) (dq 91 13 rfl (op_move (Ht rfl)) (C.D_step (Ei := [(11, _), (92, _)]) rfl rfl (C.Srcs.cons (C.Src.pre rfl rfl) (C.Srcs.cons (C.Src.op 14 rfl rfl) C.Srcs.nil)) (S_when rfl rfl (Ht rfl) (fun h => op_ldBA A_30 Z_30 (Ht rfl) (i := 3) rfl rfl rfl)) (C.D_step (Ei := [(19, _), (92, _)]) rfl rfl (C.Srcs.cons (C.Src.pre rfl rfl) (C.Srcs.cons (C.Src.op 14 rfl rfl) C.Srcs.nil)) (S_when rfl rfl (Ht rfl) (fun h => op_ldBA A_30 Z_30 (Ht rfl) (i := 7) rfl rfl rfl)) ?_))))
 refine C.D_step (Ei := [(93, _), (94, _), (92, _)]) rfl rfl (C.Srcs.cons (C.Src.op 15 rfl rfl) (C.Srcs.cons (C.Src.op 16 rfl rfl) (C.Srcs.cons (C.Src.op 14 rfl rfl) C.Srcs.nil))) (S_when rfl rfl (Ht rfl) (fun h => op_call Tryz.call25 (c_netEqual (z := ((plZ a zl).map Rt.q)) (s := (rq (plS a sl))) (z' := ((plZ a zl).map Rt.q)) (s' := (rq (peS a sl i j x))) (L := 2) FitL.rt FitL.rt FitM.rt FitM.rt (by decide) (by decide) hsh hsh3 z1 z1) ⟨(Has.w rfl h), (Has.w rfl h), trivial⟩)) (C.D_step (Ei := [(12, _), (92, _)]) rfl rfl (C.Srcs.cons (C.Src.pre rfl rfl) (C.Srcs.cons (C.Src.op 14 rfl rfl) C.Srcs.nil)) (S_when rfl rfl (Ht rfl) (fun h => op_ldBA A_34 Z_34 (Ht rfl) (i := 4) rfl rfl rfl)) ?_)
 refine C.D_step (Ei := [(21, _), (92, _)]) rfl rfl (C.Srcs.cons (C.Src.pre rfl rfl) (C.Srcs.cons (C.Src.op 14 rfl rfl) C.Srcs.nil)) (S_when rfl rfl (Ht rfl) (fun h => op_ldBA A_34 Z_34 (Ht rfl) (i := 8) rfl rfl rfl)) (C.D_done mixed rfl (by kernel_rfl) (C.F_val (C.F_val (C.F_val (C.F_val (C.F_val (C.F_val (C.F_val (C.F_val (C.F_val (C.F_val (C.F_val (C.F_val (C.F_val (C.F_val (C.F_val (C.F_val (C.F_val (C.F_val (C.F_val (C.F_val (C.F_nil (R_step rfl rfl (S_when rfl rfl (Ht rfl) (fun h => op_call Tryz.call26 (c_rEqual (z := ((plZ a zl).map Rt.q)) (s := (rq (plS a sl))) (z' := ((plZ a zl).map Rt.q)) (s' := (rq (peS a sl i j x))) (L := 2) FitL.rt FitL.rt FitM.rt FitM.rt (by decide) (by decide) hsh hsh3 z1 z1) ⟨(Has.w rfl h), (Has.w rfl h), trivial⟩)) ?_)))))))))))))))))))))))
 refine R_step rfl rfl (S_when rfl rfl (Ht rfl) (fun h => op_beq U_4 (Has.w rfl h) (Has.w rfl h))) (ro rfl (op_and (Ht rfl) (fun h => (Has.w rfl h))) (rm rfl (R_step rfl rfl (S_when rfl rfl (Ht rfl) (fun h => op_call Tryz.call27 c_awake4 trivial)) (ro rfl (op_and (Ht rfl) (fun h => (Has.w rfl h))) (ra rfl (R_nil (T_ret1 rfl (rv_to (rv_tmp rfl) ?_))))))))
 exact (bool_of (by simp))
end Go.Proofs.YtbnpmobaglfcbaaGreat
namespace Go.Proofs.YtbnpmobaglfcbaaGreat
open Go Go.ChangeShapes Go.WideShapes Go.ChangeAt Go.RowKit Go.Deep
section
variable {H : Type} {enc : TypeId × Value → H} {W : World} {base : Nat} {sp : Nat → Bool} {held : Bool}
set_option maxRecDepth 100000 in
theorem s125 : S3 Tryz.prog 24 5 22 22 := ⟨⟨_, _, _, Tryz.underlying24, rfl, rfl, rfl, rfl, rfl, rfl⟩, by kernel_rfl, by kernel_rfl, by kernel_rfl, by kernel_rfl⟩
set_option maxRecDepth 100000 in
theorem trod_partT {b0 : Nat} {v : Value} {d : DataW H} {p : List MemPlace} (ho : Value.okWide Tryz.prog W .any b0 24 v) (h : DataW.Trod enc Tryz.prog W base sp held 24 v d p) : ∃ (a : Nat) (zl sl : List Rt), (AggT [NT .u8 a, RatsT zl, RatsT sl]).p v (hv W) ∧ a < 256 := by
  obtain ⟨cs, rfl, _⟩ := okWide_struct Tryz.underlying24 ho
  obtain ⟨n, hn⟩ := h
  obtain ⟨x0, x1, x2, m, y0, y1, y2, hcs, h0, h1, h2⟩ := s125.open hn
  obtain ⟨i, e0, _, w⟩ := DataW.trod_int Tryz.underlying5 h0
  obtain ⟨v1, z, e1, k1⟩ := open_rats h1
  obtain ⟨v2, s, e2, k2⟩ := open_rats h2
  simp only [List.cons.injEq, and_true] at e0 e1 e2
  subst e0 e1 e2
  have hw := wf_u8 w
  have e : ((i.toNat : Nat) : Int) = i := by omega
  have hi : ∀ V, (NT .u8 i.toNat).p (.int .u8 i) V := fun V => by rw [show NT .u8 i.toNat = IntT .u8 i from congrArg (IntT .u8) e]; rfl
  have hcs2 : cs.toList = [.int .u8 i, x1, x2] := hcs
  exact ⟨i.toNat, z, s, ⟨cs.toList, rfl, by rw [hcs2]; exact Cells.cons' ⟨hi _, trivial⟩ (Cells.cons' ⟨k1, (sl_cells k1).2⟩ (Cells.cons' ⟨k2, (sl_cells k2).2⟩ Cells.nil))⟩, by omega⟩
end
end Go.Proofs.YtbnpmobaglfcbaaGreat
