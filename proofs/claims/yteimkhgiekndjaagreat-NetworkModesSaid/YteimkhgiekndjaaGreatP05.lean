/- What functions of the program compute, proved by walks over their code, and the plain mathematics of it; a part of the proof in the last text. -/
import Derived.Test.YteimkhgiekndjaaGreatP04
set_option linter.unusedVariables false
set_option linter.unusedSimpArgs false
namespace Go.Proofs.YteimkhgiekndjaaGreat
section
open Go Go.RowKit
abbrev gnI (G : List Nat) : List Int := G.map fun (q : Nat) => (q : Int) + 1
def lfG (G : List Nat) : Nat → List Nat
  | 0 => []
  | k + 1 => lfG G k ++ (if k ∈ G then [] else [k])
theorem lfG_len (G : List Nat) : ∀ k, (lfG G k).length ≤ k
  | 0 => Nat.le_refl _
  | k + 1 => by
    have := lfG_len G k
    simp only [lfG, List.length_append]
    split
    · simp; omega
    · simp; omega
theorem lfG_lt {G : List Nat} : ∀ {k x : Nat}, x ∈ lfG G k → x < k
  | 0, x, h => by cases h
  | k + 1, x, h => by
    rcases List.mem_append.1 h with h1 | h1
    · have := lfG_lt h1; omega
    · split at h1
      · cases h1
      · have := List.mem_singleton.1 h1; omega
theorem lfG_one {p : Nat} : ∀ {k : Nat}, lfG [p] k = tab (cnt p k) (skp p)
  | 0 => by rw [lfG, show cnt p 0 = 0 by unfold cnt; split <;> omega]; rfl
  | k + 1 => by
    rw [lfG, lfG_one]
    by_cases c : k = p
    · subst c
      rw [if_pos (by simp), List.append_nil, show cnt k (k + 1) = cnt k k by unfold cnt; split <;> split <;> omega]
    · rw [if_neg (by simpa using c)]
      have e1 : skp p (cnt p k) = k := by unfold skp cnt; split <;> split <;> omega
      have e2 : cnt p (k + 1) = cnt p k + 1 := by unfold cnt; split <;> split <;> omega
      rw [e2, tab_succ, e1]
theorem lfG_lft {p n : Nat} (h : p < n) : (lfG [p] n).map Nat.succ = lftL p (n - 1) := by rw [lfG_one, cnt_fin h, tab_map]; rfl
theorem gn_any {G : List Nat} {i : Nat} : ((gnI G).any fun x => decide (((i + 1 : Nat) : Int) = x)) = decide (i ∈ G) := by
  rw [Bool.eq_iff_iff]
  simp only [gnI, List.any_map, List.any_eq_true, Function.comp, decide_eq_true_eq]
  constructor
  · rintro ⟨q, h1, h2⟩
    obtain rfl : i = q := by omega
    exact h1
  · intro h; exact ⟨i, h, by omega⟩
abbrev qat (Q : List Nat) (i : Nat) : Nat := Q.getD i 0
def subZ (z : List Qi) (Q : List Nat) : List Qi := tab Q.length fun i => gv z (qat Q i)
def subM (s : List (List Qi)) (Q : List Nat) : List (List Qi) := tab Q.length fun i => tab Q.length fun j => gm s (qat Q i) (qat Q j)
theorem qat_lt {Q : List Nat} {n i : Nat} (h : ∀ x, x ∈ Q → x < n) (hi : i < Q.length) : qat Q i < n := h _ (by rw [show qat Q i = Q[i] by simp [qat, List.getD, hi]]; exact List.getElem_mem hi)
theorem suc_get {Q : List Nat} {i : Nat} (h : i < Q.length) : (Q.map Nat.succ)[i]? = some (qat Q i + 1) := by simp [qat, List.getD, h]
theorem tabQ_get {m i : Nat} {p : Nat} (h : i < m) : qat (tab m (skp p)) i = skp p i := tab_getD h
theorem subZ_skp (z : List Qi) (p m : Nat) : subZ z (tab m (skp p)) = prtZ z p m := by
  rw [subZ, tab_len]; exact tab_congr fun i hi => by rw [tabQ_get hi]
theorem subM_skp (s : List (List Qi)) (p m : Nat) : subM s (tab m (skp p)) = prtS s p m := by
  rw [subM, tab_len]; exact tab_congr fun i hi => tab_congr fun j hj => by rw [tabQ_get hi, tabQ_get hj]
theorem skp_all {p m n : Nat} (hp : p < n) (hm : m = n - 1) : ∀ x, x ∈ tab m (skp p) → x < n := fun x hx => by
  obtain ⟨i, hi, rfl⟩ := tab_mem.1 hx; exact skp_lt (by omega) hp
theorem lft_skp (p m : Nat) : (tab m (skp p)).map Nat.succ = lftL p m := by rw [tab_map]; rfl
end
section
open Go Go.RowKit
theorem info_3 : Tryz.prog.info? 3 = some Tryz.t3 := by kernel_rfl
theorem und_69 : Tryz.prog.underlying 69 = some (.slice 3) := by kernel_rfl
end
section
open Go Go.RowKit
set_option maxRecDepth 20000 in
theorem c_IndexInt {l : List Int} {v : Int} (hl : l.length ≤ 1000000) : Fun Tryz.prog 242 [SlT 1 (l.map (IntT .i64)), IntT .i64 v] (IntT .i64 (idxZ (fun x => decide (v = x)) l)) := by
 refine Fun.intro Tryz.func242 rfl Tryz.ntmps242 rfl (fun cx => (ts (ro rfl (bY (cZ 0)) (R_nil (cG (ts (rm rfl (ro rfl (dW U_69 (Ht rfl) len_map) (ro rfl (cQ (cZ 0)) (R_nil (T_block ?_)))))))))))
 refine T_loop (fun (k : Nat) => k ≤ l.length ∧ ∀ (i : Nat) (x : Int), i < k → l[i]? = some x → decide (v = x) = false) (fun (k : Nat) => l.length - k) (fun (k : Nat) => [(0, SlT 1 (l.map (IntT .i64))), (1, IntT .i64 v), (7, NT .i64 l.length), (8, NT .i64 k)]) (fun (k : Nat) => []) 0 ⟨Nat.zero_le _, fun i x h => by omega⟩
  (aQ rfl (aQ rfl (aQ rfl (aQ rfl aX)))) aU (fun k ⟨hk, hn⟩ => ?_)
 refine ts (ro rfl (op_lssN (Ht rfl) (Ht rfl)) (R_nil (cG (cY (Ht rfl) (fun hb => ?_) (fun hb => ?_)))))
 ·simp only [decide_eq_true_eq] at hb
  refine cK (cG (T_block (ts (rm rfl (ra rfl (R_nil (ts (rm rfl (rm rfl (rm rfl (ro rfl (dX U_69 Z_3 (Ht rfl) (Ht rfl) rfl (dU (getq hb))) (ro rfl (dZ A_3 Z_3 (Ht rfl)) (ro rfl (op_eql (Ht rfl) (Ht rfl)) (R_nil (cY (Ht rfl) (fun hc => ?_) (fun hc => ?_))))))))))))))))
  ·refine ts (rm rfl (ra rfl (R_nil (T_ret1 rfl (rv_to (rv_tmp rfl) ?_)))))
   exact (int_of (idxZ_at (p := fun x => decide (v = x)) (getq hb) hc hn).symm)
  ·refine cK (T_blk (cU (ro rfl (dJ (Ht rfl) (cZ 1) (by show _ < 9223372036854775808; first | omega | (simp only [lim]; omega))) (rm rfl (R_nil ?_)))))
   refine T_again (k + 1) ⟨hb, fun i x h1 h2 => by
    by_cases e : i = k
    ·subst e; rw [getq hb] at h2; obtain rfl := Option.some.inj h2; exact hc
    ·exact hn i x (by omega) h2⟩ (by omega) (aQ rfl (aQ rfl (aQ rfl (aQ rfl aX)))) aU
 ·simp only [decide_eq_false_iff_not] at hb
  refine T_exit rfl (ts (ro rfl (bY cJ) (R_nil (T_ret1 rfl (rv_to (rv_tmp rfl) ?_)))))
  exact (int_of (idxZ_none (p := fun x => decide (v = x)) (fun i x h => hn i x (by have := (List.getElem?_eq_some_iff.1 h).1; omega) h)).symm)
set_option maxRecDepth 20000 in
theorem c_ContainsInt {l : List Int} {v : Int} (hl : l.length ≤ 1000000) : Fun Tryz.prog 178 [SlT 1 (l.map (IntT .i64)), IntT .i64 v] (BoolT (l.any fun x => decide (v = x))) := by
 refine Fun.intro Tryz.func178 rfl Tryz.ntmps178 rfl (fun cx => (ts (ro rfl (bY cJ) (R_nil (ts (rm rfl (rm rfl (ro rfl (cX Tryz.call242 (c_IndexInt (by omega)) ⟨(Ht rfl), (Ht rfl), trivial⟩) (ro rfl (op_geq (Ht rfl) cJ) (ra rfl (R_nil (T_ret1 rfl (rv_to (rv_tmp rfl) ?_)))))))))))))
 exact (bool_of (idxZ_any _ l))
set_option maxRecDepth 20000 in
theorem c_leftG {z : List Qi} {s : List (List Qi)} {G : List Nat} (hl : z.length ≤ 1000) (hG : G.length ≤ 1000) : Fun Tryz.prog 112 [NetT z s, SlT 1 ((gnI G).map (IntT .i64))] (IntsT ((lfG G z.length).map Nat.succ)) := by
 refine Fun.intro Tryz.func112 rfl Tryz.ntmps112 rfl (fun cx => (ts (rn rfl (new_box (Ht rfl)) fun B2 => (ro rfl (bY cJ) (R_nil (ts (ro rfl (bY cJ) (R_nil (cG (ts (ro rfl (bY (cZ 1)) (R_nil (T_block (T_row 3 1 ?_))))))))))))))
 refine T_loop2 (fun (i : Nat) (v : Value) => i ≤ z.length) (fun (i : Nat) (v : Value) => z.length - i) (fun (i : Nat) (v : Value) => [(1, SlT 1 ((gnI G).map (IntT .i64))), (2, PtrB B2 0), (5, Is v), (6, NT .i64 (i + 1))]) (fun (i : Nat) (v : Value) => [box B2 30 [NumsT z, NumM s], rowO 3 1 v (((lfG G i).map Nat.succ).map (NT .i64))]) 0 (.slice none 0 0) (Nat.zero_le _)
  (aQ rfl (aQ rfl (aQ rfl (aQ rfl aX)))) (aK (box_of rfl) (aK (rowO_of rfl) aU)) (fun i v hi => ?_)
 refine cG (ts (rm rfl (ro rfl (op_fldB fa_30_0 (Ht rfl) rfl) (ro rfl (op_ldB A_27 Z_27 (Ht rfl) (i := 0) rfl rfl) (ro rfl (dW U_27 (Ht rfl) len_map) (ro rfl (op_leqN (Ht rfl) (Ht rfl)) (R_nil (cY (Ht rfl) (fun hd => ?_) (fun hd => ?_)))))))))
 ·simp only [decide_eq_true_eq] at hd
  have hcl := lfG_len G i
  refine cK (cG (T_block (T_join (fun (v2 : Value) => True) (fun (v2 : Value) => [(1, SlT 1 ((gnI G).map (IntT .i64))), (2, PtrB B2 0), (5, Is v2), (6, NT .i64 (i + 1))]) (fun (v2 : Value) => [box B2 30 [NumsT z, NumM s], rowO 3 1 v2 (((lfG G (i + 1)).map Nat.succ).map (NT .i64))]) ?_ (fun v2 _ => ?_))))
  ·refine ts (rm rfl (rm rfl (ro rfl (cX Tryz.call178 (c_ContainsInt (l := gnI G) (v := ((i + 1 : Nat) : Int)) (by rw [List.length_map]; omega)) ⟨(Ht rfl), (Ht rfl), trivial⟩) ?_)))
   refine ro rfl (op_not (Ht rfl)) (R_nil (cY (Ht rfl) (fun he => ?_) (fun he => ?_)))
   ·rw [gn_any] at he
    have he2 : i ∉ G := by simpa using he
    have hnx : lfG G (i + 1) = lfG G i ++ [i] := by rw [lfG, if_neg he2]
    refine cU (rm rfl (rm rfl (ro rfl (op_bslice (xs := [.tmp 19]) U_69 Z_3 O_3 (cV (Ht rfl) cW) rfl rfl rfl) (R_append (inf := Tryz.t3) und_69 info_3 rfl rfl rfl (Ht rfl) (Ht rfl) (i := 1) rfl (by simp) (fun T hT => by simp at hT; subst hT; exact El.one) (by show _ * 8 ≤ _; simp only [List.length_map, List.length_cons, List.length_nil]; omega) (by simp only [List.length_map, List.length_cons, List.length_nil]; omega) rfl (fun v3 => ?_)))))
    refine ra rfl (R_nil (T_joined v3 trivial (aQ rfl (aQ rfl (aQ rfl (aQ rfl aX)))) (aK (box_of rfl) (aK (rowO_of (by rw [hnx, List.map_append, List.map_append]; rfl)) aU))))
   ·rw [gn_any] at he
    have he2 : i ∈ G := by simpa using he
    have hnx : lfG G (i + 1) = lfG G i := by rw [lfG, if_pos he2, List.append_nil]
    refine cK (T_joined v trivial (aQ rfl (aQ rfl (aQ rfl (aQ rfl aX)))) (aK (box_of rfl) (aK (rowO_of (by rw [hnx])) aU)))
  ·refine T_blk (cU (rm rfl (ro rfl (dJ (Ht rfl) (cZ 1) (by show _ < 9223372036854775808; first | omega | (simp only [lim]; omega))) (ra rfl (R_nil (T_again (i + 1, v2) hd (by dsimp only; omega) (aQ rfl (aQ rfl (aQ rfl (aQ rfl aX)))) (HSub.refl _)))))))
 ·simp only [decide_eq_false_iff_not] at hd
  obtain rfl : z.length = i := Nat.le_antisymm (by omega) hi
  refine T_exit rfl (T_freeze (i := 1) (tt := 5) rfl rfl frz_row (ts (rm rfl (ra rfl (R_nil ?_)))))
  exact T_ret1 rfl (rv_tmp rfl)
theorem c_left {z : List Qi} {s : List (List Qi)} {p : Nat} (hp : p < z.length) (hl : z.length ≤ 1000) : Fun Tryz.prog 112 [NetT z s, SlT 1 [IntT .i64 ((p : Int) + 1)]] (IntsT (lftL p (z.length - 1))) := by
  rw [← lfG_lft hp]; exact c_leftG (G := [p]) hl (by simp)
set_option maxRecDepth 20000 in
theorem c_part1 {z : List Qi} {s : List (List Qi)} {Q : List Nat} {m : Nat} (hs : Shp s z.length z.length) (hQ : ∀ x, x ∈ Q → x < z.length) (hm : Q.length = m) (hm2 : m ≤ 1000) (hl : z.length ≤ 1000) {i j : Nat} (hi : i < m) (hj : j < m) : Fun Tryz.prog 210 [NT .i64 i, NT .i64 j, PT (NetT z s), PT (IntsT (Q.map Nat.succ))] (NumT (gm s (qat Q i) (qat Q j))) := by
 have hki : qat Q i < z.length := qat_lt hQ (by omega)
 have hkj : qat Q j < z.length := qat_lt hQ (by omega)
 have hsl := hs.1
 have hsr := hs.row hki
 refine Fun.intro Tryz.func210 rfl Tryz.ntmps210 rfl (fun cx => (ts (rn rfl (new_alloc (Ts := [Is (.bool false), Is (.slice none 0 0), Is (.bool false), Is (.slice none 0 0), Is (.slice none 0 0)]) O_45 rfl (fun V => aW ⟨rfl, trivial⟩ (aW ⟨rfl, trivial⟩ (aW ⟨rfl, trivial⟩ (aW ⟨rfl, trivial⟩ (aW ⟨rfl, trivial⟩ (aG))))))) fun B6 => (R_nil (cG (C.D_start (m := 14) (dp 2 rfl (op_fld1 fa_30_1 (Ht rfl) rfl) (dq 7 0 rfl (dZ A_28 Z_28 (Ht rfl)) (dp 3 rfl (dZ A_69 Z_69 (Ht rfl)) (dp 0 rfl (cQ (Ht rfl)) ?_))))))))))
 refine dqq 9 2 10 3 rfl (dX U_69 Z_3 (Ht rfl) (Ht rfl) rfl (dU (suc_get (by omega)))) (dq 11 4 rfl (dZ A_3 Z_3 (Ht rfl)) (dq 12 5 rfl (OpTy.nat (dV (Ht rfl) (cZ 1) (by omega) (by show _ < 9223372036854775808; first | omega | (simp only [lim]; omega))) (show qat Q i + 1 - 1 = qat Q i by omega)) (dqq 8 1 13 6 rfl (dX U_28 Z_27 (Ht rfl) (Ht rfl) rfl (dU (dK (d := []) (by omega)))) (dq 14 7 rfl (dZ A_27 Z_27 (Ht rfl)) (dp 3 rfl (dZ A_69 Z_69 (Ht rfl)) ?_)))))
 refine dp 1 rfl (cQ (Ht rfl)) (dqq 16 9 17 10 rfl (dX U_69 Z_3 (Ht rfl) (Ht rfl) rfl (dU (suc_get (by omega)))) (dq 18 11 rfl (dZ A_3 Z_3 (Ht rfl)) (dq 19 12 rfl (OpTy.nat (dV (Ht rfl) (cZ 1) (by omega) (by show _ < 9223372036854775808; first | omega | (simp only [lim]; omega))) (show qat Q j + 1 - 1 = qat Q j by omega)) (C.D_done mixed rfl (by kernel_rfl) (aJ (aJ (aJ (aJ (aJ (aJ (aJ (aJ (aJ (aJ (aJ (aJ (aJ (aJ (aV (ro rfl (dX U_27 Z_45 (Ht rfl) (Ht rfl) rfl (dU (dK (d := Qi.zero) (by omega)))) ?_))))))))))))))))))))
 refine ro rfl (dZ A_45 Z_45 (Ht rfl)) (R_stA Z_45 (Ht rfl) (Ht rfl) rfl (i := 0) rfl (Nat.le_of_ble_eq_true rfl) rfl rfl (R_nil ?_))
 exact T_ret1 rfl (rv_cell A_45 Z_45 rfl (i := 0) rfl rfl)
set_option maxRecDepth 20000 in
theorem c_partG {z : List Qi} {s : List (List Qi)} {Q : List Nat} {m : Nat} (hs : Shp s z.length z.length) (hQ : ∀ x, x ∈ Q → x < z.length) (hm : Q.length = m) (hm2 : m ≤ 1000) (hl : z.length ≤ 1000) : FunO Tryz.prog 111 [NetT z s, IntsT (Q.map Nat.succ)] [] (Nat) (fun B => AggT [NumsT (subZ z Q), Is (.slice (some ⟨B, 0, none⟩) m m)]) (fun B => [matO B 27 45 5 (FRow NumT (subM s Q))]) (fun _ => True) := by
 have hll : (Q.map Nat.succ).length = m := by rw [List.length_map]; exact hm
 refine FunO.intro Tryz.func111 rfl Tryz.ntmps111 rfl (fun cx Z => (ts (rn rfl (new_box (Ht rfl)) fun B2 => (rn rfl (new_box1 (Ht rfl)) fun B3 => (rn rfl (new_alloc (Ts := [Is (.slice none 0 0), Is (.slice none 0 0)]) O_30 rfl (fun V => aW ⟨rfl, trivial⟩ (aW ⟨rfl, trivial⟩ (aG)))) fun B4 => (R_nil (cG (T_freeze (i := 1) (tt := 2) rfl rfl frz_ptr (T_freeze (i := 2) (tt := 3) rfl rfl frz_ptr1 (cU (ro rfl (dZ A_69 Z_69 (Ht rfl)) (ro rfl (dW U_69 (Ht rfl) (by rw [List.length_map, hll])) ?_))))))))))))
 refine rn rfl (new_makeO (T := NumT Qi.zero) (i := Tryz.t45) und_27 info_45 rfl rfl (Ht rfl) rfl num_zero_p (El.ag rfl) (by show 88 * _ ≤ _; omega) (by omega)) fun B10 => ra rfl (R_nil (cG (ts (ro rfl (dZ A_69 Z_69 (Ht rfl)) (ro rfl (dW U_69 (Ht rfl) (by rw [List.length_map, hll])) ?_)))))
 refine ro rfl (cQ (cZ 0)) (R_nil (T_block (T_keep [0, 3, 4] rfl (by decide) ?_)))
 refine T_loop (fun (i : Nat) => i ≤ m) (fun (i : Nat) => m - i) (fun (i : Nat) => [(2, PT (NetT z s)), (3, PT (IntsT (Q.map Nat.succ))), (4, PtrB B4 0), (5, Is B10), (11, IntsT (Q.map Nat.succ)), (12, NT .i64 m), (13, NT .i64 i)]) (fun (i : Nat) => [Z, box B4 30 [Is (.slice none 0 0), Is (.slice none 0 0)], rowO 45 5 B10 ((mixT (fun i => gv z (qat Q i)) Qi.zero m i).map NumT)]) 0 (Nat.zero_le _)
  (aQ rfl (aQ rfl (aQ rfl (aQ rfl (aQ rfl (aQ rfl (aQ rfl aX))))))) (aK (fun _ _ _ h => h) (aK (fun _ _ _ h => h) (aK (rowO_of (by rw [← mix_zero]; exact tab_rep NumT m)) aU))) (fun i hi => ?_)
 refine ts (ro rfl (op_lssN (Ht rfl) (Ht rfl)) (R_nil (cG (cY (Ht rfl) (fun hd => ?_) (fun hd => ?_)))))
 ·simp only [decide_eq_true_eq] at hd
  have hki : qat Q i < z.length := qat_lt hQ (by omega)
  refine cK (cG (T_block (ts (rm rfl (ro rfl (dX U_69 Z_3 (Ht rfl) (Ht rfl) rfl (dU (suc_get (by omega)))) (ro rfl (dZ A_3 Z_3 (Ht rfl)) (ra rfl (ra rfl (R_nil (cU (rm rfl (rm rfl (ro rfl (op_fld1 fa_30_0 (Ht rfl) rfl) (ro rfl (dZ A_27 Z_27 (Ht rfl)) (rm rfl (ro rfl (OpTy.nat (dV (Ht rfl) (cZ 1) (by omega) (by show _ < 9223372036854775808; first | omega | (simp only [lim]; omega))) (show qat Q i + 1 - 1 = qat Q i by omega)) (ro rfl (dX U_27 Z_45 (Ht rfl) (Ht rfl) rfl (dU (dK (d := Qi.zero) hki))) ?_)))))))))))))))))
  refine ro rfl (dZ A_45 Z_45 (Ht rfl)) (ro rfl (op_idxO U_27 Z_45 (Ht rfl) (Ht rfl) rfl (i := 2) rfl (by rw [List.length_map, mix_len]; omega) rfl) ?_)
  refine R_stO Z_45 (Ht rfl) (Ht rfl) (El.ag rfl) (i := 2) rfl rfl (by rw [List.length_map, mix_len]; omega) rfl ?_
  refine R_nil (T_blk (cU (ro rfl (dJ (Ht rfl) (cZ 1) (by show _ < 9223372036854775808; first | omega | (simp only [lim]; omega))) (rm rfl (R_nil (T_again (i + 1) hd (by omega) (aQ rfl (aQ rfl (aQ rfl (aQ rfl (aQ rfl (aQ rfl (aQ rfl aX))))))) (aK (fun _ _ _ h => h) (aK (fun _ _ _ h => h) (aK (rowO_of (by rw [set_mapF, ← mix_set (f := (fun i => gv z (qat Q i)))])) aU)))))))))
 ·simp only [decide_eq_false_iff_not] at hd
  obtain rfl : m = i := Nat.le_antisymm (by omega) hi
  rw [mix_fin]
  refine T_exit rfl (T_freeze (i := 2) (tt := 5) rfl rfl frz_row ?_)
  rw [show subZ z Q = tab m fun i => gv z (qat Q i) from by rw [subZ, hm], show subM s Q = tab m fun i => tab m fun j => gm s (qat Q i) (qat Q j) from by rw [subM, hm]]
  refine ts (rm rfl (ro rfl (dZ A_69 Z_69 (Ht rfl)) (ro rfl (dW U_69 (Ht rfl) (by rw [List.length_map, hll])) ?_)))
  refine ro rfl (op_clos (γ := Fin m × Fin m) (Ts := fun x => [NT .i64 x.1.1, NT .i64 x.2.1]) (U := fun x => NumT (gm s (qat Q x.1.1) (qat Q x.2.1))) Tryz.call210 (fun x => c_part1 hs hQ hm hm2 hl x.1.2 x.2.2) ⟨(Ht rfl), (Ht rfl), trivial⟩) (R_call0 Tryz.call119 (c_fillO (n := m) (f := fun i j => gm s (qat Q i) (qat Q j)) (by omega)) ⟨(Ht rfl), (Ht rfl), trivial⟩ rfl (fun B32 _ => (ro rfl (bld_30_0_1 (Ht rfl) (Ht rfl)) (R_stA Z_30 (Ht rfl) (Ht rfl) rfl (i := 1) rfl (Nat.le_of_ble_eq_true rfl) rfl rfl (R_nil ?_)))))
  exact T_retO B32 trivial [0, 3] ⟨⟨_, rfl, fun _ _ _ h => h⟩, ⟨_, rfl, fun _ _ _ h => h⟩, trivial⟩ (by decide) (rvs1 rfl (rv_cell A_30 Z_30 rfl (i := 1) rfl rfl))
theorem c_partO {z : List Qi} {s : List (List Qi)} {p m : Nat} (hs : Shp s z.length z.length) (hp : p < z.length) (hm : m = z.length - 1) (hl : z.length ≤ 1000) : FunO Tryz.prog 111 [NetT z s, IntsT (lftL p m)] [] Nat (fun B => AggT [NumsT (prtZ z p m), Is (.slice (some ⟨B, 0, none⟩) m m)]) (fun B => [matO B 27 45 5 (FRow NumT (prtS s p m))]) (fun _ => True) := by
  have h := c_partG (Q := tab m (skp p)) hs (skp_all hp hm) (tab_len _ _) (by omega) hl
  rw [subZ_skp, subM_skp, lft_skp] at h
  exact h
set_option maxRecDepth 20000 in
theorem c_whole {n : Int} (h1 : -9223372036854775808 ≤ n) (h2 : n ≤ 9223372036854775807) : Fun Tryz.prog 121 [IntT .i64 n] (NumT (Qi.ofInt n)) := by
 refine Fun.intro Tryz.func121 rfl Tryz.ntmps121 rfl (fun cx => (ts (rn rfl (new_alloc (Ts := [Is (.bool false), Is (.slice none 0 0), Is (.bool false), Is (.slice none 0 0), Is (.slice none 0 0)]) O_45 rfl (fun V => aW ⟨rfl, trivial⟩ (aW ⟨rfl, trivial⟩ (aW ⟨rfl, trivial⟩ (aW ⟨rfl, trivial⟩ (aW ⟨rfl, trivial⟩ (aG))))))) fun B2 => (R_nil (ts (rn rfl (new_alloc (Ts := [Is (.bool false), Is (.slice none 0 0), Is (.bool false), Is (.slice none 0 0), Is (.slice none 0 0)]) O_45 rfl (fun V => aW ⟨rfl, trivial⟩ (aW ⟨rfl, trivial⟩ (aW ⟨rfl, trivial⟩ (aW ⟨rfl, trivial⟩ (aW ⟨rfl, trivial⟩ (aG))))))) fun B3 => ?_))))))
 refine R_nil (cG (C.D_start (m := 4) (dp 3 rfl (op_ldBA A_45 Z_45 (Ht rfl) (i := 1) rfl rfl rfl) (dq 4 0 rfl (op_iface mkif_45 (Ht rfl)) (dp 0 rfl (cQ (Ht rfl)) (dq 6 2 rfl (cX K_86 (c_Int (n := n) h1 h2) ⟨(Ht rfl), trivial⟩) (C.D_done mixed rfl (by kernel_rfl) (aJ (aJ (aJ (aJ (aV (ro rfl (op_invoke meth_45_Of Tryz.call302 c_OfZ (Ht rfl) ⟨(Ht rfl), trivial⟩) (R_stA Z_45 (Ht rfl) (Ht rfl) rfl (i := 0) rfl (Nat.le_of_ble_eq_true rfl) rfl rfl (R_nil ?_)))))))))))))))
 exact T_ret1 rfl (rv_cell A_45 Z_45 rfl (i := 0) rfl rfl)
end
section
open Go Go.RowKit
set_option maxHeartbeats 1000000 in
set_option maxRecDepth 20000 in
theorem c_Term {z : List Qi} {s : List (List Qi)} {port : Int} {g : Qi} {L : Nat} (hs : Shp s z.length z.length) (hf : FitM s L) (hg : FitC g L) (hL : 1 ≤ L) (hLb : L ≤ 1000000) (hl : z.length ≤ 1000) : Fun Tryz.prog 60 [NetT z s, IntT .i64 port, NumT g] (TupT [NetT (trmRZ z s port g) (trmRS z s port g), IntT .i64 (trmE z s port g)]) := by
 haveI := hg
 have hsl := hs.1
 refine Fun.intro Tryz.func60 rfl Tryz.ntmps60 rfl (fun cx => (ts (rn rfl (new_box (Ht rfl)) fun B3 => (rn rfl (new_box (Ht rfl)) fun B5 => (rn rfl (new_alloc (Ts := [Is (.slice none 0 0), Is (.slice none 0 0)]) O_30 rfl (fun V => aW ⟨rfl, trivial⟩ (aW ⟨rfl, trivial⟩ (aG)))) fun B6 => (ro rfl (bY (cZ 0)) (R_nil (cG (T_block (ts (ro rfl (op_ldBA A_30 Z_30 (Ht rfl) (i := 0) rfl rfl rfl) (rm rfl (ro rfl (cX Tryz.call171 c_has ⟨(Ht rfl), (Ht rfl), trivial⟩) (ro rfl (op_not (Ht rfl)) (ra rfl (R_nil (cY (Ht rfl) (fun hb => ?_) (fun hb => ?_))))))))))))))))))
 ·have he : trmE z s port g = 1 := trmE_1 (by simpa only [Bool.not_eq_true', decide_eq_false_iff_not] using hb)
  refine ts (ro rfl (OpTy.imp (bld_30_ ) net_nil) (R_stA Z_30 (Ht rfl) (Ht rfl) rfl (i := 2) rfl (Nat.le_of_ble_eq_true rfl) rfl rfl (ro rfl (bY (cZ 1)) (R_nil (T_ret2 rfl (rv_to (rv_cell A_30 Z_30 rfl (i := 2) rfl rfl) ?_) (rv_to (rv_tmp rfl) ?_))))))
  ·exact (trm_bad he (by decide))
  ·exact (int_of he.symm)
 ·have hb2 : 1 ≤ port ∧ port ≤ (z.length : Int) := by simpa using hb
  obtain ⟨p, rfl⟩ : ∃ p : Nat, port = (p : Int) + 1 := ⟨(port - 1).toNat, by omega⟩
  have hp : p < z.length := by omega
  refine ts (ro rfl (op_fldB fa_30_0 (Ht rfl) rfl) (ro rfl (op_ldB A_27 Z_27 (Ht rfl) (i := 0) rfl rfl) (ro rfl (dW U_27 (Ht rfl) len_map) (ro rfl (op_eqlN (Ht rfl) (cZ 1)) (ra rfl (R_nil (cY (Ht rfl) (fun hc => ?_) (fun hc => ?_))))))))
  ·have he : trmE z s ((p : Int) + 1) g = 4 := trmE_4 hb2 (by simpa using hc)
   refine ts (ro rfl (OpTy.imp (bld_30_ ) net_nil) (R_stA Z_30 (Ht rfl) (Ht rfl) rfl (i := 2) rfl (Nat.le_of_ble_eq_true rfl) rfl rfl (ro rfl (bY (cZ 4)) (R_nil (T_ret2 rfl (rv_to (rv_cell A_30 Z_30 rfl (i := 2) rfl rfl) ?_) (rv_to (rv_tmp rfl) ?_))))))
   ·exact (trm_bad he (by decide))
   ·exact (int_of he.symm)
  ·have hn1 : ¬ z.length = 1 := by simpa using hc
   have htd := trmE_d (s := s) (g := g) hp hn1
   obtain ⟨m, hm⟩ : ∃ m, m = z.length - 1 := ⟨_, rfl⟩
   have hspl := hs.row hp
   haveI f0 : FitC (Qi.ofInt 1) 1 := fit_one
   haveI f1 : FitC (gm s p p) L := hf.get hL p p
   refine cK (T_blk (ts (rm rfl (ro rfl (op_sub (Ht rfl) cJ (r := ((p : Nat) : Int)) ((w64 (z := (p : Int) + 1 - 1) (by omega)).trans (by omega))) ?_))))
   refine ra rfl (R_nil (cG (Y.D_start (m := 22) [] (bU (Ei := [(5, _)]) rfl rfl (aY (bZ rfl rfl) bQ) rfl rfl (dQ rfl (op_ldBA A_45 Z_45 (Ht rfl) (i := 1) rfl rfl rfl)) (bU (Ei := [(32, _)]) rfl rfl (aY (bX 0 rfl rfl) bQ) rfl rfl (dQ rfl (op_iface mkif_45 (Ht rfl))) (bU (Ei := []) rfl rfl bQ rfl rfl (dQ rfl (cX Tryz.call121 (c_whole (n := 1) (by decide) (by decide)) ⟨(cZ 1), trivial⟩)) (bU (Ei := [(34, _)]) rfl rfl (aY (bX 2 rfl rfl) bQ) rfl rfl (dQ rfl (op_iface mkif_45 (Ht rfl))) ?_)))))))
   refine bU (Ei := [(3, _)]) rfl rfl (aY (bZ rfl rfl) bQ) rfl rfl (dQ rfl (op_fldB fa_30_1 (Ht rfl) rfl)) (bU (Ei := [(36, _)]) rfl rfl (aY (bX 4 rfl rfl) bQ) rfl rfl (dQ rfl (op_ldB A_28 Z_28 (Ht rfl) (i := 0) rfl rfl)) (bU (Ei := [(8, _)]) rfl rfl (aY (bZ rfl rfl) bQ) rfl rfl (dQ rfl (cQ (Ht rfl))) (bU (Ei := [(37, _), (38, _)]) rfl rfl (aY (bX 5 rfl rfl) (aY (bX 6 rfl rfl) bQ)) rfl rfl (dQ rfl (dX U_28 Z_27 (Ht rfl) (Ht rfl) rfl (dU (dK (d := []) (by omega))))) ?_)))
   refine bU (Ei := [(39, _)]) rfl rfl (aY (bX 7 rfl rfl) bQ) rfl rfl (dQ rfl (dZ A_27 Z_27 (Ht rfl))) (bU (Ei := [(8, _)]) rfl rfl (aY (bZ rfl rfl) bQ) rfl rfl (dQ rfl (cQ (Ht rfl))) (bU (Ei := [(40, _), (41, _)]) rfl rfl (aY (bX 8 rfl rfl) (aY (bX 9 rfl rfl) bQ)) rfl rfl (dQ rfl (dX U_27 Z_45 (Ht rfl) (Ht rfl) rfl (dU (dK (d := Qi.zero) (by omega))))) (bU (Ei := [(42, _)]) rfl rfl (aY (bX 10 rfl rfl) bQ) rfl rfl (dQ rfl (dZ A_45 Z_45 (Ht rfl))) ?_)))
   refine bU (Ei := [(43, _)]) rfl rfl (aY (bX 11 rfl rfl) bQ) rfl rfl (dQ rfl (op_iface mkif_45 (Ht rfl))) (bU (Ei := [(5, _)]) rfl rfl (aY (bZ rfl rfl) bQ) rfl rfl (dQ rfl (op_ldBA A_45 Z_45 (Ht rfl) (i := 1) rfl rfl rfl)) (bU (Ei := [(44, _), (45, _)]) rfl rfl (aY (bX 12 rfl rfl) (aY (bX 13 rfl rfl) bQ)) rfl rfl (dQ rfl (op_invoke meth_45_Mul K_67 (c_Mul (x := gm s p p) (y := g) (L := L) (M := L) (by omega)) (Ht rfl) ⟨(Ht rfl), trivial⟩)) (bU (Ei := [(35, _), (46, _)]) rfl rfl (aY (bX 3 rfl rfl) (aY (bX 14 rfl rfl) bQ)) rfl rfl (dQ rfl (op_invoke meth_45_Sub K_66 (c_Sub (x := Qi.ofInt 1) (y := gm s p p * g) (L := 1) (M := L + L + 1) (hx := f0) (by omega)) (Ht rfl) ⟨(Ht rfl), trivial⟩)) ?_)))
   refine bU (Ei := [(33, _), (47, _)]) rfl rfl (aY (bX 1 rfl rfl) (aY (bX 15 rfl rfl) bQ)) rfl rfl (dQ rfl (op_invoke meth_45_Div Tryz.call59 (c_Div (x := g) (y := Qi.ofInt 1 - gm s p p * g) (L := L) (M := 1 + (L + L + 1) + 1) (hy := @fitSub _ _ _ _ f0 inferInstance) (by omega)) (Ht rfl) ⟨(Ht rfl), trivial⟩)) (bU (Ei := [(48, _)]) rfl rfl (aY (bX 16 rfl rfl) bQ) rfl rfl (dQ rfl (cQ (Ht rfl))) (bU (Ei := [(31, _)]) rfl rfl (aY (bX 17 rfl rfl) bQ) rfl rfl (dQ rfl (dG (Ht rfl) rfl)) ?_))
   refine bU (Ei := [(31, _)]) rfl rfl (aY (bX 17 rfl rfl) bQ) rfl rfl (dQ rfl (dG (Ht rfl) rfl)) (Y.D_newp (Ei := []) (fun bb => box bb 45 [BoolT (decide ((trmF s p g).a < 0)), NatT (trmF s p g).a.natAbs, BoolT (decide ((trmF s p g).b < 0)), NatT (trmF s p g).b.natAbs, NatT (du (trmF s p g))]) 21 rfl rfl rfl bQ rfl rfl (by kernel_rfl) (new_alloc (Ts := [Is (.bool false), Is (.slice none 0 0), Is (.bool false), Is (.slice none 0 0), Is (.slice none 0 0)]) O_45 rfl (fun V => aW ⟨rfl, trivial⟩ (aW ⟨rfl, trivial⟩ (aW ⟨rfl, trivial⟩ (aW ⟨rfl, trivial⟩ (aW ⟨rfl, trivial⟩ (aG))))))) ?_)
   refine Y.D_putN (Ei := [(49, _)]) 20 rfl rfl rfl rfl rfl rfl (aY (bX 18 rfl rfl) bQ) (fun bb => P_stA Z_45 (Ht rfl) (Ht rfl) rfl (i := 0) rfl (Nat.le_of_ble_eq_true rfl) rfl rfl) (Y.D_done mixed rfl (by kernel_rfl) rfl (by simp [Y.okP]) rfl rfl (bK (bK (bK (bK (bK (bK (bK (bK (bK (bK (bK (bK (bK (bK (bK (bK (bK (bK (bK (bK (Y.F_newp (fun B9 => Y.F_putN (Y.F_nil ?_))))))))))))))))))))))))
   refine ra rfl (R_nil (cG (ts (rm rfl (ro rfl (op_neq (Ht rfl) cJ) (R_nil (cY (Ht rfl) (fun he => ?_) (fun he => ?_))))))))
   ·have hz : Qi.ofInt 1 - gm s p p * g = Qi.zero := by simp at he; exact he
    have he : trmE z s ((p : Int) + 1) g = 6 := by rw [htd, if_pos hz]
    refine ts (ro rfl (OpTy.imp (bld_30_ ) net_nil) (R_stA Z_30 (Ht rfl) (Ht rfl) rfl (i := 2) rfl (Nat.le_of_ble_eq_true rfl) rfl rfl (ro rfl (bY (cZ 6)) (R_nil (T_ret2 rfl (rv_to (rv_cell A_30 Z_30 rfl (i := 2) rfl rfl) ?_) (rv_to (rv_tmp rfl) ?_))))))
    ·exact (trm_bad he (by decide))
    ·exact (int_of he.symm)
   ·have hz : Qi.ofInt 1 - gm s p p * g ≠ Qi.zero := by simp at he; exact he
    have he : trmE z s ((p : Int) + 1) g = 0 := by rw [htd, if_neg hz]
    haveI ff : FitC (trmF s p g) (7 * L + 11) := trmF_fit hf hg hL hz
    have hll : (lftL p m).length = m := tab_len _ _
    refine cK (ts (ro rfl (op_ldBA A_30 Z_30 (Ht rfl) (i := 0) rfl rfl rfl) (rm rfl (ro rfl (op_bslice (xs := [.tmp 55]) U_69 Z_3 O_3 (cV (Ht rfl) cW) rfl rfl rfl) (ro rfl (cX Tryz.call112 (dY (c_left (z := z) (s := s) (p := p) hp hl) (slT_of (by rw [← hm]))) ⟨(Ht rfl), (Ht rfl), trivial⟩) ?_)))))
    refine ra rfl (R_nil (ts (ro rfl (op_ldBA A_30 Z_30 (Ht rfl) (i := 0) rfl rfl rfl) (rm rfl (R_call0 Tryz.call111 (c_partO (p := p) (m := m) hs hp hm hl) ⟨(Ht rfl), (Ht rfl), trivial⟩ rfl (fun B60 _ => (rn rfl (new_alloc (Ts := [Is (.slice none 0 0), Is (.slice none 0 0)]) O_30 rfl (fun V => aW ⟨rfl, trivial⟩ (aW ⟨rfl, trivial⟩ (aG)))) fun B12 => (R_stA Z_30 (Ht rfl) (Ht rfl) rfl (i := 5) rfl (Nat.le_of_ble_eq_true rfl) rfl rfl (R_nil (cG (ts (rm rfl (ro rfl (dW U_69 (Ht rfl) (by rw [List.length_map, hll])) ?_)))))))))))))
    refine ro rfl (cQ (cZ 0)) (R_nil (T_block (T_keep [0, 2, 3, 4, 5] rfl (by decide) ?_)))
    refine T_loop (fun (i : Nat) => i ≤ m) (fun (i : Nat) => m - i) (fun (i : Nat) => [(3, PtrB B3 0), (6, PtrB B6 0), (8, NT .i64 p), (9, PtrB B9 0), (11, IntsT (lftL p m)), (12, PtrB B12 0), (61, IntsT (lftL p m)), (62, NT .i64 m), (63, NT .i64 i)]) (fun (i : Nat) => [box B3 30 [NumsT z, NumM s], box B6 30 [Is (.slice none 0 0), Is (.slice none 0 0)], box B9 45 [BoolT (decide ((trmF s p g).a < 0)), NatT (trmF s p g).a.natAbs, BoolT (decide ((trmF s p g).b < 0)), NatT (trmF s p g).b.natAbs, NatT (du (trmF s p g))], matO B60 27 45 5 (FRow NumT (mixG (fun i => tab m fun j => trmX s p (trmF s p g) i j) (fun i => tab m fun j => gm s (skp p i) (skp p j)) m i)), box B12 30 [NumsT (prtZ z p m), Is (.slice (some ⟨B60, 0, none⟩) m m)]]) 0 (Nat.zero_le _)
     (aQ rfl (aQ rfl (aQ rfl (aQ rfl (aQ rfl (aQ rfl (aQ rfl (aQ rfl (aQ rfl aX))))))))) (aK (fun _ _ _ h => h) (aK (fun _ _ _ h => h) (aK (box_of rfl) (aK (matO_of (by rw [← mixG_zero]; rfl)) (aK (box_of rfl) aU))))) (fun i hi => ?_)
    refine ts (ro rfl (op_lssN (Ht rfl) (Ht rfl)) (R_nil (cG (cY (Ht rfl) (fun hd => ?_) (fun hd => ?_)))))
    ·simp only [decide_eq_true_eq] at hd
     have hki : skp p i < z.length := skp_lt (by omega) hp
     have hsr := hs.row hki
     refine T_focus 3 (i) rfl (frow_mixG hd) (fun v => (cK (cG (T_block (ts (rm rfl (ro rfl (dX U_69 Z_3 (Ht rfl) (Ht rfl) rfl (dU (lft_get hd))) (ro rfl (dZ A_3 Z_3 (Ht rfl)) (ra rfl (ra rfl (R_nil (ts (rm rfl (ro rfl (dW U_69 (Ht rfl) (by rw [List.length_map, hll])) ?_))))))))))))))
     refine ro rfl (cQ (cZ 0)) (R_nil (T_block ?_))
     refine T_loop (fun (j : Nat) => j ≤ m) (fun (j : Nat) => m - j) (fun (j : Nat) => [(3, PtrB B3 0), (6, PtrB B6 0), (8, NT .i64 p), (9, PtrB B9 0), (11, IntsT (lftL p m)), (12, PtrB B12 0), (13, NT .i64 i), (14, NT .i64 (skp p i + 1)), (61, IntsT (lftL p m)), (62, NT .i64 m), (63, NT .i64 i), (68, IntsT (lftL p m)), (69, NT .i64 m), (70, NT .i64 j)]) (fun (j : Nat) => [box B3 30 [NumsT z, NumM s], box B6 30 [Is (.slice none 0 0), Is (.slice none 0 0)], box B9 45 [BoolT (decide ((trmF s p g).a < 0)), NatT (trmF s p g).a.natAbs, BoolT (decide ((trmF s p g).b < 0)), NatT (trmF s p g).b.natAbs, NatT (du (trmF s p g))], matH B60 27 45 5 (FRow NumT (mixG (fun i => tab m fun j => trmX s p (trmF s p g) i j) (fun i => tab m fun j => gm s (skp p i) (skp p j)) m i)) i v, box B12 30 [NumsT (prtZ z p m), Is (.slice (some ⟨B60, 0, none⟩) m m)], rowO 45 5 v ((mixG (fun j => trmX s p (trmF s p g) i j) (fun j => gm s (skp p i) (skp p j)) m j).map NumT)]) 0 (Nat.zero_le _)
      (aQ rfl (aQ rfl (aQ rfl (aQ rfl (aQ rfl (aQ rfl (aQ rfl (aQ rfl (aQ rfl (aQ rfl (aQ rfl (aQ rfl (aQ rfl (aQ rfl aX)))))))))))))) (aK (fun _ _ _ h => h) (aK (fun _ _ _ h => h) (aK (fun _ _ _ h => h) (aK (fun _ _ _ h => h) (aK (fun _ _ _ h => h) (aK (rowO_of (by rw [← mixG_zero])) aU)))))) (fun j hj => ?_)
     refine ts (ro rfl (op_lssN (Ht rfl) (Ht rfl)) (R_nil (cG (cY (Ht rfl) (fun hf2 => ?_) (fun hf2 => ?_)))))
     ·simp only [decide_eq_true_eq] at hf2
      have hkj : skp p j < z.length := skp_lt (by omega) hp
      have hrl := mixG_len (fun j => trmX s p (trmF s p g) i j) (fun j => gm s (skp p i) (skp p j)) m j
      haveI g1 : FitC (gm s (skp p i) (skp p j)) L := hf.get hL _ _
      haveI g2 : FitC (gm s (skp p i) p) L := hf.get hL _ _
      haveI g3 : FitC (gm s p (skp p j)) L := hf.get hL _ _
      refine cK (cG (T_block (ts (rm rfl (ro rfl (dX U_69 Z_3 (Ht rfl) (Ht rfl) rfl (dU (lft_get hf2))) (ro rfl (dZ A_3 Z_3 (Ht rfl)) (ra rfl (ra rfl (R_nil (C.D_start (m := 39) (dp 12 rfl (op_fldB fa_30_1 (Ht rfl) rfl) (dq 75 0 rfl (op_ldB A_28 Z_28 (Ht rfl) (i := 4) rfl rfl) (dp 13 rfl (cQ (Ht rfl)) (dqq 76 1 77 2 rfl (op_idxB U_28 Z_27 (Ht rfl) (Ht rfl) rfl (by omega) (by rw [Nat.mul_one, Nat.zero_add])) ?_))))))))))))))
      refine dq 78 3 rfl (op_ldH A_27 Z_27 (Ht rfl) (j := 3) rfl) (dp 15 rfl (cQ (Ht rfl)) (dp 12 rfl (op_fldB fa_30_1 (Ht rfl) rfl) (dq 81 6 rfl (op_ldB A_28 Z_28 (Ht rfl) (i := 4) rfl rfl) (dp 13 rfl (cQ (Ht rfl)) (dqq 82 7 83 8 rfl (op_idxB U_28 Z_27 (Ht rfl) (Ht rfl) rfl (by omega) (by rw [Nat.mul_one, Nat.zero_add])) ?_)))))
      refine dq 84 9 rfl (op_ldH A_27 Z_27 (Ht rfl) (j := 3) rfl) (dp 15 rfl (cQ (Ht rfl)) (dqq 85 10 86 11 rfl (op_idxO U_27 Z_45 (Ht rfl) (Ht rfl) rfl (i := 5) rfl (by simp only [List.length_map, hrl]; omega) rfl) ?_))
      refine dq 87 12 rfl (op_ldO A_45 Z_45 (Ht rfl) (i := 5) rfl rfl (dU (mixG_get hf2))) (dq 88 13 rfl (op_iface mkif_45 (Ht rfl)) (dp 3 rfl (op_fldB fa_30_1 (Ht rfl) rfl) (dq 90 15 rfl (op_ldB A_28 Z_28 (Ht rfl) (i := 0) rfl rfl) (dp 14 rfl (cQ (Ht rfl)) (dq 92 17 rfl (OpTy.nat (dV (Ht rfl) (cZ 1) (by omega) (by show _ < 9223372036854775808; first | omega | (simp only [lim]; omega))) (show skp p i + 1 - 1 = skp p i by omega)) (dqq 91 16 93 18 rfl (dX U_28 Z_27 (Ht rfl) (Ht rfl) rfl (dU (dK (d := []) (by omega)))) ?_))))))
      refine dq 94 19 rfl (dZ A_27 Z_27 (Ht rfl)) (dp 8 rfl (cQ (Ht rfl)) (dqq 95 20 96 21 rfl (dX U_27 Z_45 (Ht rfl) (Ht rfl) rfl (dU (dK (d := Qi.zero) (by omega)))) (dq 97 22 rfl (dZ A_45 Z_45 (Ht rfl)) (dq 98 23 rfl (op_iface mkif_45 (Ht rfl)) (dp 9 rfl (op_ldBA A_45 Z_45 (Ht rfl) (i := 2) rfl rfl rfl) (dq 100 25 rfl (op_iface mkif_45 (Ht rfl)) (dp 3 rfl (op_fldB fa_30_1 (Ht rfl) rfl) (dq 102 27 rfl (op_ldB A_28 Z_28 (Ht rfl) (i := 0) rfl rfl) (dp 8 rfl (cQ (Ht rfl)) ?_)))))))))
      refine dqq 103 28 104 29 rfl (dX U_28 Z_27 (Ht rfl) (Ht rfl) rfl (dU (dK (d := []) (by omega)))) (dq 105 30 rfl (dZ A_27 Z_27 (Ht rfl)) (dp 16 rfl (cQ (Ht rfl)) (dq 107 32 rfl (OpTy.nat (dV (Ht rfl) (cZ 1) (by omega) (by show _ < 9223372036854775808; first | omega | (simp only [lim]; omega))) (show skp p j + 1 - 1 = skp p j by omega)) (dqq 106 31 108 33 rfl (dX U_27 Z_45 (Ht rfl) (Ht rfl) rfl (dU (dK (d := Qi.zero) (by omega)))) (dq 109 34 rfl (dZ A_45 Z_45 (Ht rfl)) ?_)))))
      refine dqq 101 26 110 35 rfl (op_invoke meth_45_Mul K_67 (c_Mul (x := trmF s p g) (y := gm s p (skp p j)) (L := 7 * L + 11) (M := L) (by omega)) (Ht rfl) ⟨(Ht rfl), trivial⟩) (dqq 99 24 111 36 rfl (op_invoke meth_45_Mul K_67 (c_Mul (x := gm s (skp p i) p) (y := trmF s p g * gm s p (skp p j)) (L := L) (M := 7 * L + 11 + L + 1) (by omega)) (Ht rfl) ⟨(Ht rfl), trivial⟩) (dqq 89 14 112 37 rfl (op_invoke meth_45_Add K_68 (c_Add (x := gm s (skp p i) (skp p j)) (y := gm s (skp p i) p * (trmF s p g * gm s p (skp p j))) (L := L) (M := L + (7 * L + 11 + L + 1) + 1) (by omega)) (Ht rfl) ⟨(Ht rfl), trivial⟩) ?_))
      refine C.D_done mixed rfl (by kernel_rfl) (aJ (aJ (aJ (aJ (aJ (aJ (aJ (aJ (aJ (aJ (aJ (aJ (aJ (aJ (aJ (aJ (aJ (aJ (aJ (aJ (aJ (aJ (aJ (aJ (aJ (aJ (aJ (aJ (aJ (aJ (aJ (aJ (aJ (aJ (aJ (aJ (aJ (aJ (aJ (aV (ro rfl (op_idxO U_27 Z_45 (Ht rfl) (Ht rfl) rfl (i := 5) rfl (by simp only [List.length_map, hrl]; omega) rfl) ?_)))))))))))))))))))))))))))))))))))))))))
      refine R_stO Z_45 (Ht rfl) (Ht rfl) (El.ag rfl) (i := 5) rfl rfl (by simp only [List.length_map, hrl]; omega) rfl ?_
      refine R_nil (T_blk (cU (ro rfl (dJ (Ht rfl) (cZ 1) (by show _ < 9223372036854775808; first | omega | (simp only [lim]; omega))) (rm rfl (R_nil (T_again (j + 1) hf2 (by omega) (aQ rfl (aQ rfl (aQ rfl (aQ rfl (aQ rfl (aQ rfl (aQ rfl (aQ rfl (aQ rfl (aQ rfl (aQ rfl (aQ rfl (aQ rfl (aQ rfl aX)))))))))))))) (aK (fun _ _ _ h => h) (aK (fun _ _ _ h => h) (aK (fun _ _ _ h => h) (aK (fun _ _ _ h => h) (aK (fun _ _ _ h => h) (aK (rowO_of (by rw [set_mapF, ← mixG_set (f := fun j => trmX s p (trmF s p g) i j)]; rfl)) aU))))))))))))
     ·simp only [decide_eq_false_iff_not] at hf2
      obtain rfl : m = j := Nat.le_antisymm (by omega) hj
      refine T_exit rfl (T_blk (T_unfocus 3 5 rfl rfl (by decide) (by simp only [FRow, List.length_map, mixG_len]; omega) ?_))
      refine cU (ro rfl (dJ (Ht rfl) (cZ 1) (by show _ < 9223372036854775808; first | omega | (simp only [lim]; omega))) (rm rfl (R_nil (T_keep [0, 1, 2, 3, 4] rfl (by decide) (T_again (i + 1) hd (by omega) (aQ rfl (aQ rfl (aQ rfl (aQ rfl (aQ rfl (aQ rfl (aQ rfl (aQ rfl (aQ rfl aX))))))))) (aK (fun _ _ _ h => h) (aK (fun _ _ _ h => h) (aK (fun _ _ _ h => h) (aK (matO_of (by rw [set_FRow, mixG_fin, ← mixG_set (f := (fun i => tab m fun j => trmX s p (trmF s p g) i j))])) (aK (fun _ _ _ h => h) aU))))))))))
    ·simp only [decide_eq_false_iff_not] at hd
     obtain rfl : m = i := Nat.le_antisymm (by omega) hi
     rw [mixG_fin]
     refine T_exit rfl (cG (T_frzcellG 4 3 1 rfl rfl rfl (by decide) (frzM (q := fun _ => True) (M := trmS s p m (trmF s p g)) (tab_len _ _).symm) ?_))
     subst hm
     refine cU (ro rfl (op_ldBA A_30 Z_30 (Ht rfl) (i := 4) rfl rfl rfl) (R_stA Z_30 (Ht rfl) (Ht rfl) rfl (i := 1) rfl (Nat.le_of_ble_eq_true rfl) rfl rfl (ro rfl (bY (cZ 0)) (R_nil (T_ret2 rfl (rv_to (rv_cell A_30 Z_30 rfl (i := 1) rfl rfl) ?_) (rv_to (rv_tmp rfl) ?_))))))
     ·exact (trm_good he)
     ·exact (int_of he.symm)
end
section
open Go Go.RowKit
def fwZ : List Qi := [r50, r50].map Rt.q
def fwS : List (List Qi) := rq [[rHalf, rHalf], [rHalf, rHalf]]
def fwTZ : List Qi := trmRZ fwZ fwS 2 (Qi.ofInt 1)
def fwTS : List (List Qi) := trmRS fwZ fwS 2 (Qi.ofInt 1)
theorem fw_err : netErr fwZ fwS = 0 := by decide +kernel
theorem fw_shp : Shp fwS fwZ.length fwZ.length := (netErr_ok fw_err).2.2.1
theorem fw_trm : trmE fwZ fwS 2 (Qi.ofInt 1) = 0 := by decide +kernel
theorem fw_tz : fwTZ.length = 1 := by decide +kernel
theorem fw_ts : fwTS = [[Qi.ofInt 1]] := by decide +kernel
theorem fw_inv : invE (pmM true (idM fwZ.length) fwS fwZ.length) fwZ.length ≠ 0 := by decide +kernel
theorem fw_fz : FitL fwZ 2 := FitL.rt
theorem fw_fs : FitM fwS 2 := FitM.rt
theorem fw_f1 : FitC (Qi.ofInt 1) 2 := fit_one.le (by decide)
theorem fw_net : ∀ v V, (TupT [NetT (okL (netErr fwZ fwS) fwZ) (okL (netErr fwZ fwS) fwS), IntT .i64 (netErr fwZ fwS)]).p v V → (TupT [NetT fwZ fwS, IntT .i64 0]).p v V := by rw [fw_err]; exact fun _ _ h => h
theorem fw_ter : ∀ v V, (TupT [NetT (trmRZ fwZ fwS ((2 : Nat) : Int) (Qi.ofInt 1)) (trmRS fwZ fwS ((2 : Nat) : Int) (Qi.ofInt 1)), IntT .i64 (trmE fwZ fwS ((2 : Nat) : Int) (Qi.ofInt 1))]).p v V → (TupT [NetT fwTZ fwTS, IntT .i64 0]).p v V := by
  rw [show trmE fwZ fwS ((2 : Nat) : Int) (Qi.ofInt 1) = 0 from fw_trm]; exact fun _ _ h => h
theorem fw_tsh : Shp fwTS fwTZ.length fwTZ.length := by rw [fw_tz, fw_ts]; exact ⟨rfl, by simp⟩
theorem fw_at : ∀ v V, (TupT [NumT (pkm fwTZ.length fwTS ((1 : Nat) : Int) ((1 : Nat) : Int)), IntT .i64 (if (1 ≤ ((1 : Nat) : Int) ∧ ((1 : Nat) : Int) ≤ fwTZ.length) ∧ 1 ≤ ((1 : Nat) : Int) ∧ ((1 : Nat) : Int) ≤ fwTZ.length then 0 else 1)]).p v V → (TupT [NumT (Qi.ofInt 1), IntT .i64 0]).p v V := by
  rw [fw_tz, fw_ts, if_pos (by decide)]
  rw [show pkm 1 [[Qi.ofInt 1]] ((1 : Nat) : Int) ((1 : Nat) : Int) = Qi.ofInt 1 from rfl]
  exact fun _ _ h => h
theorem fw_t : txt (Qi.ofInt 1) = [49] := by decide +kernel
end
section
open Go Go.RowKit
set_option maxHeartbeats 1000000 in
set_option maxRecDepth 20000 in
theorem c_awake4  : Fun Tryz.prog 15 [] (BoolT true) := by
 refine Fun.intro Tryz.func15 rfl Tryz.ntmps15 rfl (fun cx => (ts (ro rfl (bY cJ) (R_nil (ts (ro rfl (bld_91_0_2 cJ cJ) (rn rfl (new_alloc (Ts := [Is (.int .i64 0), Is (.int .i64 0), Is (.int .i64 0)]) O_91 rfl (fun V => aW ⟨rfl, trivial⟩ (aW ⟨rfl, trivial⟩ (aW ⟨rfl, trivial⟩ (aG))))) fun B1 => (R_stA Z_91 (Ht rfl) (Ht rfl) rfl (i := 0) rfl (Nat.le_of_ble_eq_true rfl) rfl rfl (R_nil (cG (Y.D_start (m := 18) [] (bU (Ei := []) rfl rfl bQ rfl rfl (dQ rfl (bld_91_0 cJ)) (bU (Ei := []) rfl rfl bQ rfl rfl (dQ rfl (bld_91_0 cJ)) ?_)))))))))))))
 refine bU (Ei := [(12, _), (13, _)]) rfl rfl (aY (bX 0 rfl rfl) (aY (bX 1 rfl rfl) bQ)) rfl rfl (dQ rfl (op_bslice (xs := [.tmp 12, .tmp 13]) U_22 Z_91 O_91 (cV (Ht rfl) (cV (Ht rfl) cW)) rfl rfl rfl)) (bU (Ei := [(14, _)]) rfl rfl (aY (bX 2 rfl rfl) bQ) rfl rfl (dQ rfl (cX Tryz.call23 (c_lawList (l := [r50, r50]) (by decide)) ⟨(Ht rfl), trivial⟩)) (bU (Ei := [(1, _)]) rfl rfl (aY (bZ rfl rfl) bQ) rfl rfl (dQ rfl (op_ldBA A_91 Z_91 (Ht rfl) (i := 0) rfl rfl rfl)) ?_))
 refine bU (Ei := [(1, _)]) rfl rfl (aY (bZ rfl rfl) bQ) rfl rfl (dQ rfl (op_ldBA A_91 Z_91 (Ht rfl) (i := 0) rfl rfl rfl)) (bU (Ei := [(16, _), (17, _)]) rfl rfl (aY (bX 4 rfl rfl) (aY (bX 5 rfl rfl) bQ)) rfl rfl (dQ rfl (op_bslice (xs := [.tmp 16, .tmp 17]) U_22 Z_91 O_91 (cV (Ht rfl) (cV (Ht rfl) cW)) rfl rfl rfl)) (bU (Ei := [(1, _)]) rfl rfl (aY (bZ rfl rfl) bQ) rfl rfl (dQ rfl (op_ldBA A_91 Z_91 (Ht rfl) (i := 0) rfl rfl rfl)) ?_))
 refine bU (Ei := [(1, _)]) rfl rfl (aY (bZ rfl rfl) bQ) rfl rfl (dQ rfl (op_ldBA A_91 Z_91 (Ht rfl) (i := 0) rfl rfl rfl)) (bU (Ei := [(19, _), (20, _)]) rfl rfl (aY (bX 7 rfl rfl) (aY (bX 8 rfl rfl) bQ)) rfl rfl (dQ rfl (op_bslice (xs := [.tmp 19, .tmp 20]) U_22 Z_91 O_91 (cV (Ht rfl) (cV (Ht rfl) cW)) rfl rfl rfl)) (bU (Ei := [(18, _), (21, _)]) rfl rfl (aY (bX 6 rfl rfl) (aY (bX 9 rfl rfl) bQ)) rfl rfl (dQ rfl (op_bslice (xs := [.tmp 18, .tmp 21]) U_25 Z_22 Tryz.zeroValue22 (cV (Ht rfl) (cV (Ht rfl) cW)) rfl rfl rfl)) ?_))
 refine bU (Ei := [(22, _)]) rfl rfl (aY (bX 10 rfl rfl) bQ) rfl rfl (dQ rfl (cX Tryz.call24 (c_lawRows (m := [[rHalf, rHalf], [rHalf, rHalf]]) (by decide) (by intro r hr; simp at hr; subst hr; decide)) ⟨(Ht rfl), trivial⟩)) ?_
 refine bU (Ei := [(15, _), (23, _)]) rfl rfl (aY (bX 3 rfl rfl) (aY (bX 11 rfl rfl) bQ)) rfl rfl (dQ rfl (cX Tryz.call85 (dY (c_netNew (z := fwZ) (s := fwS) (L := 2) fw_fz (by decide) (by decide) (by decide)) fw_net) ⟨(Ht rfl), (Ht rfl), trivial⟩)) (bU (Ei := [(24, _)]) rfl rfl (aY (bX 12 rfl rfl) bQ) rfl rfl (dQ rfl (cQ (Ht rfl))) (bU (Ei := [(11, _)]) rfl rfl (aY (bX 13 rfl rfl) bQ) rfl rfl (dQ rfl (dG (Ht rfl) rfl)) (bU (Ei := [(11, _)]) rfl rfl (aY (bX 13 rfl rfl) bQ) rfl rfl (dQ rfl (dG (Ht rfl) rfl)) ?_)))
 refine Y.D_newp (Ei := []) (fun bb => box bb 30 [NumsT fwZ, NumM fwS]) 17 rfl rfl rfl bQ rfl rfl (by kernel_rfl) (new_alloc (Ts := [Is (.slice none 0 0), Is (.slice none 0 0)]) O_30 rfl (fun V => aW ⟨rfl, trivial⟩ (aW ⟨rfl, trivial⟩ (aG)))) (Y.D_putN (Ei := [(25, _)]) 16 rfl rfl rfl rfl rfl rfl (aY (bX 14 rfl rfl) bQ) (fun bb => P_stA Z_30 (Ht rfl) (Ht rfl) rfl (i := 0) rfl (Nat.le_of_ble_eq_true rfl) rfl rfl) (Y.D_done mixed rfl (by kernel_rfl) rfl (by simp [Y.okP]) rfl rfl (bK (bK (bK (bK (bK (bK (bK (bK (bK (bK (bK (bK (bK (bK (bK (bK (Y.F_newp (fun B2 => Y.F_putN (Y.F_nil ?_)))))))))))))))))))))
 refine ra rfl (R_nil (cG (Y.D_start (m := 8) [] (bU (Ei := [(2, _)]) rfl rfl (aY (bZ rfl rfl) bQ) rfl rfl (dQ rfl (op_ldBA A_30 Z_30 (Ht rfl) (i := 1) rfl rfl rfl)) (bU (Ei := []) rfl rfl bQ rfl rfl (dQ rfl (cX K_86 (c_Int (n := 1) (by decide) (by decide)) ⟨(cZ 1), trivial⟩)) (bU (Ei := [(28, _), (29, _)]) rfl rfl (aY (bX 0 rfl rfl) (aY (bX 1 rfl rfl) bQ)) rfl rfl (dQ rfl (cX Tryz.call60 (dY (c_Term (z := fwZ) (s := fwS) (port := ((2 : Nat) : Int)) (g := Qi.ofInt 1) (L := 2) fw_shp fw_fs fw_f1 (by decide) (by decide) (by decide)) fw_ter) ⟨(Ht rfl), (cZ 2), (Ht rfl), trivial⟩)) ?_))))))
 refine bU (Ei := [(30, _)]) rfl rfl (aY (bX 2 rfl rfl) bQ) rfl rfl (dQ rfl (cQ (Ht rfl))) (bU (Ei := [(27, _)]) rfl rfl (aY (bX 3 rfl rfl) bQ) rfl rfl (dQ rfl (dG (Ht rfl) rfl)) (bU (Ei := [(27, _)]) rfl rfl (aY (bX 3 rfl rfl) bQ) rfl rfl (dQ rfl (dG (Ht rfl) rfl)) (Y.D_newp (Ei := []) (fun bb => box bb 30 [NumsT fwTZ, NumM fwTS]) 7 rfl rfl rfl bQ rfl rfl (by kernel_rfl) (new_alloc (Ts := [Is (.slice none 0 0), Is (.slice none 0 0)]) O_30 rfl (fun V => aW ⟨rfl, trivial⟩ (aW ⟨rfl, trivial⟩ (aG)))) ?_)))
 refine Y.D_putN (Ei := [(31, _)]) 6 rfl rfl rfl rfl rfl rfl (aY (bX 4 rfl rfl) bQ) (fun bb => P_stA Z_30 (Ht rfl) (Ht rfl) rfl (i := 0) rfl (Nat.le_of_ble_eq_true rfl) rfl rfl) (Y.D_done mixed rfl (by kernel_rfl) rfl (by simp [Y.okP]) rfl rfl (bK (bK (bK (bK (bK (bK (Y.F_newp (fun B4 => Y.F_putN (Y.F_nil ?_))))))))))
 refine ra rfl (R_nil (ts (ro rfl (op_ldBA A_30 Z_30 (Ht rfl) (i := 2) rfl rfl rfl) (ro rfl (cX Tryz.call65 (dY (c_At (z := fwTZ) (s := fwTS) (i := ((1 : Nat) : Int)) (j := ((1 : Nat) : Int)) fw_tsh (by rw [fw_tz]; decide)) fw_at) ⟨(Ht rfl), (cZ 1), (cZ 1), trivial⟩) ?_))))
 refine rm rfl (ro rfl (dG (Ht rfl) rfl) (ro rfl (dG (Ht rfl) rfl) (rn rfl (new_alloc (Ts := [Is (.bool false), Is (.slice none 0 0), Is (.bool false), Is (.slice none 0 0), Is (.slice none 0 0)]) O_45 rfl (fun V => aW ⟨rfl, trivial⟩ (aW ⟨rfl, trivial⟩ (aW ⟨rfl, trivial⟩ (aW ⟨rfl, trivial⟩ (aW ⟨rfl, trivial⟩ (aG))))))) fun B6 => (R_stA Z_45 (Ht rfl) (Ht rfl) rfl (i := 3) rfl (Nat.le_of_ble_eq_true rfl) rfl rfl (ra rfl (R_nil (ts (ro rfl (op_ldBA A_30 Z_30 (Ht rfl) (i := 1) rfl rfl rfl) ?_))))))))
 refine ro rfl (cX Tryz.call17 (c_ImpE (z := fwZ) (s := fwS) (L := 2) fw_shp fw_fs (by decide) (by decide) (by decide) (by decide +kernel) (by decide +kernel) fw_inv) ⟨(Ht rfl), trivial⟩) (rm rfl (ro rfl (dG (Ht rfl) rfl) (ro rfl (dG (Ht rfl) rfl) (ra rfl (ra rfl (R_nil (ts (rm rfl (ro rfl (op_eql (Ht rfl) cJ) (rm rfl (R_step rfl rfl (S_when rfl rfl (Ht rfl) (fun h => cQ (Ht rfl))) (R_step rfl rfl (S_when rfl rfl (Ht rfl) (fun h => op_eql (Has.w rfl h) cJ)) (ro rfl (op_and (Ht rfl) (fun h => (Has.w rfl h))) (rm rfl (R_step rfl rfl (S_when rfl rfl (Ht rfl) (fun h => cQ (Ht rfl))) ?_)))))))))))))))
 refine R_step rfl rfl (S_when rfl rfl (Ht rfl) (fun h => op_eql (Has.w rfl h) cJ)) (ro rfl (op_and (Ht rfl) (fun h => (Has.w rfl h))) (rm rfl (R_step rfl rfl (S_when rfl rfl (Ht rfl) (fun h => cQ (Ht rfl))) (R_step rfl rfl (S_when rfl rfl (Ht rfl) (fun h => op_eql (Has.w rfl h) cJ)) (ro rfl (op_and (Ht rfl) (fun h => (Has.w rfl h))) (rm rfl (R_step rfl rfl (S_when rfl rfl (Ht rfl) (fun h => op_ldBA A_30 Z_30 (Ht rfl) (i := 1) rfl rfl rfl)) (R_step rfl rfl (S_when rfl rfl (Ht rfl) (fun h => cX Tryz.call37 c_Ports ⟨(Has.w rfl h), trivial⟩)) (R_step rfl rfl (S_when rfl rfl (Ht rfl) (fun h => op_eqlN (Has.w rfl h) (cZ 2))) ?_)))))))))
 refine ro rfl (op_and (Ht rfl) (fun h => (Has.w rfl h))) (rm rfl (R_step rfl rfl (S_when rfl rfl (Ht rfl) (fun h => op_ldBA A_45 Z_45 (Ht rfl) (i := 3) rfl rfl rfl)) (R_step rfl rfl (S_when rfl rfl (Ht rfl) (fun h => cX Tryz.call87 (c_Text (x := Qi.ofInt 1) (L := 2) (hx := fw_f1) (by decide)) ⟨(Has.w rfl h), trivial⟩)) (R_step rfl rfl (S_when rfl rfl (Ht rfl) (fun h => op_eqS (Has.w rfl h) (Has.cS (l := [49]) rfl))) (ro rfl (op_and (Ht rfl) (fun h => (Has.w rfl h))) (ra rfl (R_nil (T_ret1 rfl (rv_to (rv_tmp rfl) ?_)))))))))
 exact (bool_of (by rw [fw_t]; rfl))
end
section
open Go Go.RowKit
set_option maxRecDepth 20000 in
theorem c_refList4 {l : List Rt} (hl : l.length ≤ 1000000) : Fun Tryz.prog 26 [RatsT l] (QsT (l.map Rt.q)) := by
 refine Fun.intro Tryz.func26 rfl Tryz.ntmps26 rfl (fun cx => (ts (ro rfl (bY cJ) (R_nil (ts (rm rfl (ro rfl (dW U_22 (Ht rfl) len_map) (rn rfl (new_makeO (T := ZQ) (i := Tryz.t98) und_31 info_98 rfl rfl (Ht rfl) rfl zq_p (El.ag rfl) (by show 88 * _ ≤ _; omega) (by omega)) fun B8 => (ra rfl (R_nil (cG (ts (rm rfl (ro rfl (dW U_22 (Ht rfl) len_map) (ro rfl (cQ (cZ 0)) (R_nil (T_block ?_)))))))))))))))))
 refine T_loop (fun (k : Nat) => k ≤ l.length) (fun (k : Nat) => l.length - k) (fun (k : Nat) => [(3, Is B8), (9, RatsT l), (10, NT .i64 l.length), (11, NT .i64 k)]) (fun (k : Nat) => [rowO 98 5 B8 (mixT (fun i => QT (l.getD i default).q) ZQ l.length k)]) 0 (Nat.zero_le _)
  (aQ rfl (aQ rfl (aQ rfl (aQ rfl aX)))) (aK (rowO_of (by rw [← mix_zero]; exact rep_tab _ _)) aU) (fun k hk => ?_)
 refine ts (ro rfl (op_lssN (Ht rfl) (Ht rfl)) (R_nil (cG (cY (Ht rfl) (fun hd => ?_) (fun hd => ?_)))))
 ·simp only [decide_eq_true_eq] at hd
  refine cK (cG (T_block (ts (rm rfl (ro rfl (dX U_22 Z_91 (Ht rfl) (Ht rfl) rfl (dU (dK (d := default) hd))) (ro rfl (dZ A_91 Z_91 (Ht rfl)) (rn rfl (new_alloc (Ts := [Is (.int .i64 0), Is (.int .i64 0), Is (.int .i64 0)]) O_91 rfl (fun V => aW ⟨rfl, trivial⟩ (aW ⟨rfl, trivial⟩ (aW ⟨rfl, trivial⟩ (aG))))) fun B5 => (ra rfl (R_stA Z_91 (Ht rfl) (Ht rfl) rfl (i := 1) rfl (Nat.le_of_ble_eq_true rfl) rfl rfl (R_nil (cU (rm rfl (rm rfl (ro rfl (op_ldBA A_91 Z_91 (Ht rfl) (i := 1) rfl rfl rfl) ?_))))))))))))))
  refine ro rfl (cX Tryz.call52 c_rOf ⟨(Ht rfl), trivial⟩) (ro rfl (op_idxO U_31 Z_98 (Ht rfl) (Ht rfl) rfl (i := 0) rfl (by rw [mix_len]; omega) rfl) ?_)
  refine R_stO Z_98 (Ht rfl) (Ht rfl) (El.ag rfl) (i := 0) rfl rfl (by rw [mix_len]; omega) rfl ?_
  refine R_nil (T_blk (cU (ro rfl (dJ (Ht rfl) (cZ 1) (by show _ < 9223372036854775808; first | omega | (simp only [lim]; omega))) (rm rfl (R_nil (T_keep [0] rfl (by decide) (T_again (k + 1) hd (by omega) (aQ rfl (aQ rfl (aQ rfl (aQ rfl aX)))) (aK (rowO_of (mix_set (f := fun i => QT (l.getD i default).q))) aU))))))))
 ·simp only [decide_eq_false_iff_not] at hd
  obtain rfl : k = l.length := Nat.le_antisymm hk (by omega)
  rw [mix_fin]
  refine T_exit rfl (T_freeze (i := 0) (tt := 3) rfl rfl frz_row (ts (rm rfl (ra rfl (R_nil (T_ret1 rfl (rv_to (rv_tmp rfl) ?_)))))))
  exact (slT_of (by rw [← tab_list l Rt.q, tab_map]))
set_option maxRecDepth 20000 in
theorem c_refRows4 {m : List (List Rt)} (hm : m.length ≤ 1000) (hr : ∀ r, r ∈ m → r.length ≤ 1000) : Fun Tryz.prog 27 [RatM m] (QM (rq m)) := by
 refine Fun.intro Tryz.func27 rfl Tryz.ntmps27 rfl (fun cx => (ts (ro rfl (bY cJ) (R_nil (ts (rm rfl (ro rfl (dW U_25 (Ht rfl) len_map) (rn rfl (new_makeO (T := QsT []) (i := Tryz.t31) und_32 info_31 rfl rfl (Ht rfl) rfl (fun V => nil_slT _ _ rfl) El.one (by show 24 * _ ≤ _; omega) (by omega)) fun B8 => (ra rfl (R_nil (cG (ts (rm rfl (ro rfl (dW U_25 (Ht rfl) len_map) (ro rfl (cQ (cZ 0)) (R_nil (T_block ?_)))))))))))))))))
 refine T_loop2 (fun (k : Nat) (out : List (List Qi)) => FillS (fun i => (m.getD i default).map Rt.q) m.length out k) (fun (k : Nat) (out : List (List Qi)) => m.length - k) (fun (k : Nat) (out : List (List Qi)) => [(3, Is B8), (9, RatM m), (10, NT .i64 m.length), (11, NT .i64 k)]) (fun (k : Nat) (out : List (List Qi)) => [rowO 31 1 B8 (out.map QsT)]) 0 (List.replicate m.length []) (FillS.start _ _ _)
  (aQ rfl (aQ rfl (aQ rfl (aQ rfl aX)))) (aK (rowO_of (rep_mapF QsT _ _)) aU) (fun k out hS => ?_)
 refine ts (ro rfl (op_lssN (Ht rfl) (Ht rfl)) (R_nil (cG (cY (Ht rfl) (fun hk => ?_) (fun hk => ?_)))))
 ·simp only [decide_eq_true_eq] at hk
  have hlen := hS.len
  have hrk : (m.getD k default).length ≤ 1000 := by
   have e : m.getD k default = m[k] := by simp [List.getD, hk]
   rw [e]; exact hr _ (List.getElem_mem hk)
  refine cK (cG (T_block (ts (rm rfl (ro rfl (dX U_25 Z_22 (Ht rfl) (Ht rfl) rfl (dU (dK (d := default) hk))) (ro rfl (dZ A_22 Z_22 (Ht rfl)) (ra rfl (ra rfl (R_nil (cU (rm rfl (rm rfl (rm rfl (ro rfl (cX Tryz.call26 (c_refList4 (by omega)) ⟨(Ht rfl), trivial⟩) (ro rfl (op_idxO U_32 Z_31 (Ht rfl) (Ht rfl) rfl (i := 0) rfl (by first | omega | (simp; omega)) rfl) (R_stO Z_31 (Ht rfl) (Ht rfl) El.one (i := 0) rfl rfl (by first | omega | (simp; omega)) rfl (R_nil (T_blk ?_))))))))))))))))))
  refine cU (ro rfl (dJ (Ht rfl) (cZ 1) (by show _ < 9223372036854775808; first | omega | (simp only [lim]; omega))) (rm rfl (R_nil (T_again (k + 1, _) (hS.next hk rfl) (by dsimp only; omega) (aQ rfl (aQ rfl (aQ rfl (aQ rfl aX)))) (aK (rowO_of (set_mapF QsT _ _ _)) aU)))))
 ·simp only [decide_eq_false_iff_not] at hk
  obtain rfl : k = m.length := Nat.le_antisymm hS.kle (by omega)
  have hfin := hS.fin
  rw [tab_list m (fun r => r.map Rt.q)] at hfin
  refine T_exit rfl (T_freeze (i := 0) (tt := 3) rfl rfl frz_row (ts (rm rfl (ra rfl (R_nil (T_ret1 rfl (rv_to (rv_tmp rfl) ?_)))))))
  exact (slT_of (by rw [hfin]))
set_option maxRecDepth 20000 in
theorem c_is4 {z : List Qi} {s : List (List Qi)} {L : Nat} (hz : FitL z L) (hs : FitM s L) (hL1 : 1 ≤ L) (hL : L ≤ 8796093022208) (hsh : Shp s z.length z.length) (hl : z.length ≤ 1000) : Fun Tryz.prog 90 [NetT z s, RNetT z s] (BoolT true) := by
 have hs1 := hsh.1
 refine Fun.intro Tryz.func90 rfl Tryz.ntmps90 rfl (fun cx => (ts (rn rfl (new_box (Ht rfl)) fun B2 => (rn rfl (new_box (Ht rfl)) fun B3 => (ro rfl (bY cJ) (R_nil (cG (cG (C.D_start (m := 5) (dp 2 rfl (op_ldBA A_30 Z_30 (Ht rfl) (i := 0) rfl rfl rfl) (dq 13 0 rfl (cX Tryz.call37 c_Ports ⟨(Ht rfl), trivial⟩) (dp 3 rfl (op_fldB fa_34_0 (Ht rfl) rfl) (dq 15 2 rfl (op_ldB A_31 Z_31 (Ht rfl) (i := 1) rfl rfl) (dq 16 3 rfl (dW U_31 (Ht rfl) len_map) (C.D_done mixed rfl (by kernel_rfl) (aJ (aJ (aJ (aJ (aJ (aV ?_)))))))))))))))))))))
 refine ro rfl (op_neqN (Ht rfl) (Ht rfl)) (R_nil (T_condF (Ht rfl) (by simp) ?_))
 refine cK (cG (ts (ro rfl (op_fldB fa_34_0 (Ht rfl) rfl) (ro rfl (op_ldB A_31 Z_31 (Ht rfl) (i := 1) rfl rfl) (ro rfl (dW U_31 (Ht rfl) len_map) (ro rfl (cQ (cZ 0)) (R_nil (T_block ?_))))))))
 refine T_loop (fun (i : Nat) => i ≤ z.length) (fun (i : Nat) => z.length - i) (fun (i : Nat) => [(2, PtrB B2 0), (3, PtrB B3 0), (20, QsT z), (21, NT .i64 z.length), (22, NT .i64 i)]) (fun (i : Nat) => [box B2 30 [NumsT z, NumM s], box B3 34 [QsT z, QM s]]) 0 (Nat.zero_le _)
  (aQ rfl (aQ rfl (aQ rfl (aQ rfl (aQ rfl aX))))) (HSub.refl _) (fun i hi => ?_)
 refine ts (ro rfl (op_lssN (Ht rfl) (Ht rfl)) (R_nil (cG (cY (Ht rfl) (fun hd => ?_) (fun hd => ?_)))))
 ·simp only [decide_eq_true_eq] at hd
  haveI f1 : FitC (gv z i) L := hz.get hL1 i
  have hsr := hsh.row hd
  refine cK (cG (T_block (ts (rm rfl (ro rfl (dX U_31 Z_98 (Ht rfl) (Ht rfl) rfl (dU (dK (d := Qi.zero) hd))) (ro rfl (dZ A_98 Z_98 (Ht rfl)) (rn rfl (new_alloc (Ts := [Is (.bool false), Is (.slice none 0 0), Is (.bool false), Is (.slice none 0 0), Is (.slice none 0 0)]) O_98 rfl (fun V => aW ⟨rfl, trivial⟩ (aW ⟨rfl, trivial⟩ (aW ⟨rfl, trivial⟩ (aW ⟨rfl, trivial⟩ (aW ⟨rfl, trivial⟩ (aG))))))) fun B6 => (ra rfl (R_stA Z_98 (Ht rfl) (Ht rfl) rfl (i := 2) rfl (Nat.le_of_ble_eq_true rfl) rfl rfl ?_)))))))))
  refine R_nil (ts (ro rfl (op_ldBA A_30 Z_30 (Ht rfl) (i := 0) rfl rfl rfl) (rm rfl (ro rfl (dJ (Ht rfl) (cZ 1) (by show _ < 9223372036854775808; first | omega | (simp only [lim]; omega))) (ro rfl (cX Tryz.call63 (dY (c_Ref (z := z) (s := s) (i := ((i + 1 : Nat) : Int)) (by omega)) (is_ref hd)) ⟨(Ht rfl), (Ht rfl), trivial⟩) (rm rfl (ro rfl (dG (Ht rfl) rfl) (ro rfl (dG (Ht rfl) rfl) (rn rfl (new_alloc (Ts := [Is (.bool false), Is (.slice none 0 0), Is (.bool false), Is (.slice none 0 0), Is (.slice none 0 0)]) O_45 rfl (fun V => aW ⟨rfl, trivial⟩ (aW ⟨rfl, trivial⟩ (aW ⟨rfl, trivial⟩ (aW ⟨rfl, trivial⟩ (aW ⟨rfl, trivial⟩ (aG))))))) fun B7 => ?_)))))))))
  refine R_stA Z_45 (Ht rfl) (Ht rfl) rfl (i := 3) rfl (Nat.le_of_ble_eq_true rfl) rfl rfl (ra rfl (R_nil (cG (ts (rm rfl (ro rfl (op_neq (Ht rfl) cJ) (rm rfl (R_step rfl rfl (S_when rfl rfl (Ht rfl) (fun h => op_ldBA A_45 Z_45 (Ht rfl) (i := 3) rfl rfl rfl)) (R_step rfl rfl (S_when rfl rfl (Ht rfl) (fun h => op_ldBA A_98 Z_98 (Ht rfl) (i := 2) rfl rfl rfl)) (R_step rfl rfl (S_when rfl rfl (Ht rfl) (fun h => cX Tryz.call139 (c_lawIs (x := gv z i) (y := gv z i) (L := L) (M := L) hL hL) ⟨(Has.w rfl h), (Has.w rfl h), trivial⟩)) (R_step rfl rfl (S_when rfl rfl (Ht rfl) (fun h => op_not (Has.w rfl h))) ?_)))))))))))
  refine ro rfl (op_or (Ht rfl) (fun h => (Has.w rfl h))) (R_nil (T_condF (Ht rfl) (by simp) ?_))
  refine cK (ts (ro rfl (op_fldB fa_34_1 (Ht rfl) rfl) (ro rfl (op_ldB Tryz.isAgg32 Z_32 (Ht rfl) (i := 1) rfl rfl) (rm rfl (ro rfl (dX U_32 Z_31 (Ht rfl) (Ht rfl) rfl (dU (dK (d := []) (by omega)))) (ro rfl (dZ A_31 Z_31 (Ht rfl)) (ro rfl (dW U_31 (Ht rfl) len_map) (ro rfl (cQ (cZ 0)) (R_nil (T_block (T_keep [0, 1] rfl (by decide) ?_)))))))))))
  refine T_loop (fun (j : Nat) => j ≤ z.length) (fun (j : Nat) => z.length - j) (fun (j : Nat) => [(2, PtrB B2 0), (3, PtrB B3 0), (5, NT .i64 i), (20, QsT z), (21, NT .i64 z.length), (22, NT .i64 i), (46, QsT (s.getD i [])), (47, NT .i64 z.length), (48, NT .i64 j)]) (fun (j : Nat) => [box B2 30 [NumsT z, NumM s], box B3 34 [QsT z, QM s]]) 0 (Nat.zero_le _)
   (aQ rfl (aQ rfl (aQ rfl (aQ rfl (aQ rfl (aQ rfl (aQ rfl (aZ rfl (nt_of hsr) (aQ rfl aX))))))))) (HSub.refl _) (fun j hj => ?_)
  refine ts (ro rfl (op_lssN (Ht rfl) (Ht rfl)) (R_nil (cG (cY (Ht rfl) (fun hf => ?_) (fun hf => ?_)))))
  ·simp only [decide_eq_true_eq] at hf
   haveI f2 : FitC (gm s i j) L := hs.get hL1 i j
   refine cK (cG (T_block (ts (rm rfl (ro rfl (dX U_31 Z_98 (Ht rfl) (Ht rfl) rfl (dU (dK (d := Qi.zero) (by omega)))) (ro rfl (dZ A_98 Z_98 (Ht rfl)) (rn rfl (new_alloc (Ts := [Is (.bool false), Is (.slice none 0 0), Is (.bool false), Is (.slice none 0 0), Is (.slice none 0 0)]) O_98 rfl (fun V => aW ⟨rfl, trivial⟩ (aW ⟨rfl, trivial⟩ (aW ⟨rfl, trivial⟩ (aW ⟨rfl, trivial⟩ (aW ⟨rfl, trivial⟩ (aG))))))) fun B10 => (ra rfl (R_stA Z_98 (Ht rfl) (Ht rfl) rfl (i := 2) rfl (Nat.le_of_ble_eq_true rfl) rfl rfl ?_)))))))))
   refine R_nil (ts (ro rfl (op_ldBA A_30 Z_30 (Ht rfl) (i := 0) rfl rfl rfl) (rm rfl (ro rfl (dJ (Ht rfl) (cZ 1) (by show _ < 9223372036854775808; first | omega | (simp only [lim]; omega))) (rm rfl (ro rfl (dJ (Ht rfl) (cZ 1) (by show _ < 9223372036854775808; first | omega | (simp only [lim]; omega))) (ro rfl (cX Tryz.call65 (dY (c_At (z := z) (s := s) (i := ((i + 1 : Nat) : Int)) (j := ((j + 1 : Nat) : Int)) hsh (by omega)) (is_at hd hf)) ⟨(Ht rfl), (Ht rfl), (Ht rfl), trivial⟩) (rm rfl (ro rfl (dG (Ht rfl) rfl) (ro rfl (dG (Ht rfl) rfl) ?_))))))))))
   refine rn rfl (new_alloc (Ts := [Is (.bool false), Is (.slice none 0 0), Is (.bool false), Is (.slice none 0 0), Is (.slice none 0 0)]) O_45 rfl (fun V => aW ⟨rfl, trivial⟩ (aW ⟨rfl, trivial⟩ (aW ⟨rfl, trivial⟩ (aW ⟨rfl, trivial⟩ (aW ⟨rfl, trivial⟩ (aG))))))) fun B11 => R_stA Z_45 (Ht rfl) (Ht rfl) rfl (i := 3) rfl (Nat.le_of_ble_eq_true rfl) rfl rfl (ra rfl (R_nil (ts (rm rfl (ro rfl (op_neq (Ht rfl) cJ) (rm rfl (R_step rfl rfl (S_when rfl rfl (Ht rfl) (fun h => op_ldBA A_45 Z_45 (Ht rfl) (i := 3) rfl rfl rfl)) ?_)))))))
   refine R_step rfl rfl (S_when rfl rfl (Ht rfl) (fun h => op_ldBA A_98 Z_98 (Ht rfl) (i := 2) rfl rfl rfl)) (R_step rfl rfl (S_when rfl rfl (Ht rfl) (fun h => cX Tryz.call139 (c_lawIs (x := gm s i j) (y := gm s i j) (L := L) (M := L) hL hL) ⟨(Has.w rfl h), (Has.w rfl h), trivial⟩)) (R_step rfl rfl (S_when rfl rfl (Ht rfl) (fun h => op_not (Has.w rfl h))) (ro rfl (op_or (Ht rfl) (fun h => (Has.w rfl h))) (R_nil (T_condF (Ht rfl) (by simp) ?_)))))
   refine cK (T_blk (cU (ro rfl (dJ (Ht rfl) (cZ 1) (by show _ < 9223372036854775808; first | omega | (simp only [lim]; omega))) (rm rfl (R_nil (T_keep [0, 1] rfl (by decide) (T_again (j + 1) hf (by omega) (aQ rfl (aQ rfl (aQ rfl (aQ rfl (aQ rfl (aQ rfl (aQ rfl (aQ rfl (aQ rfl aX))))))))) (HSub.refl _))))))))
  ·refine T_exit rfl (T_blk (cU (ro rfl (dJ (Ht rfl) (cZ 1) (by show _ < 9223372036854775808; first | omega | (simp only [lim]; omega))) (rm rfl (R_nil (T_keep [0, 1] rfl (by decide) (T_again (i + 1) hd (by omega) (aQ rfl (aQ rfl (aQ rfl (aQ rfl (aQ rfl aX))))) (HSub.refl _))))))))
 ·refine T_exit rfl (ts (ro rfl (bY cJ) (R_nil ?_)))
  exact T_ret1 rfl (rv_tmp rfl)
set_option maxRecDepth 20000 in
theorem c_ans4 {z : List Qi} {s : List (List Qi)} {e : Int} {L : Nat} (hz : FitL z L) (hs : FitM s L) (hL1 : 1 ≤ L) (hL : L ≤ 8796093022208) (hsh : Shp s z.length z.length) (hl : z.length ≤ 1000) : Fun Tryz.prog 30 [NetT z s, IntT .i64 e, RNetT z s, IntT .i64 e] (BoolT true) := by
 refine Fun.intro Tryz.func30 rfl Tryz.ntmps30 rfl (fun cx => (ts (rn rfl (new_box (Ht rfl)) fun B4 => (rn rfl (new_box (Ht rfl)) fun B6 => (ro rfl (bY cJ) (R_nil (ts (rm rfl (rm rfl (ro rfl (op_eql (Ht rfl) (Ht rfl)) (rm rfl (R_step rfl rfl (S_when rfl rfl (Ht rfl) (fun h => op_ldBA A_30 Z_30 (Ht rfl) (i := 0) rfl rfl rfl)) (R_step rfl rfl (S_when rfl rfl (Ht rfl) (fun h => op_ldBA A_34 Z_34 (Ht rfl) (i := 1) rfl rfl rfl)) (R_step rfl rfl (S_when rfl rfl (Ht rfl) (fun h => cX Tryz.call90 (c_is4 hz hs hL1 hL hsh hl) ⟨(Has.w rfl h), (Has.w rfl h), trivial⟩)) ?_))))))))))))))
 refine ro rfl (op_and (Ht rfl) (fun h => (Has.w rfl h))) (ra rfl (R_nil (T_ret1 rfl (rv_to (rv_tmp rfl) ?_))))
 exact (bool_of (by simp))
end
section
open Go Go.RowKit
theorem tm_bound (x : Int) {b : Int} (h : 0 < b) : -b < x.tmod b ∧ x.tmod b < b := by
  by_cases hx : 0 ≤ x
  · rw [Int.tmod_eq_emod_of_nonneg hx]
    have h1 := Int.emod_nonneg x (by omega : b ≠ 0)
    have h2 := Int.emod_lt_of_pos x h
    omega
  · have e : x.tmod b = -((-x).tmod b) := by rw [Int.neg_tmod, Int.neg_neg]
    rw [e, Int.tmod_eq_emod_of_nonneg (by omega : 0 ≤ -x)]
    have h1 := Int.emod_nonneg (-x) (by omega : b ≠ 0)
    have h2 := Int.emod_lt_of_pos (-x) h
    omega
def absI (x : Int) : Int := if x < 0 then -x else x
theorem absI_b {x : Int} {b : Int} (h : -b < x ∧ x < b) : 0 ≤ absI x ∧ absI x < b := by unfold absI; split <;> omega
def smR (r : Rt) : Rt where
  re := r.re.tmod 9
  im := r.im.tmod 9
  den := absI (r.den.tmod 4) + 1
  h1 := by have := tm_bound r.re (b := 9) (by decide); omega
  h2 := by have := tm_bound r.re (b := 9) (by decide); omega
  h3 := by have := tm_bound r.im (b := 9) (by decide); omega
  h4 := by have := tm_bound r.im (b := 9) (by decide); omega
  h5 := by have := absI_b (tm_bound r.den (b := 4) (by decide)); omega
  h6 := by have := absI_b (tm_bound r.den (b := 4) (by decide)); omega
def imR (r : Rt) : Rt where
  re := absI (smR r).re + 1
  im := 0
  den := (smR r).den
  h1 := by have := absI_b (tm_bound r.re (b := 9) (by decide)); show _ ≤ absI (r.re.tmod 9) + 1; omega
  h2 := by have := absI_b (tm_bound r.re (b := 9) (by decide)); show absI (r.re.tmod 9) + 1 ≤ _; omega
  h3 := by decide
  h4 := by decide
  h5 := (smR r).h5
  h6 := (smR r).h6
def pkR (l : List Rt) (i : Nat) : Rt := if l.length = 0 then default else l.getD (i % l.length) default
def plN (a : Nat) : Nat := a % 4 + 1
def plZ (a : Nat) (zl : List Rt) : List Rt := tab (plN a) fun i => imR (pkR zl i)
def plS (a : Nat) (sl : List Rt) : List (List Rt) := tab (plN a) fun i => tab (plN a) fun j => smR (pkR sl (plN a * i + j))
theorem imR_pos (r : Rt) : posQ (imR r).q = true := by
  have h1 := absI_b (tm_bound r.re (b := 9) (by decide))
  have h2 := absI_b (tm_bound r.den (b := 4) (by decide))
  have hd : (imR r).d = absI (r.den.tmod 4) + 1 := by
    show (if absI (r.den.tmod 4) + 1 = 0 then 1 else absI (r.den.tmod 4) + 1) = _
    rw [if_neg (by omega)]
  have hq : (imR r).q = Qi.frac (absI (r.re.tmod 9) + 1) 0 (absI (r.den.tmod 4) + 1) := by rw [Rt.q, hd]; rfl
  have hb : (imR r).q.b = 0 := Qi.b_zero.2 (by rw [hq]; show ((0 : Int) : Rat) / _ = 0; rw [Rat.div_def]; exact Rat.zero_mul _)
  have ha : 0 < (imR r).q.a := by
    rw [Qi.a_pos, hq]
    show (0 : Rat) < ((absI (r.re.tmod 9) + 1 : Int) : Rat) / ((absI (r.den.tmod 4) + 1 : Int) : Rat)
    rw [Rat.div_def]
    refine Rat.mul_pos (Rat.intCast_pos.2 (by omega)) (Rat.inv_pos.2 (Rat.intCast_pos.2 (by omega)))
  simp only [posQ, hb, ha, and_self, decide_true]
theorem pl_err (a : Nat) (zl sl : List Rt) : netErr ((plZ a zl).map Rt.q) (rq (plS a sl)) = 0 := by
  have hz : ((plZ a zl).map Rt.q).length = plN a := by rw [List.length_map, plZ, tab_len]
  have hs : (rq (plS a sl)).length = plN a := by rw [List.length_map, plS, tab_len]
  have hn : plN a ≤ 4 := by unfold plN; omega
  have hn1 : 1 ≤ plN a := by unfold plN; omega
  rw [netErr, if_neg, if_pos]
  · rw [List.all_eq_true]
    intro x hx
    obtain ⟨r, hr, rfl⟩ := List.mem_map.1 hx
    obtain ⟨i, _, rfl⟩ := tab_mem.1 hr
    exact imR_pos _
  · rw [hz, hs]
    rintro (h | h | h | h)
    · omega
    · omega
    · exact h rfl
    · obtain ⟨r, hr, h2⟩ := List.any_eq_true.1 h
      obtain ⟨y, hy, rfl⟩ := List.mem_map.1 hr
      obtain ⟨i, _, rfl⟩ := tab_mem.1 hy
      simp [tab_len] at h2
end
section
open Go Go.RowKit
theorem bld_91_0_1_2 {n : Nat} {E : Env} {H : Hp} {d : Option Tmp} {t : TypeId} {pos : String} {af : Array Edge} {g : Option (Nat × Bool)} {x0 x1 x2 : Operand} {T0 T1 T2 : Ty} [s0 : Shape T0 1 false] (h0 : Has E x0 T0) [s1 : Shape T1 1 false] (h1 : Has E x1 T1) [s2 : Shape T2 1 false] (h2 : Has E x2 T2) :
    OpTy Tryz.prog n E H ⟨d, .build 91 #[(0, x0), (1, x1), (2, x2)], t, pos, af, g⟩ (AggT [T0, T1, T2]) :=
  op_build (parts := [(0, x0), (1, x1), (2, x2)]) fun a V w hs => by
    have p0 := h0 n V a hs
    generalize e0 : a.eval x0 = v0 at p0
    have q0 := (s0.ok v0 V p0).2.2 rfl
    have p1 := h1 n V a hs
    generalize e1 : a.eval x1 = v1 at p1
    have q1 := (s1.ok v1 V p1).2.2 rfl
    have p2 := h2 n V a hs
    generalize e2 : a.eval x2 = v2 at p2
    have q2 := (s2.ok v2 V p2).2.2 rfl
    refine ⟨.agg #[v0, v1, v2], ?_, [v0, v1, v2], rfl, aW (⟨p0, q0⟩) (aW (⟨p1, q1⟩) (aW (⟨p2, q2⟩) (aG)))⟩
    simp [e0, e1, e2, Instr.build, Instr.fill, Sem.run_bind, Result.andThen, cells_agg, q0.cells, q1.cells, q2.cells, O_91, U_91, Z_2]
end
section
open Go Go.RowKit
set_option maxRecDepth 20000 in
theorem c_small {r : Rt} : Fun Tryz.prog 161 [RatT r] (RatT (smR r)) := by
 have b1 := tm_bound r.den (b := 4) (by decide)
 refine Fun.intro Tryz.func161 rfl Tryz.ntmps161 rfl (fun cx => (ts (rn rfl (new_box (Ht rfl)) fun B1 => (rn rfl (new_alloc (Ts := [Is (.int .i64 0), Is (.int .i64 0), Is (.int .i64 0)]) O_91 rfl (fun V => aW ⟨rfl, trivial⟩ (aW ⟨rfl, trivial⟩ (aW ⟨rfl, trivial⟩ (aG))))) fun B2 => (R_nil (ts (ro rfl (op_fldB fa_91_2 (Ht rfl) rfl) (ro rfl (op_ldB A_2 Z_2 (Ht rfl) (i := 0) rfl rfl) (ro rfl (op_rem (Ht rfl) cJ (by decide) rfl) (ra rfl (R_nil (cG (T_join (fun (d : Int) => d = absI (r.den.tmod 4)) (fun (d : Int) => [(1, PtrB B1 0), (2, PtrB B2 0), (3, IntT .i64 d)]) (fun (d : Int) => [box B1 91 [IntT .i64 r.re, IntT .i64 r.im, IntT .i64 r.den], box B2 91 [Is (.int .i64 0), Is (.int .i64 0), Is (.int .i64 0)]]) ?_ (fun d hd => ?_))))))))))))))
 ·refine ts (rm rfl (ro rfl (op_lss (Ht rfl) cJ) (R_nil (cY (Ht rfl) (fun hb => ?_) (fun hb => ?_)))))
  ·have hb2 : r.den.tmod 4 < 0 := of_decide_eq_true hb
   refine cU (rm rfl (ro rfl (op_neg (Ht rfl) (w64 (by omega))) (ra rfl (R_nil (T_joined (-(r.den.tmod 4)) (by rw [absI, if_pos hb2]) (aQ rfl (aQ rfl (aQ rfl aX))) (HSub.refl _))))))
  ·have hb2 : ¬ r.den.tmod 4 < 0 := of_decide_eq_false hb
   refine cK (T_joined (r.den.tmod 4) (by rw [absI, if_neg hb2]) (aQ rfl (aQ rfl (aQ rfl aX))) (HSub.refl _))
 ·have b2 := absI_b b1
  rw [← hd] at b2
  refine ts (ro rfl (op_fldB fa_91_0 (Ht rfl) rfl) (ro rfl (op_ldB A_2 Z_2 (Ht rfl) (i := 0) rfl rfl) (ro rfl (op_rem (Ht rfl) cJ (by decide) rfl) (ro rfl (op_fldB fa_91_1 (Ht rfl) rfl) (ro rfl (op_ldB A_2 Z_2 (Ht rfl) (i := 0) rfl rfl) (ro rfl (op_rem (Ht rfl) cJ (by decide) rfl) (rm rfl (ro rfl (op_add (Ht rfl) cJ (w64 (by omega))) (ro rfl (bld_91_0_1_2 (Ht rfl) (Ht rfl) (Ht rfl)) (R_stA Z_91 (Ht rfl) (Ht rfl) rfl (i := 1) rfl (Nat.le_of_ble_eq_true rfl) rfl rfl (R_nil (T_ret1 rfl (rv_to (rv_cell A_91 Z_91 rfl (i := 1) rfl rfl) ?_)))))))))))))
  exact (fun v V h => by rw [hd] at h; exact h)
set_option maxRecDepth 20000 in
theorem c_imped {r : Rt} : Fun Tryz.prog 74 [RatT r] (RatT (imR r)) := by
 have b1 : -9 < (smR r).re ∧ (smR r).re < 9 := tm_bound r.re (b := 9) (by decide)
 refine Fun.intro Tryz.func74 rfl Tryz.ntmps74 rfl (fun cx => (ts (rn rfl (new_box (Ht rfl)) fun B1 => (rn rfl (new_alloc (Ts := [Is (.int .i64 0), Is (.int .i64 0), Is (.int .i64 0)]) O_91 rfl (fun V => aW ⟨rfl, trivial⟩ (aW ⟨rfl, trivial⟩ (aW ⟨rfl, trivial⟩ (aG))))) fun B2 => (R_nil (ts (ro rfl (op_ldBA A_91 Z_91 (Ht rfl) (i := 0) rfl rfl rfl) (ro rfl (cX Tryz.call161 c_small ⟨(Ht rfl), trivial⟩) (rn rfl (new_alloc (Ts := [Is (.int .i64 0), Is (.int .i64 0), Is (.int .i64 0)]) O_91 rfl (fun V => aW ⟨rfl, trivial⟩ (aW ⟨rfl, trivial⟩ (aW ⟨rfl, trivial⟩ (aG))))) fun B3 => ?_)))))))))
 refine R_stA Z_91 (Ht rfl) (Ht rfl) rfl (i := 2) rfl (Nat.le_of_ble_eq_true rfl) rfl rfl (R_nil (cG (T_join (fun (x : Int) => x = absI (smR r).re) (fun (x : Int) => [(1, PtrB B1 0), (2, PtrB B2 0), (3, PtrB B3 0)]) (fun (x : Int) => [box B1 91 [IntT .i64 r.re, IntT .i64 r.im, IntT .i64 r.den], box B2 91 [Is (.int .i64 0), Is (.int .i64 0), Is (.int .i64 0)], box B3 91 [IntT .i64 x, IntT .i64 (smR r).im, IntT .i64 (smR r).den]]) ?_ (fun x hx => ?_))))
 ·refine ts (ro rfl (op_fldB fa_91_0 (Ht rfl) rfl) (ro rfl (op_ldB A_2 Z_2 (Ht rfl) (i := 2) rfl rfl) (ro rfl (op_lss (Ht rfl) cJ) (R_nil (cY (Ht rfl) (fun hb => ?_) (fun hb => ?_))))))
  ·have hb2 : (smR r).re < 0 := of_decide_eq_true hb
   refine cU (ro rfl (op_fldB fa_91_0 (Ht rfl) rfl) (ro rfl (op_ldB A_2 Z_2 (Ht rfl) (i := 2) rfl rfl) (ro rfl (op_neg (Ht rfl) (w64 (by omega))) (ro rfl (op_fldB fa_91_0 (Ht rfl) rfl) (R_st Z_2 (Ht rfl) (Ht rfl) (i := 2) rfl (Nat.le_of_ble_eq_true rfl) rfl (R_nil (T_joined (-((smR r).re)) (by rw [absI, if_pos hb2]) (aQ rfl (aQ rfl (aQ rfl aX))) (HSub.refl _))))))))
  ·have hb2 : ¬ (smR r).re < 0 := of_decide_eq_false hb
   refine cK (T_joined ((smR r).re) (by rw [absI, if_neg hb2]) (aQ rfl (aQ rfl (aQ rfl aX))) (HSub.refl _))
 ·have b2 := absI_b b1
  rw [← hx] at b2
  refine ts (ro rfl (op_fldB fa_91_0 (Ht rfl) rfl) (ro rfl (op_ldB A_2 Z_2 (Ht rfl) (i := 2) rfl rfl) (ro rfl (op_add (Ht rfl) cJ (w64 (by omega))) (ro rfl (op_fldB fa_91_2 (Ht rfl) rfl) (ro rfl (op_ldB A_2 Z_2 (Ht rfl) (i := 2) rfl rfl) (ro rfl (bld_91_0_2 (Ht rfl) (Ht rfl)) (R_stA Z_91 (Ht rfl) (Ht rfl) rfl (i := 1) rfl (Nat.le_of_ble_eq_true rfl) rfl rfl (R_nil (T_ret1 rfl (rv_to (rv_cell A_91 Z_91 rfl (i := 1) rfl rfl) ?_))))))))))
  exact (fun v V h => by rw [hx] at h; exact h)
set_option maxRecDepth 20000 in
theorem c_pick {l : List Rt} {i : Nat} : Fun Tryz.prog 75 [RatsT l, NT .i64 i] (RatT (pkR l i)) := by
 refine Fun.intro Tryz.func75 rfl Tryz.ntmps75 rfl (fun cx => (ts (rn rfl (new_alloc (Ts := [Is (.int .i64 0), Is (.int .i64 0), Is (.int .i64 0)]) O_91 rfl (fun V => aW ⟨rfl, trivial⟩ (aW ⟨rfl, trivial⟩ (aW ⟨rfl, trivial⟩ (aG))))) fun B4 => (R_nil (cG (ts (rm rfl (ro rfl (dW U_22 (Ht rfl) len_map) (ro rfl (op_eqlN (Ht rfl) (cZ 0)) (R_nil (cY (Ht rfl) (fun hb => ?_) (fun hb => ?_))))))))))))
 ·have hb2 : l.length = 0 := by simpa only [decide_eq_true_eq] using hb
  refine ts (ro rfl (bld_91_ ) (R_stA Z_91 (Ht rfl) (Ht rfl) rfl (i := 0) rfl (Nat.le_of_ble_eq_true rfl) rfl rfl (R_nil (T_ret1 rfl (rv_to (rv_cell A_91 Z_91 rfl (i := 0) rfl rfl) ?_)))))
  exact (fun v V h => by rw [pkR, if_pos hb2]; exact h)
 ·have hb2 : ¬ l.length = 0 := by simpa only [decide_eq_false_iff_not] using hb
  have hm := Nat.mod_lt i (Nat.pos_of_ne_zero hb2)
  refine cK (ts (rm rfl (rm rfl (rm rfl (ro rfl (dW U_22 (Ht rfl) len_map) (ro rfl (op_remN (Ht rfl) (Ht rfl) (by omega)) (ro rfl (dX U_22 Z_91 (Ht rfl) (Ht rfl) rfl (dU (dK (d := default) hm))) (ro rfl (dZ A_91 Z_91 (Ht rfl)) (R_stA Z_91 (Ht rfl) (Ht rfl) rfl (i := 0) rfl (Nat.le_of_ble_eq_true rfl) rfl rfl (R_nil (T_ret1 rfl (rv_to (rv_cell A_91 Z_91 rfl (i := 0) rfl rfl) ?_))))))))))))
  exact (fun v V h => by rw [pkR, if_neg hb2]; exact h)
end
section
open Go Go.RowKit
namespace Qi
def npow' (x : Qi) : Nat → Qi
  | 0 => Qi.ofInt 1
  | k + 1 => npow' x k * x
theorem one_mul2 (x : Qi) : Qi.ofInt 1 * x = x := ext' (by show ((1 : Int) : Rat) * x.re - 0 * x.im = x.re; grind) (by show ((1 : Int) : Rat) * x.im + 0 * x.re = x.im; grind)
theorem mul_one2 (x : Qi) : x * Qi.ofInt 1 = x := by rw [mul_comm', one_mul2]
end Qi
instance qiField : Lean.Grind.CommRing Qi where
  natCast := ⟨fun n => Qi.ofInt n⟩
  ofNat n := ⟨Qi.ofInt n⟩
  nsmul := ⟨fun n x => Qi.ofInt n * x⟩
  npow := ⟨Qi.npow'⟩
  add_zero := Qi.add_zero'
  add_comm := Qi.add_comm'
  add_assoc := Qi.add_assoc'
  mul_assoc := Qi.mul_assoc'
  mul_comm := Qi.mul_comm'
  mul_one := Qi.mul_one2
  one_mul := Qi.one_mul2
  left_distrib := Qi.mul_add'
  right_distrib := Qi.add_mul'
  zero_mul := Qi.zero_mul'
  mul_zero := Qi.mul_zero'
  pow_zero _ := rfl
  pow_succ _ _ := rfl
  ofNat_succ n := Qi.ext' (by show (((n + 1 : Nat) : Int) : Rat) = ((n : Int) : Rat) + ((1 : Int) : Rat); rw [Int.natCast_add, Rat.intCast_add]; rfl) (by show (0 : Rat) = 0 + 0; grind)
  intCast := ⟨Qi.ofInt⟩
  zsmul := ⟨fun n x => Qi.ofInt n * x⟩
  neg_add_cancel x := Qi.ext' (by show -x.re + x.re = ((0 : Int) : Rat); grind) (by show -x.im + x.im = 0; grind)
  sub_eq_add_neg := Qi.sub_def
  neg_zsmul i x := Qi.ext' (by show ((-i : Int) : Rat) * x.re - 0 * x.im = -((i : Rat) * x.re - 0 * x.im); rw [Rat.intCast_neg]; grind) (by show ((-i : Int) : Rat) * x.im + 0 * x.re = -((i : Rat) * x.im + 0 * x.re); rw [Rat.intCast_neg]; grind)
  intCast_neg i := Qi.ext' (Rat.intCast_neg i) (by show (0 : Rat) = -0; grind)
theorem q0 : Qi.zero = 0 := rfl
theorem q1 : Qi.ofInt 1 = 1 := rfl
theorem mul_inv2 {x : Qi} (h : x ≠ 0) : x * Qi.inv x = 1 := by
  have hn : x.nrm ≠ 0 := fun e => h (Qi.nrm_zero.1 e)
  have e : x.re * x.re + x.im * x.im = x.nrm := rfl
  refine Qi.ext' ?_ ?_
  · show x.re * (x.re / x.nrm) - x.im * (-x.im / x.nrm) = ((1 : Int) : Rat)
    grind
  · show x.re * (-x.im / x.nrm) + x.im * (x.re / x.nrm) = 0
    grind
theorem div_eq {x y : Qi} (h : y ≠ 0) : x / y * y = x := by
  rw [Qi.div_def]
  have := mul_inv2 h
  grind
end
section
open Go Go.RowKit
theorem sumN_sub (m : Nat) (f : Qi) (a b : Nat → Qi) : sumN m (fun k => a k - f * b k) = sumN m a - f * sumN m b := by
  induction m with
  | zero => simp only [sumN, q0]; grind
  | succ m ih => simp only [sumN, ih]; grind
theorem sumN_single {m i : Nat} (hi : i < m) {f : Nat → Qi} (h : ∀ k, k < m → k ≠ i → f k = 0) : sumN m f = f i := by
  induction m with
  | zero => omega
  | succ m ih =>
    by_cases e : i = m
    · subst e
      have : sumN i f = 0 := by
        rw [← q0, ← sumN_zero i]
        exact sumN_congr fun k hk => h k (by omega) (by omega)
      simp only [sumN, this]; grind
    · have h1 := ih (by omega) (fun k hk => h k (by omega))
      have h2 := h m (by omega) (by omega)
      simp only [sumN, h1, h2]; grind
def Ker (M : List (List Qi)) (n m : Nat) (x : Nat → Qi) : Prop := ∀ i, i < n → sumN m (fun k => gm M i k * x k) = 0
def redJR (rr rc : List Qi) (c k : Nat) : List Qi := tab rr.length fun j => if c ≤ j ∧ j < k then gv rr j - gv rr c / gv rc c * gv rc j else gv rr j
def redJ (M : List (List Qi)) (c r : Nat) : List (List Qi) := tab M.length fun i => if i ≠ c ∧ i < r then redJR (rw' M i) (rw' M c) c (rw' M i).length else rw' M i
theorem redJ_len (M : List (List Qi)) (c r : Nat) : (redJ M c r).length = M.length := tab_len _ _
theorem redJR_len (rr rc : List Qi) (c k : Nat) : (redJR rr rc c k).length = rr.length := tab_len _ _
theorem redJ_row {M : List (List Qi)} {c r i : Nat} (hi : i < M.length) : rw' (redJ M c r) i = if i ≠ c ∧ i < r then redJR (rw' M i) (rw' M c) c (rw' M i).length else rw' M i := by
  simp only [rw', redJ, List.getD]; rw [tab_get hi]; rfl
theorem redJ_shp {M : List (List Qi)} {n m c r : Nat} (h : Shp M n m) : Shp (redJ M c r) n m := by
  refine ⟨(redJ_len _ _ _).trans h.1, fun x hx => ?_⟩
  obtain ⟨i, hi, rfl⟩ := tab_mem.1 hx
  have hr := h.row (i := i) (by rw [← h.1]; exact hi)
  show (if i ≠ c ∧ i < r then redJR (rw' M i) (rw' M c) c (rw' M i).length else rw' M i).length = m
  split
  · rw [redJR_len]; exact hr
  · exact hr
theorem redJ_gm {M : List (List Qi)} {n m c i j : Nat} (h : Shp M n m) (hi : i < n) (hj : j < m) : gm (redJ M c n) i j = if i ≠ c ∧ c ≤ j then gm M i j - gm M i c / gm M c c * gm M c j else gm M i j := by
  have hr : (rw' M i).length = m := h.row hi
  show gv (rw' (redJ M c n) i) j = _
  rw [redJ_row (by rw [h.1]; exact hi)]
  by_cases e : i = c
  · rw [if_neg (fun k => k.1 e), if_neg (fun k => k.1 e)]
  · rw [if_pos ⟨e, hi⟩, redJR, gv_tab (by omega)]
    by_cases e2 : c ≤ j
    · rw [if_pos ⟨e2, by omega⟩, if_pos ⟨e, e2⟩]
    · rw [if_neg (fun k => e2 k.1), if_neg (fun k => e2 k.2)]
theorem swp_rw {M : List (List Qi)} {p c i : Nat} (hp : p < M.length) (hc : c < M.length) : rw' (swp [] M p c) i = rw' M (if i = c then p else if i = p then c else i) := by
  simp only [rw', swp, List.getD]
  by_cases e : i = c
  · subst e; rw [List.getElem?_set_self (by simpa using hc), if_pos rfl]; rfl
  · rw [List.getElem?_set_ne (Ne.symm e), if_neg e]
    by_cases e2 : i = p
    · subst e2; rw [List.getElem?_set_self hp, if_pos rfl]; rfl
    · rw [List.getElem?_set_ne (Ne.symm e2), if_neg e2]
theorem ker_swp {M : List (List Qi)} {n m p c : Nat} {x : Nat → Qi} (hl : M.length = n) (hp : p < n) (hc : c < n) : Ker (swp [] M p c) n m x ↔ Ker M n m x := by
  have key : ∀ i, gm (swp [] M p c) i = gm M (if i = c then p else if i = p then c else i) := fun i => by
    funext j; exact congrArg (fun r => gv r j) (swp_rw (by omega) (by omega))
  constructor
  · intro h i hi
    have h1 := h (if i = c then p else if i = p then c else i) (by split <;> (try split) <;> omega)
    rw [key] at h1
    have e : (if (if i = c then p else if i = p then c else i) = c then p else if (if i = c then p else if i = p then c else i) = p then c else (if i = c then p else if i = p then c else i)) = i := by
      by_cases e1 : i = c
      · subst e1; rw [if_pos rfl]
        by_cases e2 : p = i
        · rw [if_pos e2]; exact e2
        · rw [if_neg e2, if_pos rfl]
      · rw [if_neg e1]
        by_cases e2 : i = p
        · subst e2; rw [if_pos rfl, if_pos rfl]
        · rw [if_neg e2, if_neg e1, if_neg e2]
    rw [e] at h1; exact h1
  · intro h i hi
    rw [key]; exact h _ (by split <;> (try split) <;> omega)
theorem ker_red {M : List (List Qi)} {n m c : Nat} {x : Nat → Qi} (hs : Shp M n m) (hc : c < n) (hz : ∀ j, j < c → gm M c j = 0) : Ker (redJ M c n) n m x ↔ Ker M n m x := by
  have key : ∀ i, i < n → i ≠ c → sumN m (fun k => gm (redJ M c n) i k * x k) = sumN m (fun k => gm M i k * x k) - gm M i c / gm M c c * sumN m (fun k => gm M c k * x k) := fun i hi e => by
    rw [← sumN_sub]
    refine sumN_congr fun k hk => ?_
    rw [redJ_gm hs hi hk]
    by_cases e2 : c ≤ k
    · rw [if_pos ⟨e, e2⟩]; grind
    · rw [if_neg (fun h => e2 h.2), hz k (by omega)]; grind
  have keyc : sumN m (fun k => gm (redJ M c n) c k * x k) = sumN m (fun k => gm M c k * x k) := sumN_congr fun k hk => by rw [redJ_gm hs hc hk, if_neg (fun h => h.1 rfl)]
  constructor
  · intro h i hi
    have h0 := h c hc
    rw [keyc] at h0
    by_cases e : i = c
    · rw [e]; exact h0
    · have h1 := h i hi
      rw [key i hi e, h0] at h1
      grind
  · intro h i hi
    have h0 := h c hc
    by_cases e : i = c
    · rw [e, keyc]; exact h0
    · rw [key i hi e, h0, h i hi]; grind
structure GJ (M A : List (List Qi)) (n m c : Nat) : Prop where
  sh : Shp A n m
  ker : ∀ x, Ker A n m x ↔ Ker M n m x
  off : ∀ j, j < c → ∀ i, i < n → i ≠ j → gm A i j = 0
  dg : ∀ j, j < c → gm A j j ≠ 0
theorem GJ.next {M A : List (List Qi)} {n m c p : Nat} (h : GJ M A n m c) (hc : c < n) (hnm : n ≤ m) (hcp : c ≤ p) (hp : p < n) (hz : gm A p c ≠ 0) : GJ M (redJ (swp [] A p c) c n) n m (c + 1) := by
  have hs : Shp (swp [] A p c) n m := swp_shp h.sh hp hc
  have hl := h.sh.1
  have key : ∀ i, gm (swp [] A p c) i = gm A (if i = c then p else if i = p then c else i) := fun i => by
    funext j; exact congrArg (fun r => gv r j) (swp_rw (by omega) (by omega))
  have hcc : gm (swp [] A p c) c c ≠ 0 := by rw [key, if_pos rfl]; exact hz
  have hoff : ∀ j, j < c → ∀ i, i < n → i ≠ j → gm (swp [] A p c) i j = 0 := fun j hj i hi hij => by
    rw [key]
    by_cases e1 : i = c
    · rw [if_pos e1]; exact h.off j hj p hp (by omega)
    · rw [if_neg e1]
      by_cases e2 : i = p
      · rw [if_pos e2]; exact h.off j hj c hc (by omega)
      · rw [if_neg e2]; exact h.off j hj i hi hij
  refine ⟨redJ_shp hs, fun x => (ker_red hs hc (fun j hj => hoff j hj c hc (by omega))).trans ((ker_swp hl hp hc).trans (h.ker x)), fun j hj i hi hij => ?_, fun j hj => ?_⟩
  · rw [redJ_gm hs hi (by omega)]
    by_cases e : j = c
    · subst e
      rw [if_pos ⟨hij, Nat.le_refl _⟩]
      have := div_eq (x := gm (swp [] A p j) i j) hcc
      grind
    · rw [if_neg (fun k => by omega)]; exact hoff j (by omega) i hi hij
  · rw [redJ_gm hs (by omega) (by omega)]
    by_cases e : j = c
    · subst e; rw [if_neg (fun k => k.1 rfl)]; exact hcc
    · rw [if_neg (fun k => by omega), key, if_neg (by omega), if_neg (by omega)]; exact h.dg j (by omega)
end
section
open Go Go.RowKit
set_option maxRecDepth 20000 in
theorem c_rValid {M : List (List Qi)} {n m : Nat} (h : Shp M n m) (hn : n ≤ 32) (hm : m ≤ 32) : Fun Tryz.prog 214 [QM M] (BoolT true) := by
 have hl := h.1
 refine Fun.intro Tryz.func214 rfl Tryz.ntmps214 rfl (fun cx => (ts (ro rfl (bY cJ) (R_nil (cG (ts (rm rfl (ro rfl (dW U_32 (Ht rfl) len_map) (ro rfl (op_gtrN (Ht rfl) (cZ 32)) (R_nil (T_condF (Ht rfl) (by simp [hl]; omega) ?_)))))))))))
 refine cK (cG (ts (ro rfl (bY (cZ 0)) (R_nil (T_block ?_)))))
 refine T_loop (fun (i : Nat) => i ≤ n) (fun (i : Nat) => n - i) (fun (i : Nat) => [(0, QM M), (3, NT .i64 i)]) (fun (i : Nat) => []) 0 (Nat.zero_le _)
  (aQ rfl (aQ rfl aX)) aU (fun i hi => ?_)
 refine cG (ts (rm rfl (rm rfl (ro rfl (dW U_32 (Ht rfl) len_map) (ro rfl (op_lssN (Ht rfl) (Ht rfl)) (R_nil (cY (Ht rfl) (fun hd => ?_) (fun hd => ?_))))))))
 ·have hdn : i < n := by simp only [decide_eq_true_eq] at hd; omega
  have hr := h.row hdn
  have hr0 := h.row (i := 0) (by omega)
  simp at hr hr0
  refine cK (cG (T_block (cG (C.D_start (m := 13) (dp 0 rfl (cQ (Ht rfl)) (dp 3 rfl (cQ (Ht rfl)) (dqq 13 0 14 1 rfl (dX U_32 Z_31 (Ht rfl) (Ht rfl) rfl (dU (dK (d := []) (by omega)))) (dq 15 2 rfl (dZ A_31 Z_31 (Ht rfl)) (dq 16 3 rfl (dW U_31 (Ht rfl) len_map) (dp 0 rfl (cQ (Ht rfl)) (dq 18 5 rfl (dX U_32 Z_31 (Ht rfl) (cZ 0) rfl (dU (dK (d := []) (by omega)))) (dq 19 6 rfl (dZ A_31 Z_31 (Ht rfl)) (dq 20 7 rfl (dW U_31 (Ht rfl) len_map) ?_)))))))))))))
  refine dqq 17 4 21 8 rfl (op_neqN (Ht rfl) (Ht rfl)) (dq 22 9 rfl (cQ (Ht rfl)) (C.D_step (Ei := [(0, _), (23, _)]) rfl rfl (bJ (bG rfl rfl) (bJ (bW 10 rfl rfl) bV)) (S_when rfl rfl (Ht rfl) (fun h => cQ (Ht rfl))) (C.D_step (Ei := [(3, _), (23, _)]) rfl rfl (bJ (bG rfl rfl) (bJ (bW 10 rfl rfl) bV)) (S_when rfl rfl (Ht rfl) (fun h => cQ (Ht rfl))) (C.D_done mixed rfl (by kernel_rfl) (aJ (aJ (aJ (aJ (aJ (aJ (aJ (aJ (aJ (aJ (aJ (aJ (aJ (aV ?_))))))))))))))))))
  refine R_step rfl rfl (S_when rfl rfl (Ht rfl) (fun h => dX U_32 Z_31 (Has.w rfl h) (Has.w rfl h) rfl (dU (dK (d := []) (by omega))))) (R_step rfl rfl (S_when rfl rfl (Ht rfl) (fun h => dZ A_31 Z_31 (Has.w rfl h))) (R_step rfl rfl (S_when rfl rfl (Ht rfl) (fun h => dW U_31 (Has.w rfl h) len_map)) (R_step rfl rfl (S_when rfl rfl (Ht rfl) (fun h => op_gtrN (Has.w rfl h) (cZ 32))) (ro rfl (op_or (Ht rfl) (fun h => (Has.w rfl h))) (R_nil (T_condF (Ht rfl) (by simp [hr, hr0]; omega) ?_))))))
  refine cK (T_blk (cU (rm rfl (ro rfl (dJ (Ht rfl) (cZ 1) (by show _ < 9223372036854775808; first | omega | (simp only [lim]; omega))) (ra rfl (R_nil (T_again (i + 1) hdn (by omega) (aQ rfl (aQ rfl aX)) aU)))))))
 ·refine T_exit rfl (ts (ro rfl (bY cJ) (R_nil ?_)))
  exact T_ret1 rfl (rv_tmp rfl)
set_option maxRecDepth 20000 in
theorem c_rColumns {M : List (List Qi)} {n m : Nat} (h : Shp M n m) (h1 : 1 ≤ n) : Fun Tryz.prog 215 [QM M] (NT .i64 m) := by
 have hl := h.1
 have hr0 := h.row (i := 0) (by omega)
 refine Fun.intro Tryz.func215 rfl Tryz.ntmps215 rfl (fun cx => (ts (ro rfl (bY (cZ 0)) (R_nil (cG (ts (rm rfl (ro rfl (dW U_32 (Ht rfl) len_map) (ro rfl (op_eqlN (Ht rfl) (cZ 0)) (R_nil (T_condF (Ht rfl) (by simp [hl]; omega) ?_)))))))))))
 refine cK (ts (rm rfl (ro rfl (dX U_32 Z_31 (Ht rfl) (cZ 0) rfl (dU (dK (d := []) (by omega)))) (ro rfl (dZ A_31 Z_31 (Ht rfl)) (ro rfl (dW U_31 (Ht rfl) len_map) (ra rfl (R_nil (T_ret1 rfl (rv_to (rv_tmp rfl) ?_)))))))))
 exact (nt_of hr0)
set_option maxRecDepth 20000 in
theorem c_rIdO {n : Nat} (hn : n ≤ 32) : FunO Tryz.prog 213 [NT .i64 n] [] (Nat) (fun B => Is (.slice (some ⟨B, 0, none⟩) n n)) (fun B => [matP exactH B 31 98 5 (FRow QT (idM n))]) (fun _ => True) := by
 refine FunO.intro Tryz.func213 rfl Tryz.ntmps213 rfl (fun cx Z => (ts (ro rfl (bY cJ) (R_nil (cG (ts (rm rfl (ro rfl (op_lssN (Ht rfl) (cZ 0)) (R_nil (T_condF (Ht rfl) (by simp) ?_))))))))))
 refine cK (cG (ts (rm rfl (ro rfl (op_gtrN (Ht rfl) (cZ 32)) (R_nil (T_condF (Ht rfl) (by simp; omega) ?_))))))
 refine cK (ts (rm rfl (rm rfl (R_call0 Tryz.call138 (c_ZerosO (n := n) (m := n) (by omega) (by omega)) ⟨(Ht rfl), (Ht rfl), trivial⟩ rfl (fun B11 _ => (ra rfl (R_nil (cG (ts (ro rfl (bY (cZ 0)) (R_nil (T_block ?_))))))))))))
 refine T_loop (fun (i : Nat) => i ≤ n) (fun (i : Nat) => n - i) (fun (i : Nat) => [(0, NT .i64 n), (3, Is (.slice (some ⟨B11, 0, none⟩) n n)), (4, NT .i64 i)]) (fun (i : Nat) => [Z, matP exactH B11 31 98 5 (FRow QT (mixT (unitR n) (tab n fun _ => Qi.zero) n i))]) 0 (Nat.zero_le _)
  (aQ rfl (aQ rfl (aQ rfl aX))) (aK (fun _ _ _ h => h) (aK (matO_of (by rw [zeroM, mix_zero])) aU)) (fun i hi => ?_)
 refine cG (ts (rm rfl (rm rfl (ro rfl (op_lssN (Ht rfl) (Ht rfl)) (R_nil (cY (Ht rfl) (fun hd0 => ?_) (fun hd0 => ?_)))))))
 ·have hdn : i < n := by simp only [decide_eq_true_eq] at hd0; omega
  refine T_focusE 1 (i) rfl (frow_mix hdn) (fun v0 hv0 => (cK (cG (T_block (C.D_start (m := 6) (dp 3 rfl (cQ (Ht rfl)) (dp 4 rfl (cQ (Ht rfl)) (dqq 17 0 18 1 rfl (op_idxB U_32 Z_31 (Ht rfl) (Ht rfl) rfl (by omega) (by rw [Nat.mul_one, Nat.zero_add])) ?_))))))))
  refine dq 19 2 rfl (op_ldH A_31 Z_31 (Ht rfl) (j := 1) rfl) (dp 4 rfl (cQ (Ht rfl)) (d0 rfl (cX K_117 (c_rWhole (n := 1) (by decide) (by decide)) ⟨(cZ 1), trivial⟩) (C.D_done mixed rfl (by kernel_rfl) (aJ (aJ (aJ (aJ (aJ (aJ (aV (ro rfl (op_idxO U_31 Z_98 (Ht rfl) (Ht rfl) rfl (i := 2) rfl (by simp only [List.length_map, tab_len]; omega) rfl) ?_)))))))))))
  refine R_stO Z_98 (Ht rfl) (Ht rfl) (El.ag rfl) (i := 2) rfl rfl (by simp only [List.length_map, tab_len]; omega) rfl ?_
  refine R_nil (T_blk (T_unfocus 1 2 rfl rfl (by decide) (by simp only [FRow, List.length_map, mix_len]; omega) ?_))
  refine cU (rm rfl (ro rfl (dJ (Ht rfl) (cZ 1) (by show _ < 9223372036854775808; first | omega | (simp only [lim]; omega))) (ra rfl (R_nil (T_keep [0, 1] rfl (by decide) (T_again (i + 1) hdn (by omega) (aQ rfl (aQ rfl (aQ rfl aX))) (aK (fun _ _ _ h => h) (aK (matO_of (by rw [set_mapF, set_FRow, ← mix_set (f := unitR n), unitR])) aU))))))))
 ·have hin : i = n := by simp only [decide_eq_false_iff_not] at hd0; omega
  subst hin
  refine T_exit rfl (ts (rm rfl (ra rfl (R_nil ?_))))
  exact T_retO B11 trivial [0, 1] ⟨⟨_, rfl, fun _ _ _ h => h⟩, ⟨_, rfl, (matO_of (by rw [mix_fin]; rfl))⟩, trivial⟩ (by decide) (rvs1 rfl (rv_tmp rfl))
end
section
open Go Go.RowKit
abbrev pA (ps : List (Nat × Nat)) (k : Nat) : Nat := (ps.getD k (0, 0)).1
abbrev pB (ps : List (Nat × Nat)) (k : Nat) : Nat := (ps.getD k (0, 0)).2
end
section
open Go Go.RowKit
theorem gv_set {l : List Qi} {t k : Nat} {v : Qi} (ht : t < l.length) : gv (l.set t v) k = if k = t then v else gv l k := by
  simp only [gv, List.getD]
  by_cases e : k = t
  · subst e; rw [if_pos rfl, List.getElem?_set_self ht]; rfl
  · rw [if_neg e, List.getElem?_set_ne (Ne.symm e)]
end
section
open Go Go.RowKit
theorem fa_24_0 (a : Addr) (w : World) : (Instr.fieldAt 24 (.pointer (some a)) 0).run Tryz.prog w = .ok (.pointer (some (a.add 0))) w := by
  simp [Instr.fieldAt, Instr.sureAddr, fieldPlace, Sem.run_bind, Result.andThen, U_24, Z_5]
theorem fa_24_1 (a : Addr) (w : World) : (Instr.fieldAt 24 (.pointer (some a)) 1).run Tryz.prog w = .ok (.pointer (some (a.add 1))) w := by
  simp [Instr.fieldAt, Instr.sureAddr, fieldPlace, Sem.run_bind, Result.andThen, U_24, Z_22]
theorem fa_24_2 (a : Addr) (w : World) : (Instr.fieldAt 24 (.pointer (some a)) 2).run Tryz.prog w = .ok (.pointer (some (a.add 2))) w := by
  simp [Instr.fieldAt, Instr.sureAddr, fieldPlace, Sem.run_bind, Result.andThen, U_24, Z_22]
theorem info_22 : Tryz.prog.info? 22 = some Tryz.t22 := by kernel_rfl
theorem info_91 : Tryz.prog.info? 91 = some Tryz.t91 := by kernel_rfl
theorem und_22 : Tryz.prog.underlying 22 = some (.slice 91) := by kernel_rfl
end
section
open Go Go.RowKit
abbrev PartT (a : Nat) (zl sl : List Rt) : Ty := AggT [NT .u8 a, RatsT zl, RatsT sl]
theorem rat0_p : ∀ V, (RatT default).p (.agg #[.int .i64 0, .int .i64 0, .int .i64 0]) V := fun V => ⟨[.int .i64 0, .int .i64 0, .int .i64 0], rfl, aW ⟨rfl, trivial⟩ (aW ⟨rfl, trivial⟩ (aW ⟨rfl, trivial⟩ aG))⟩
theorem frzG {B e s l : Nat} {BT : TypeId} {Rs : List (List Ty)} {q : Value → Prop} (hl : l = Rs.length) : ∀ u S V, (Is (.slice (some ⟨B, 0, none⟩) l l)).p u V → (matP q B BT e s Rs).h S V V → (SlT 1 (Rs.map (SlT s))).p u V := fun u S V h1 h2 => frz_mat hl (Nat.le_refl _) u S V h1 h2
theorem plS_rows (a : Nat) (sl : List Rt) : (tab (plN a) fun i => tab (plN a) fun j => RatT (smR (pkR sl (plN a * i + j)))).map (SlT 3) = (plS a sl).map RatsT := by
  rw [plS, tab_map, tab_map]
  refine tab_congr fun i _ => ?_
  rw [RatsT, tab_map]
set_option maxRecDepth 20000 in
theorem c_PlainO {a : Nat} {zl sl : List Rt} (ha : a < 256) : FunO Tryz.prog 88 [PartT a zl sl] [] (Nat) (fun B => TupT [RatsT (plZ a zl), Is (.slice (some ⟨B, 0, none⟩) (plN a) (plN a))]) (fun B => [matO B 22 91 3 (tab (plN a) (fun i => tab (plN a) fun j => RatT (smR (pkR sl (plN a * i + j)))))]) (fun _ => True) := by
 have hn : plN a ≤ 4 := by unfold plN; omega
 have hn0 : a % 4 + 1 = plN a := rfl
 refine FunO.intro Tryz.func88 rfl Tryz.ntmps88 rfl (fun cx Z => (ts (rn rfl (new_box (Ht rfl)) fun B1 => (ro rfl (bY cJ) (ro rfl (bY cJ) (R_nil (ts (ro rfl (op_fldB fa_24_0 (Ht rfl) rfl) (ro rfl (op_ldB A_5 Z_5 (Ht rfl) (i := 1) rfl rfl) (ro rfl (op_remN (Ht rfl) (cZ 4) (by omega)) (ro rfl (op_convN U_5 U_3 (Ht rfl) (by show _ < 9223372036854775808; first | omega | (simp only [lim]; omega))) (ro rfl (OpTy.nat (dJ (Ht rfl) (cZ 1) (by show _ < 9223372036854775808; first | omega | (simp only [lim]; omega))) hn0) ?_))))))))))))
 refine ra rfl (R_nil (cG (C.D_start (m := 5) (dp 4 rfl (cQ (Ht rfl)) (C.D_new (Ei := [(14, _)]) rfl rfl rfl (bJ (bW 0 rfl rfl) bV) (new_makeO (T := RatT default) (i := Tryz.t91) und_22 info_91 rfl rfl (Ht rfl) rfl rat0_p (El.ag rfl) (by show 24 * _ ≤ _; omega) (by omega)) (dp 4 rfl (cQ (Ht rfl)) (C.D_new (Ei := [(16, _)]) rfl rfl rfl (bJ (bW 2 rfl rfl) bV) (new_make (T := Is (.slice none 0 0)) (i := Tryz.t22) Tryz.underlying25 info_22 rfl rfl (Ht rfl) rfl (fun _ => rfl) trivial (by show 24 * _ ≤ _; omega) (by omega)) (C.D_cpy 1 rfl rfl rfl rfl rfl C.cpy_assign ?_))))))))
 refine C.D_done mixed rfl (by kernel_rfl) (aJ (C.F_new (fun B15 => aJ (C.F_new (fun B17 => C.F_cpy rfl (aV (ra rfl (R_nil (cG (ts (rm rfl (ro rfl (op_lenO U_22 (Ht rfl) (i := 2) rfl (show ((List.replicate (plN a) (RatT default)).length : Int) = ((plN a : Nat) : Int) from by simp)) (ro rfl (cQ (cZ 0)) (R_nil (T_block (T_conv 3 rfl (mat_nil (e := 91) (s := 3)) ?_))))))))))))))))
 refine T_loop (fun (i : Nat) => i ≤ plN a) (fun (i : Nat) => plN a - i) (fun (i : Nat) => [(1, PtrB B1 0), (4, NT .i64 (plN a)), (5, Is B15), (6, Is (.slice (some ⟨B17, 0, none⟩) (plN a) (plN a))), (19, NT .i64 (plN a)), (20, NT .i64 i)]) (fun (i : Nat) => [Z, box B1 24 [NT .u8 a, RatsT zl, RatsT sl], rowO 91 3 B15 (mixT (fun i => RatT (imR (pkR zl i))) (RatT default) (plN a) i), matO B17 22 91 3 (mixT (fun i => tab (plN a) fun j => RatT (smR (pkR sl (plN a * i + j)))) [] (plN a) i)]) 0 (Nat.zero_le _)
  (aQ rfl (aQ rfl (aQ rfl (aQ rfl (aZ rfl (nt_of (by simp)) (aQ rfl aX)))))) (aK (fun _ _ _ h => h) (aK (box_of rfl) (aK (rowO_of (by rw [← mix_zero]; exact rep_tab _ _)) (aK (matO_of (by rw [← mix_zero]; exact rep_tab _ _)) aU)))) (fun i hi => ?_)
 refine ts (ro rfl (op_lssN (Ht rfl) (Ht rfl)) (R_nil (cG (cY (Ht rfl) (fun hd => ?_) (fun hd => ?_)))))
 ·simp only [decide_eq_true_eq] at hd
  have hni : plN a * i ≤ 4 * 4 := Nat.mul_le_mul hn (by omega)
  refine T_focus 3 (i) rfl (mix_get hd) (fun v0 => (cK (cG (T_block (ts (rm rfl (ra rfl (R_nil (ts (rm rfl (rm rfl (ro rfl (op_fldB fa_24_1 (Ht rfl) rfl) (ro rfl (op_ldB A_22 Z_22 (Ht rfl) (i := 1) rfl rfl) (rm rfl (ro rfl (cX Tryz.call75 c_pick ⟨(Ht rfl), (Ht rfl), trivial⟩) (ro rfl (cX Tryz.call74 c_imped ⟨(Ht rfl), trivial⟩) (ro rfl (op_idxO U_22 Z_91 (Ht rfl) (Ht rfl) rfl (i := 2) rfl (by rw [mix_len]; omega) rfl) ?_)))))))))))))))))
  refine R_stO Z_91 (Ht rfl) (Ht rfl) (El.ag rfl) (i := 2) rfl rfl (by rw [mix_len]; omega) rfl ?_
  refine R_nil (ts (rm rfl (rm rfl (rm rfl (rn rfl (new_makeO (T := RatT default) (i := Tryz.t91) und_22 info_91 rfl rfl (Ht rfl) rfl rat0_p (El.ag rfl) (by show 24 * _ ≤ _; omega) (by omega)) fun B34 => (ro rfl (op_idxB U_25 Z_22 (Ht rfl) (Ht rfl) rfl (by omega) (by rw [Nat.mul_one, Nat.zero_add])) ?_))))))
  refine R_stH Z_22 (Ht rfl) (Ht rfl) (by rw [mix_len]; omega) (j := 3) (l := 5) rfl rfl rfl ?_
  refine R_nil (cG (T_keep [0, 1, 2, 3, 5] rfl (by decide) (cU (rm rfl (rm rfl (ro rfl (op_idxB U_25 Z_22 (Ht rfl) (Ht rfl) rfl (by omega) (by rw [Nat.mul_one, Nat.zero_add])) ?_))))))
  refine ro rfl (op_ldH A_22 Z_22 (Ht rfl) (j := 3) rfl) (ro rfl (op_lenO U_22 (Ht rfl) (i := 4) rfl (show ((List.replicate (plN a) (RatT default)).length : Int) = ((plN a : Nat) : Int) from by simp)) (ro rfl (cQ (cZ 0)) (R_nil (T_block ?_))))
  refine T_loop (fun (j : Nat) => j ≤ plN a) (fun (j : Nat) => plN a - j) (fun (j : Nat) => [(1, PtrB B1 0), (4, NT .i64 (plN a)), (5, Is B15), (6, Is (.slice (some ⟨B17, 0, none⟩) (plN a) (plN a))), (7, NT .i64 i), (19, NT .i64 (plN a)), (20, NT .i64 i), (40, NT .i64 (plN a)), (41, NT .i64 j)]) (fun (j : Nat) => [Z, box B1 24 [NT .u8 a, RatsT zl, RatsT sl], rowO 91 3 B15 (mixT (fun i => RatT (imR (pkR zl i))) (RatT default) (plN a) (i + 1)), matH B17 22 91 3 (mixT (fun i => tab (plN a) fun j => RatT (smR (pkR sl (plN a * i + j)))) [] (plN a) i) i B34, rowO 91 3 B34 (mixT (fun j => RatT (smR (pkR sl (plN a * i + j)))) (RatT default) (plN a) j)]) 0 (Nat.zero_le _)
   (aQ rfl (aQ rfl (aQ rfl (aQ rfl (aQ rfl (aQ rfl (aQ rfl (aQ rfl (aQ rfl aX))))))))) (aK (fun _ _ _ h => h) (aK (box_of rfl) (aK (rowO_of (mix_set (f := (fun i => RatT (imR (pkR zl i)))))) (aK (fun _ _ _ h => h) (aK (rowO_of (by rw [← mix_zero]; exact rep_tab _ _)) aU))))) (fun j hj => ?_)
  refine ts (ro rfl (op_lssN (Ht rfl) (Ht rfl)) (R_nil (cG (cY (Ht rfl) (fun he => ?_) (fun he => ?_)))))
  ·simp only [decide_eq_true_eq] at he
   refine cK (cG (T_block (ts (rm rfl (ra rfl (R_nil (C.D_start (m := 14) (dp 6 rfl (cQ (Ht rfl)) (dp 7 rfl (cQ (Ht rfl)) (dqq 44 0 45 1 rfl (op_idxB U_25 Z_22 (Ht rfl) (Ht rfl) rfl (by omega) (by rw [Nat.mul_one, Nat.zero_add])) ?_))))))))))
   refine dq 46 2 rfl (op_ldH A_22 Z_22 (Ht rfl) (j := 3) rfl) (dp 8 rfl (cQ (Ht rfl)) (dp 1 rfl (op_fldB fa_24_2 (Ht rfl) rfl) (dq 49 5 rfl (op_ldB A_22 Z_22 (Ht rfl) (i := 1) rfl rfl) (dp 4 rfl (cQ (Ht rfl)) (dp 7 rfl (cQ (Ht rfl)) (dqq 51 7 52 8 rfl (op_mulN (Ht rfl) (Ht rfl) (by show _ < 9223372036854775808; omega)) (dp 8 rfl (cQ (Ht rfl)) (dqq 53 9 54 10 rfl (dJ (Ht rfl) (Ht rfl) (by show _ < 9223372036854775808; omega)) (dqq 50 6 55 11 rfl (cX Tryz.call75 c_pick ⟨(Ht rfl), (Ht rfl), trivial⟩) (dq 56 12 rfl (cX Tryz.call161 c_small ⟨(Ht rfl), trivial⟩) ?_))))))))))
   refine C.D_done mixed rfl (by kernel_rfl) (aJ (aJ (aJ (aJ (aJ (aJ (aJ (aJ (aJ (aJ (aJ (aJ (aJ (aJ (aV (ro rfl (op_idxO U_22 Z_91 (Ht rfl) (Ht rfl) rfl (i := 4) rfl (by rw [mix_len]; omega) rfl) ?_))))))))))))))))
   refine R_stO Z_91 (Ht rfl) (Ht rfl) (El.ag rfl) (i := 4) rfl rfl (by rw [mix_len]; omega) rfl ?_
   refine R_nil (T_blk (cU (ro rfl (dJ (Ht rfl) (cZ 1) (by show _ < 9223372036854775808; first | omega | (simp only [lim]; omega))) (rm rfl (R_nil (T_again (j + 1) he (by omega) (aQ rfl (aQ rfl (aQ rfl (aQ rfl (aQ rfl (aQ rfl (aQ rfl (aQ rfl (aQ rfl aX))))))))) (aK (fun _ _ _ h => h) (aK (box_of rfl) (aK (fun _ _ _ h => h) (aK (fun _ _ _ h => h) (aK (rowO_of (mix_set (f := fun j => RatT (smR (pkR sl (plN a * i + j)))))) aU)))))))))))
  ·simp only [decide_eq_false_iff_not] at he
   have hjn : j = plN a := Nat.le_antisymm hj (by omega)
   rw [hjn, mix_fin]
   refine T_exit rfl (T_blk (T_unfocus 3 4 rfl rfl (by decide) (by rw [mix_len]; omega) ?_))
   refine cU (ro rfl (dJ (Ht rfl) (cZ 1) (by show _ < 9223372036854775808; first | omega | (simp only [lim]; omega))) (rm rfl (R_nil (T_keep [0, 1, 2, 3] rfl (by decide) (T_again (i + 1) hd (by omega) (aQ rfl (aQ rfl (aQ rfl (aQ rfl (aQ rfl (aQ rfl aX)))))) (aK (fun _ _ _ h => h) (aK (box_of rfl) (aK (fun _ _ _ h => h) (aK (matO_of (mix_set (f := (fun i => tab (plN a) fun j => RatT (smR (pkR sl (plN a * i + j))))))) aU)))))))))
 ·simp only [decide_eq_false_iff_not] at hd
  have hin : i = plN a := Nat.le_antisymm hi (by omega)
  rw [hin, mix_fin, mix_fin]
  refine T_exit rfl (T_freeze (i := 2) (tt := 5) rfl rfl frz_row (ts (rm rfl (rm rfl (ra rfl (ra rfl (R_nil ?_)))))))
  exact T_retO B17 trivial [0, 3] ⟨⟨_, rfl, fun _ _ _ h => h⟩, ⟨_, rfl, fun _ _ _ h => h⟩, trivial⟩ (by decide) (rvs2 rfl (rv_to (rv_tmp rfl) (slT_of (by rw [plZ, tab_map]))) (rv_tmp rfl))
theorem tup2 {T U U' : Ty} {v : Value} {V : View} (h : (TupT [T, U]).p v V) (hU : ∀ u, U.p u V → U'.p u V) : (TupT [T, U']).p v V := by
  obtain ⟨vs, h1, h2⟩ := h
  match vs, h2 with
  | [x, y], ⟨a, b, c⟩ => exact ⟨[x, y], h1, a, hU y b, c⟩
theorem c_Plain {a : Nat} {zl sl : List Rt} (ha : a < 256) : Fun Tryz.prog 88 [PartT a zl sl] (TupT [RatsT (plZ a zl), RatM (plS a sl)]) := (c_PlainO ha).fun fun B _ v S V h1 h2 => tup2 h1 fun u hu => by
  exact slT_of (plS_rows a sl) u V (frzG (tab_len _ _).symm u S V hu h2)
set_option maxRecDepth 20000 in
theorem c_Build {a : Nat} {zl sl : List Rt} (ha : a < 256) : Fun Tryz.prog 16 [PartT a zl sl] (TupT [NetT ((plZ a zl).map Rt.q) (rq (plS a sl)), RNetT ((plZ a zl).map Rt.q) (rq (plS a sl)), BoolT true]) := by
 have hn : plN a ≤ 4 := by unfold plN; omega
 have herr := pl_err a zl sl
 have hzl : (plZ a zl).length = plN a := tab_len _ _
 have hsl : (plS a sl).length = plN a := tab_len _ _
 have hall : ∀ r, r ∈ plS a sl → r.length ≤ 1000 := fun r hr => by obtain ⟨i, _, rfl⟩ := tab_mem.1 hr; rw [tab_len]; omega
 have hsh := (netErr_ok herr).2.2.1
 have z1 : ((plZ a zl).map Rt.q).length ≤ 1000 := by rw [List.length_map, hzl]; omega
 have s1 : (rq (plS a sl)).length ≤ 1000 := by rw [List.length_map, hsl]; omega
 have hcv : ∀ v V, (TupT [NetT (okL (netErr ((plZ a zl).map Rt.q) (rq (plS a sl))) ((plZ a zl).map Rt.q)) (okL (netErr ((plZ a zl).map Rt.q) (rq (plS a sl))) (rq (plS a sl))), IntT .i64 (netErr ((plZ a zl).map Rt.q) (rq (plS a sl)))]).p v V → (TupT [NetT ((plZ a zl).map Rt.q) (rq (plS a sl)), IntT .i64 0]).p v V := by rw [herr]; exact fun _ _ h => h
 have hcv2 : ∀ v V, (TupT [RNetT (okL (netErr ((plZ a zl).map Rt.q) (rq (plS a sl))) ((plZ a zl).map Rt.q)) (okL (netErr ((plZ a zl).map Rt.q) (rq (plS a sl))) (rq (plS a sl))), IntT .i64 (netErr ((plZ a zl).map Rt.q) (rq (plS a sl)))]).p v V → (TupT [RNetT ((plZ a zl).map Rt.q) (rq (plS a sl)), IntT .i64 0]).p v V := by rw [herr]; exact fun _ _ h => h
 refine Fun.intro Tryz.func16 rfl Tryz.ntmps16 rfl (fun cx => (ts (rn rfl (new_box (Ht rfl)) fun B1 => (rn rfl (new_alloc (Ts := [Is (.slice none 0 0), Is (.slice none 0 0)]) O_30 rfl (fun V => aW ⟨rfl, trivial⟩ (aW ⟨rfl, trivial⟩ (aG)))) fun B2 => (rn rfl (new_alloc (Ts := [Is (.slice none 0 0), Is (.slice none 0 0)]) O_34 rfl (fun V => aW ⟨rfl, trivial⟩ (aW ⟨rfl, trivial⟩ (aG)))) fun B3 => (ro rfl (bY cJ) (R_nil (ts (ro rfl (op_ldBA Tryz.isAgg24 Tryz.sizeOf24 (Ht rfl) (i := 0) rfl rfl rfl) (ro rfl (cX Tryz.call88 (c_Plain ha) ⟨(Ht rfl), trivial⟩) ?_))))))))))
 refine rm rfl (ro rfl (dG (Ht rfl) rfl) (ro rfl (dG (Ht rfl) rfl) (ra rfl (ra rfl (R_nil (ts (rm rfl (ro rfl (cX Tryz.call23 (c_lawList (by omega)) ⟨(Ht rfl), trivial⟩) (rm rfl (ro rfl (cX Tryz.call24 (c_lawRows (by omega) hall) ⟨(Ht rfl), trivial⟩) (ro rfl (cX Tryz.call85 (dY (c_netNew (z := ((plZ a zl).map Rt.q)) (s := (rq (plS a sl))) (L := 2) FitL.rt (by decide) z1 s1) hcv) ⟨(Ht rfl), (Ht rfl), trivial⟩) (rm rfl (ro rfl (dG (Ht rfl) rfl) (ro rfl (dG (Ht rfl) rfl) (rn rfl (new_alloc (Ts := [Is (.slice none 0 0), Is (.slice none 0 0)]) O_30 rfl (fun V => aW ⟨rfl, trivial⟩ (aW ⟨rfl, trivial⟩ (aG)))) fun B7 => ?_)))))))))))))))
 refine R_stA Z_30 (Ht rfl) (Ht rfl) rfl (i := 3) rfl (Nat.le_of_ble_eq_true rfl) rfl rfl (ra rfl (R_nil (ts (rm rfl (ro rfl (cX Tryz.call26 (c_refList4 (by omega)) ⟨(Ht rfl), trivial⟩) (rm rfl (ro rfl (cX Tryz.call27 (c_refRows4 (by omega) hall) ⟨(Ht rfl), trivial⟩) (ro rfl (cX Tryz.call89 (dY (c_rnetNew (z := ((plZ a zl).map Rt.q)) (s := (rq (plS a sl))) (L := 2) FitL.rt (by decide) z1 s1) hcv2) ⟨(Ht rfl), (Ht rfl), trivial⟩) (rm rfl (ro rfl (dG (Ht rfl) rfl) (ro rfl (dG (Ht rfl) rfl) (rn rfl (new_alloc (Ts := [Is (.slice none 0 0), Is (.slice none 0 0)]) O_34 rfl (fun V => aW ⟨rfl, trivial⟩ (aW ⟨rfl, trivial⟩ (aG)))) fun B9 => ?_))))))))))))
 refine R_stA Z_34 (Ht rfl) (Ht rfl) rfl (i := 4) rfl (Nat.le_of_ble_eq_true rfl) rfl rfl (ra rfl (R_nil (cG (Y.D_start (m := 11) [(9, 1, box B2 30 [NumsT ((plZ a zl).map Rt.q), NumM (rq (plS a sl))]), (10, 2, box B3 34 [QsT ((plZ a zl).map Rt.q), QM (rq (plS a sl))])] (Y.D_step (Ei := [(7, _)]) rfl rfl (aY (bZ rfl rfl) bQ) rfl rfl (by kernel_rfl) (dQ rfl (op_ldBA A_30 Z_30 (Ht rfl) (i := 3) rfl rfl rfl)) (bU (Ei := [(9, _)]) rfl rfl (aY (bZ rfl rfl) bQ) rfl rfl (dQ rfl (op_ldBA A_34 Z_34 (Ht rfl) (i := 4) rfl rfl rfl)) ?_))))))
 refine Y.D_step (Ei := [(8, _)]) rfl rfl (aY (bZ rfl rfl) bQ) rfl rfl (by kernel_rfl) (dQ rfl (cQ (Ht rfl))) (Y.D_step (Ei := [(34, _)]) rfl rfl (aY (bX 2 rfl rfl) bQ) rfl rfl (by kernel_rfl) (dQ rfl (op_eql (Ht rfl) cJ)) (Y.D_step (Ei := [(35, _)]) rfl rfl (aY (bX 3 rfl rfl) bQ) rfl rfl (by kernel_rfl) (dQ rfl (cQ (Ht rfl))) (Y.D_step (Ei := [(7, _), (36, _)]) rfl rfl (aY (bZ rfl rfl) (aY (bX 4 rfl rfl) bQ)) rfl rfl (by kernel_rfl) (S_when rfl rfl (Ht rfl) (fun h => op_ldBA A_30 Z_30 (Ht rfl) (i := 3) rfl rfl rfl)) ?_)))
 refine Y.D_step (Ei := [(9, _), (36, _)]) rfl rfl (aY (bZ rfl rfl) (aY (bX 4 rfl rfl) bQ)) rfl rfl (by kernel_rfl) (S_when rfl rfl (Ht rfl) (fun h => op_ldBA A_34 Z_34 (Ht rfl) (i := 4) rfl rfl rfl)) (Y.D_step (Ei := [(37, _), (38, _), (36, _)]) rfl rfl (aY (bX 5 rfl rfl) (aY (bX 6 rfl rfl) (aY (bX 4 rfl rfl) bQ))) rfl rfl (by kernel_rfl) (S_when rfl rfl (Ht rfl) (fun h => cX Tryz.call90 (c_is4 (z := ((plZ a zl).map Rt.q)) (s := (rq (plS a sl))) (L := 2) FitL.rt FitM.rt (by decide) (by decide) hsh z1) ⟨(Has.w rfl h), (Has.w rfl h), trivial⟩)) ?_)
 refine bU (Ei := [(36, _), (39, _)]) rfl rfl (aY (bX 4 rfl rfl) (aY (bX 7 rfl rfl) bQ)) rfl rfl (dQ rfl (op_and (Ht rfl) (fun h => (Has.w rfl h)))) (Y.D_putI (Ei := [(2, _), (32, _)]) 1 rfl rfl rfl (aY (bZ rfl rfl) (aY (bX 0 rfl rfl) bQ)) (.head _) rfl (P_stA Z_30 (Ht rfl) (Ht rfl) rfl (i := 0) rfl (Nat.le_of_ble_eq_true rfl) rfl rfl) (Y.D_putI (Ei := [(3, _), (33, _)]) 2 rfl rfl rfl (aY (bZ rfl rfl) (aY (bX 1 rfl rfl) bQ)) (.tail _ (.head _)) rfl (P_stA Z_34 (Ht rfl) (Ht rfl) rfl (i := 0) rfl (Nat.le_of_ble_eq_true rfl) rfl rfl) ?_))
 refine Y.D_done mixed rfl (by kernel_rfl) rfl (by simp [Y.okP]) rfl rfl (bK (bK (bK (bK (bK (bK (bK (bK (bK (Y.F_putI (Y.F_putI (Y.F_nil ?_))))))))))))
 refine ra rfl (R_nil (T_ret3 rfl (rv_cell A_30 Z_30 rfl (i := 1) rfl rfl) (rv_cell A_34 Z_34 rfl (i := 2) rfl rfl) (rv_to (rv_tmp rfl) ?_)))
 exact (bool_of (by simp))
end
section
open Go Go.RowKit
def freshE (n : Nat) (p : Int) (o : List Int) : Int := if ¬ (1 ≤ p ∧ p ≤ n) then 1 else if (o.any fun x => decide (p = x)) = true then 8 else 0
def prtE (n : Nat) (l : List Int) : Int := firstE (fun i => freshE n (l.getD i 0) (l.take i)) l.length
theorem fresh_ok {n : Nat} {p : Int} {o : List Int} (h : freshE n p o = 0) : 1 ≤ p ∧ p ≤ n := by
  unfold freshE at h
  split at h
  · omega
  · rename_i c; exact Decidable.not_not.1 c
theorem prt_in {n : Nat} {l : List Int} (h : prtE n l = 0) : ∀ x, x ∈ l → 1 ≤ x ∧ x ≤ n := fun x hx => by
  obtain ⟨i, hi, e⟩ := List.getElem_of_mem hx
  have := fresh_ok (firstE_zero h i hi)
  rw [show l.getD i 0 = x by rw [List.getD, List.getElem?_eq_getElem hi, e]; rfl] at this
  exact this
theorem subM_shp (s : List (List Qi)) (Q : List Nat) : Shp (subM s Q) Q.length Q.length := Shp.tab
end
section
open Go Go.RowKit
set_option maxRecDepth 20000 in
theorem c_fresh {z : List Qi} {s : List (List Qi)} {q : Int} {o : List Int} (hl : z.length ≤ 1000) (ho : o.length ≤ 1000) : Fun Tryz.prog 127 [NetT z s, IntT .i64 q, SlT 1 (o.map (IntT .i64))] (IntT .i64 (freshE z.length q o)) := by
 refine Fun.intro Tryz.func127 rfl Tryz.ntmps127 rfl (fun cx => (ts (rn rfl (new_box (Ht rfl)) fun B3 => (ro rfl (bY (cZ 0)) (R_nil (cG (T_block (ts (ro rfl (op_ldBA A_30 Z_30 (Ht rfl) (i := 0) rfl rfl rfl) (rm rfl (ro rfl (cX Tryz.call171 c_has ⟨(Ht rfl), (Ht rfl), trivial⟩) (ro rfl (op_not (Ht rfl)) (ra rfl (R_nil (cY (Ht rfl) (fun hb1 => ?_) (fun hb1 => ?_))))))))))))))))
 ·have h2 : ¬ (1 ≤ q ∧ q ≤ (z.length : Int)) := by simpa only [Bool.not_eq_true', decide_eq_false_iff_not] using hb1
  refine ts (ro rfl (bY (cZ 1)) (R_nil (T_ret1 rfl (rv_to (rv_tmp rfl) ?_))))
  exact (int_of (if_pos h2).symm)
 ·have h2 : 1 ≤ q ∧ q ≤ (z.length : Int) := by simpa using hb1
  refine ts (rm rfl (rm rfl (ro rfl (cX Tryz.call178 (c_ContainsInt (l := o) (v := q) (by omega)) ⟨(Ht rfl), (Ht rfl), trivial⟩) (ra rfl (R_nil (cY (Ht rfl) (fun hb2 => ?_) (fun hb2 => ?_)))))))
  ·refine ts (ro rfl (bY (cZ 8)) (R_nil (T_ret1 rfl (rv_to (rv_tmp rfl) ?_))))
   exact (int_of (by rw [freshE, if_neg (fun k => k h2), if_pos hb2]; rfl))
  ·refine cK (T_blk (ts (ro rfl (bY (cZ 0)) (R_nil (T_ret1 rfl (rv_to (rv_tmp rfl) ?_))))))
   exact (int_of (by rw [freshE, if_neg (fun k => k h2), if_neg (by rw [hb2]; decide)]; rfl))
theorem within_yes {l : List Int} {n i : Nat} {q : Int} (hi : i < n) (hn : n ≤ l.length) (h : l.getD i 0 = q) : ((l.take n).any fun x => decide (q = x)) = true := by
  rw [List.any_eq_true]
  refine ⟨q, ?_, by simp⟩
  have e : l.getD i 0 = l[i] := by simp [List.getD, show i < l.length by omega]
  rw [← h, e]
  exact List.mem_take_iff_getElem.2 ⟨i, by omega, rfl⟩
theorem within_no {l : List Int} {n : Nat} {q : Int} (h : ∀ j, j < n → l.getD j 0 ≠ q) : ((l.take n).any fun x => decide (q = x)) = false := by
  rw [List.any_eq_false]
  intro x hx
  obtain ⟨j, hj, rfl⟩ := List.mem_take_iff_getElem.1 hx
  have := h j (by omega)
  simp [List.getD, show j < l.length by omega] at this
  simpa using Ne.symm this
set_option maxRecDepth 20000 in
theorem c_within {l : List Int} {n : Nat} {q : Int} (hn : n ≤ l.length) (hl : l.length ≤ 1000) : Fun Tryz.prog 260 [SlT 1 (l.map (IntT .i64)), NT .i64 n, IntT .i64 q] (BoolT ((l.take n).any fun x => decide (q = x))) := by
 refine Fun.intro Tryz.func260 rfl Tryz.ntmps260 rfl (fun cx => (ts (ro rfl (bY cJ) (R_nil (cG (ts (ro rfl (bY (cZ 0)) (R_nil (T_block ?_)))))))))
 refine T_loop (fun (i : Nat) => i ≤ n ∧ ∀ j, j < i → l.getD j 0 ≠ q) (fun (i : Nat) => n - i) (fun (i : Nat) => [(0, SlT 1 (l.map (IntT .i64))), (1, NT .i64 n), (2, IntT .i64 q), (7, NT .i64 i)]) (fun (i : Nat) => []) 0 ⟨Nat.zero_le _, fun j h => by omega⟩
  (aQ rfl (aQ rfl (aQ rfl (aQ rfl aX)))) aU (fun i ⟨hi, h0⟩ => ?_)
 refine cG (ts (rm rfl (rm rfl (ro rfl (op_lssN (Ht rfl) (Ht rfl)) (R_nil (cY (Ht rfl) (fun hd => ?_) (fun hd => ?_)))))))
 ·have hin : i < n := by simp only [decide_eq_true_eq] at hd; omega
  refine cK (cG (T_block (ts (rm rfl (rm rfl (ro rfl (dX U_69 Z_3 (Ht rfl) (Ht rfl) rfl (dU (dK (d := 0) (by omega)))) (ro rfl (dZ A_3 Z_3 (Ht rfl)) (rm rfl (ro rfl (op_eql (Ht rfl) (Ht rfl)) (R_nil (cY (Ht rfl) (fun he => ?_) (fun he => ?_))))))))))))
  ·have h3 : l.getD i 0 = q := by simpa using he
   refine ts (ro rfl (bY cJ) (R_nil (T_ret1 rfl (rv_to (rv_tmp rfl) ?_))))
   exact (bool_of (within_yes hin hn h3).symm)
  ·have h3 : l.getD i 0 ≠ q := by simpa using he
   refine cK (T_blk (cU (rm rfl (ro rfl (dJ (Ht rfl) (cZ 1) (by show _ < 9223372036854775808; first | omega | (simp only [lim]; omega))) (ra rfl (R_nil ?_))))))
   refine T_again (i + 1) ⟨hin, fun j h => by
    by_cases e : j = i
    ·rw [e]; exact h3
    ·exact h0 j (by omega)⟩ (by omega) (aQ rfl (aQ rfl (aQ rfl (aQ rfl aX)))) aU
 ·have hin : i = n := by simp only [decide_eq_false_iff_not] at hd; omega
  rw [hin] at h0
  refine T_exit rfl (ts (ro rfl (bY cJ) (R_nil (T_ret1 rfl (rv_to (rv_tmp rfl) ?_)))))
  exact (bool_of (within_no h0).symm)
set_option maxRecDepth 20000 in
theorem c_rPorts {n : Nat} {l : List Int} (hl : l.length ≤ 1000) : Fun Tryz.prog 211 [NT .i64 n, SlT 1 (l.map (IntT .i64))] (IntT .i64 (prtE n l)) := by
 refine Fun.intro Tryz.func211 rfl Tryz.ntmps211 rfl (fun cx => (ts (ro rfl (bY (cZ 0)) (R_nil (cG (ts (ro rfl (bY (cZ 0)) (R_nil (T_block ?_)))))))))
 refine T_loop (fun (i : Nat) => i ≤ l.length ∧ ∀ j, j < i → (fun i => freshE n (l.getD i 0) (l.take i)) j = 0) (fun (i : Nat) => l.length - i) (fun (i : Nat) => [(0, NT .i64 n), (1, SlT 1 (l.map (IntT .i64))), (5, NT .i64 i)]) (fun (i : Nat) => []) 0 ⟨Nat.zero_le _, fun j h => by omega⟩
  (aQ rfl (aQ rfl (aQ rfl aX))) aU (fun i ⟨hi, h0⟩ => ?_)
 refine cG (ts (rm rfl (rm rfl (ro rfl (dW U_69 (Ht rfl) len_map) (ro rfl (op_lssN (Ht rfl) (Ht rfl)) (R_nil (cY (Ht rfl) (fun hd => ?_) (fun hd => ?_))))))))
 ·have hin : i < l.length := by simp only [decide_eq_true_eq] at hd; omega
  refine cK (cG (T_block (cG (ts (rm rfl (rm rfl (ro rfl (dX U_69 Z_3 (Ht rfl) (Ht rfl) rfl (dU (dK (d := 0) (by omega)))) (ro rfl (dZ A_3 Z_3 (Ht rfl)) (ro rfl (op_lss (Ht rfl) cJ) (rm rfl (R_step rfl rfl (S_when rfl rfl (Ht rfl) (fun h => cQ (Ht rfl))) (R_step rfl rfl (S_when rfl rfl (Ht rfl) (fun h => cQ (Ht rfl))) (R_step rfl rfl (S_when rfl rfl (Ht rfl) (fun h => dX U_69 Z_3 (Has.w rfl h) (Has.w rfl h) rfl (dU (dK (d := 0) (by omega))))) (R_step rfl rfl (S_when rfl rfl (Ht rfl) (fun h => dZ A_3 Z_3 (Has.w rfl h))) ?_))))))))))))))
  refine R_step rfl rfl (S_when rfl rfl (Ht rfl) (fun h => cQ (Ht rfl))) (R_step rfl rfl (S_when rfl rfl (Ht rfl) (fun h => op_gtr (Has.w rfl h) (Has.w rfl h))) (ro rfl (op_or (Ht rfl) (fun h => (Has.w rfl h))) (R_nil (cY (Ht rfl) (fun he => ?_) (fun he => ?_)))))
  ·have h3 : ¬ (1 ≤ l.getD i 0 ∧ l.getD i 0 ≤ (n : Int)) := by simp only [Bool.or_eq_true, decide_eq_true_eq] at he; omega
   have h4 : (fun i => freshE n (l.getD i 0) (l.take i)) i = 1 := if_pos h3
   refine ts (ro rfl (bY (cZ 1)) (R_nil (T_ret1 rfl (rv_to (rv_tmp rfl) ?_))))
   exact (int_of (by rw [prtE, firstE_at h0 (fun k => absurd (h4.symm.trans k) (by decide)) hin]; exact h4.symm))
  ·have h3 : 1 ≤ l.getD i 0 ∧ l.getD i 0 ≤ (n : Int) := by simp only [Bool.or_eq_false_iff, decide_eq_false_iff_not] at he; omega
   refine cK (ts (rm rfl (rm rfl (rm rfl (rm rfl (ro rfl (dX U_69 Z_3 (Ht rfl) (Ht rfl) rfl (dU (dK (d := 0) (by omega)))) (ro rfl (dZ A_3 Z_3 (Ht rfl)) (ro rfl (cX Tryz.call260 (c_within (n := i) (q := l.getD i 0) (by omega) hl) ⟨(Ht rfl), (Ht rfl), (Ht rfl), trivial⟩) (R_nil (cY (Ht rfl) (fun hf => ?_) (fun hf => ?_)))))))))))
   ·have h4 : (fun i => freshE n (l.getD i 0) (l.take i)) i = 8 := by show freshE _ _ _ = 8; rw [freshE, if_neg (fun k => k h3), if_pos hf]
    refine ts (ro rfl (bY (cZ 8)) (R_nil (T_ret1 rfl (rv_to (rv_tmp rfl) ?_))))
    exact (int_of (by rw [prtE, firstE_at h0 (fun k => absurd (h4.symm.trans k) (by decide)) hin]; exact h4.symm))
   ·have h4 : (fun i => freshE n (l.getD i 0) (l.take i)) i = 0 := by show freshE _ _ _ = 0; rw [freshE, if_neg (fun k => k h3), if_neg (by rw [hf]; decide)]
    refine cK (T_blk (cU (rm rfl (ro rfl (dJ (Ht rfl) (cZ 1) (by show _ < 9223372036854775808; first | omega | (simp only [lim]; omega))) (ra rfl (R_nil ?_))))))
    refine T_again (i + 1) ⟨hin, fun j h => by
     by_cases e : j = i
     ·rw [e]; exact h4
     ·exact h0 j (by omega)⟩ (by omega) (aQ rfl (aQ rfl (aQ rfl aX))) aU
 ·have hin : i = l.length := by simp only [decide_eq_false_iff_not] at hd; omega
  rw [hin] at h0
  refine T_exit rfl (ts (ro rfl (bY (cZ 0)) (R_nil (T_ret1 rfl (rv_to (rv_tmp rfl) ?_)))))
  exact (int_of (firstE_none h0).symm)
end
section
open Go Go.RowKit
def clr (A : List (List Qi)) (c i j : Nat) : Qi := if j < c ∧ j < i then 0 else gm A i j
def KerF (F : Nat → Nat → Qi) (n m : Nat) (x : Nat → Qi) : Prop := ∀ i, i < n → sumN m (fun k => F i k * x k) = 0
theorem kerF_congr {F G : Nat → Nat → Qi} {n m : Nat} {x : Nat → Qi} (h : ∀ i, i < n → ∀ j, j < m → F i j = G i j) : KerF F n m x ↔ KerF G n m x := by
  have e : ∀ i, i < n → sumN m (fun k => F i k * x k) = sumN m (fun k => G i k * x k) := fun i hi => sumN_congr fun k hk => by rw [h i hi k hk]
  exact ⟨fun k i hi => by rw [← e i hi]; exact k i hi, fun k i hi => by rw [e i hi]; exact k i hi⟩
def tau (p c i : Nat) : Nat := if i = c then p else if i = p then c else i
theorem tau_lt {p c i n : Nat} (hp : p < n) (hc : c < n) (hi : i < n) : tau p c i < n := by unfold tau; split <;> (try split) <;> omega
theorem tau_tau (p c i : Nat) : tau p c (tau p c i) = i := by
  unfold tau
  by_cases e1 : i = c
  · subst e1
    rw [if_pos rfl]
    by_cases e2 : p = i
    · rw [if_pos e2]; exact e2
    · rw [if_neg e2, if_pos rfl]
  · rw [if_neg e1]
    by_cases e2 : i = p
    · subst e2; rw [if_pos rfl, if_pos rfl]
    · rw [if_neg e2, if_neg e1, if_neg e2]
theorem kerF_tau {F : Nat → Nat → Qi} {n m p c : Nat} {x : Nat → Qi} (hp : p < n) (hc : c < n) : KerF (fun i => F (tau p c i)) n m x ↔ KerF F n m x :=
  ⟨fun h i hi => by have := h _ (tau_lt hp hc hi); simp only [tau_tau] at this; exact this, fun h i hi => h _ (tau_lt hp hc hi)⟩
theorem kerF_red {F G : Nat → Nat → Qi} {n m c : Nat} {x f : Nat → Qi} (hc : c < n) (hG : ∀ i, i < n → ∀ j, j < m → G i j = if c < i then F i j - f i * F c j else F i j) : KerF G n m x ↔ KerF F n m x := by
  have key : ∀ i, i < n → sumN m (fun k => G i k * x k) = if c < i then sumN m (fun k => F i k * x k) - f i * sumN m (fun k => F c k * x k) else sumN m (fun k => F i k * x k) := fun i hi => by
    by_cases e : c < i
    · rw [if_pos e, ← sumN_sub]
      exact sumN_congr fun k hk => by rw [hG i hi k hk, if_pos e]; grind
    · rw [if_neg e]
      exact sumN_congr fun k hk => by rw [hG i hi k hk, if_neg e]
  have kc := key c hc
  rw [if_neg (by omega)] at kc
  constructor
  · intro h i hi
    have h0 := h c hc
    rw [kc] at h0
    have h1 := h i hi
    rw [key i hi] at h1
    by_cases e : c < i
    · rw [if_pos e, h0] at h1; grind
    · rw [if_neg e] at h1; exact h1
  · intro h i hi
    rw [key i hi]
    by_cases e : c < i
    · rw [if_pos e, h i hi, h c hc]; grind
    · rw [if_neg e]; exact h i hi
theorem redM_gm {M : List (List Qi)} {n m c i j : Nat} (h : Shp M n m) (hi : i < n) (hj : j < m) : gm (redM M c n) i j = if c < i ∧ c < j then gm M i j - gm M i c / gm M c c * gm M c j else gm M i j := by
  have hr : (rw' M i).length = m := h.row hi
  have e0 : rw' (redM M c n) i = if c < i ∧ i < n then redR (rw' M i) (rw' M c) c (rw' M i).length else rw' M i := by
    simp only [rw', redM, List.getD]; rw [tab_get (by rw [h.1]; exact hi)]; rfl
  show gv (rw' (redM M c n) i) j = _
  rw [e0]
  by_cases e : c < i
  · rw [if_pos ⟨e, hi⟩, redR, gv_tab (by omega)]
    by_cases e2 : c < j
    · rw [if_pos ⟨e2, by omega⟩, if_pos ⟨e, e2⟩]
    · rw [if_neg (fun k => e2 k.1), if_neg (fun k => e2 k.2)]
  · rw [if_neg (fun k => e k.1), if_neg (fun k => e k.1)]
theorem clr_swp {A : List (List Qi)} {p c i j : Nat} (hc : c < A.length) (hp : p < A.length) (hcp : c ≤ p) : clr (swp [] A p c) c i j = clr A c (tau p c i) j := by
  have key : gm (swp [] A p c) i j = gm A (tau p c i) j := congrArg (fun r => gv r j) (swp_rw (by omega) (by omega))
  unfold clr
  rw [key]
  have e : (j < c ∧ j < i) ↔ (j < c ∧ j < tau p c i) := by unfold tau; split <;> (try split) <;> omega
  by_cases h : j < c ∧ j < i
  · rw [if_pos h, if_pos (e.1 h)]
  · rw [if_neg h, if_neg (fun k => h (e.2 k))]
structure EL (M A : List (List Qi)) (n m c : Nat) : Prop where
  sh : Shp A n m
  ker : ∀ x, KerF (clr A c) n m x ↔ KerF (gm M) n m x
theorem EL.next {M A : List (List Qi)} {n m c p : Nat} (h : EL M A n m c) (hc : c < n) (hcm : c < m) (hcp : c ≤ p) (hp : p < n) (hz : gm A p c ≠ 0) : EL M (redM (if p = c then A else swp [] A p c) c n) n m (c + 1) := by
  have hl := h.sh.1
  obtain ⟨B, hB⟩ : ∃ B, B = if p = c then A else swp [] A p c := ⟨_, rfl⟩
  have hs : Shp B n m := by
    rw [hB]; split
    · exact h.sh
    · exact swp_shp h.sh hp hc
  have hBk : ∀ x, KerF (clr B c) n m x ↔ KerF (gm M) n m x := fun x => by
    rw [hB]; split
    · exact h.ker x
    · exact (kerF_congr (G := fun i => clr A c (tau p c i)) fun i hi j hj => clr_swp (by omega) (by omega) hcp).trans ((kerF_tau hp hc).trans (h.ker x))
  have hBz : gm B c c ≠ 0 := by
    rw [hB]; split
    · rename_i e; rw [← e] at hz ⊢; exact hz
    · show gv (rw' (swp [] A p c) c) c ≠ 0
      rw [swp_at (by omega)]; exact hz
  rw [← hB]
  refine ⟨redM_shp hs, fun x => (kerF_red (f := fun i => gm B i c / gm B c c) hc fun i hi j hj => ?_).trans (hBk x)⟩
  have hd := div_eq (x := gm B i c) hBz
  unfold clr
  rw [redM_gm hs hi hj]
  by_cases e : c < i
  · rw [if_pos e]
    by_cases e1 : j < c
    · rw [if_pos (by omega), if_pos (by omega), if_pos (by omega)]; grind
    · by_cases e2 : j = c
      · subst e2
        rw [if_pos (by omega), if_neg (by omega), if_neg (by omega)]; grind
      · rw [if_neg (by omega), if_pos (by omega), if_neg (by omega), if_neg (by omega)]
  · rw [if_neg e, if_neg (show ¬ (c < i ∧ c < j) from fun k => e k.1)]
    by_cases e1 : j < i
    · rw [if_pos (show j < c + 1 ∧ j < i by omega), if_pos (show j < c ∧ j < i by omega)]
    · rw [if_neg (show ¬ (j < c + 1 ∧ j < i) by omega), if_neg (show ¬ (j < c ∧ j < i) by omega)]
end
section
open Go Go.RowKit
def gq (ps : List (Nat × Nat)) (x : Nat) : Nat := if x % 2 = 0 then pA ps (x / 2) else pB ps (x / 2)
theorem gq_even (ps : List (Nat × Nat)) (k : Nat) : gq ps (2 * k) = pA ps k := by unfold gq; rw [if_pos (by omega), show 2 * k / 2 = k by omega]
theorem gq_odd (ps : List (Nat × Nat)) (k : Nat) : gq ps (2 * k + 1) = pB ps k := by unfold gq; rw [if_neg (by omega), show (2 * k + 1) / 2 = k by omega]
structure Jn (ps : List (Nat × Nat)) (n K : Nat) : Prop where
  lt : ∀ x, x < 2 * K → gq ps x < n
  inj : ∀ x y, x < 2 * K → y < 2 * K → gq ps x = gq ps y → x = y
theorem Jn.le {ps : List (Nat × Nat)} {n K k : Nat} (h : Jn ps n K) (hk : k ≤ K) : Jn ps n k := ⟨fun x hx => h.lt x (by omega), fun x y hx hy => h.inj x y (by omega) (by omega)⟩
end
section
open Go Go.RowKit
def jfl (js : List (Int × Int)) : List Int := js.flatMap fun q => [q.1, q.2]
def jps (js : List (Int × Int)) : List (Nat × Nat) := js.map fun q => ((q.1 - 1).toNat, (q.2 - 1).toNat)
abbrev jat (js : List (Int × Int)) (k : Nat) : Int × Int := js.getD k (0, 0)
theorem jfl_app (a b : List (Int × Int)) : jfl (a ++ b) = jfl a ++ jfl b := by simp [jfl]
theorem jfl_take {js : List (Int × Int)} {k : Nat} (h : k < js.length) : jfl (js.take (k + 1)) = jfl (js.take k) ++ [(jat js k).1, (jat js k).2] := by
  rw [List.take_succ_eq_append_getElem h, jfl_app]
  simp [jfl, jat, List.getD, h]
theorem jfl_len : ∀ (js : List (Int × Int)), (jfl js).length = 2 * js.length
  | [] => rfl
  | q :: r => by
    have := jfl_len r
    have e : jfl (q :: r) = q.1 :: q.2 :: jfl r := rfl
    rw [e, List.length_cons, List.length_cons, List.length_cons, this]; omega
theorem jfl_get : ∀ (js : List (Int × Int)) {x : Nat}, x < 2 * js.length → (jfl js).getD x 0 = if x % 2 = 0 then (jat js (x / 2)).1 else (jat js (x / 2)).2
  | [], x, h => by simp at h
  | q :: r, 0, _ => rfl
  | q :: r, 1, _ => rfl
  | q :: r, x + 2, h => by
    have ih := jfl_get r (x := x) (by simp only [List.length_cons] at h; omega)
    have e : jfl (q :: r) = q.1 :: q.2 :: jfl r := rfl
    rw [e]
    show (jfl r).getD x 0 = _
    rw [ih, show (x + 2) % 2 = x % 2 by omega, show (x + 2) / 2 = x / 2 + 1 by omega]
    rfl
theorem jps_at {js : List (Int × Int)} {k : Nat} (h : k < js.length) : pA (jps js) k = ((jat js k).1 - 1).toNat ∧ pB (jps js) k = ((jat js k).2 - 1).toNat := by
  simp [pA, pB, jps, jat, List.getD, h]
theorem jgq {js : List (Int × Int)} {x : Nat} (h : x < 2 * js.length) : gq (jps js) x = ((jfl js).getD x 0 - 1).toNat := by
  have h2 : x / 2 < js.length := by omega
  rw [jfl_get js h, gq, (jps_at h2).1, (jps_at h2).2]
  split <;> rfl
theorem prtE_app {n : Nat} {A : List Int} (h : prtE n A = 0) (a : Int) : prtE n (A ++ [a]) = freshE n a A := by
  rw [prtE, List.length_append, List.length_singleton]
  have e : firstE (fun i => freshE n ((A ++ [a]).getD i 0) ((A ++ [a]).take i)) A.length = 0 := firstE_none fun i hi => by
    have := firstE_zero h i hi
    rw [List.take_append_of_le_length (by omega)]
    have e2 : (A ++ [a]).getD i 0 = A.getD i 0 := by simp [List.getD, List.getElem?_append_left hi]
    rw [e2]; exact this
  rw [firstE, e, if_neg (by simp), List.take_append_of_le_length (Nat.le_refl _), List.take_length]
  congr 1
  simp [List.getD]
theorem prtE_app2 {n : Nat} {A : List Int} (h : prtE n A = 0) (a b : Int) : prtE n (A ++ [a, b]) = if freshE n a A ≠ 0 then freshE n a A else freshE n b (A ++ [a]) := by
  have e : A ++ [a, b] = (A ++ [a]) ++ [b] := by simp
  by_cases c : freshE n a A = 0
  · rw [if_neg (fun k => k c), e, prtE_app (by rw [prtE_app h]; exact c)]
  · rw [if_pos c]
    have h1 : firstE (fun i => freshE n ((A ++ [a, b]).getD i 0) ((A ++ [a, b]).take i)) A.length = 0 := firstE_none fun i hi => by
      have := firstE_zero h i hi
      rw [List.take_append_of_le_length (by omega)]
      have e2 : (A ++ [a, b]).getD i 0 = A.getD i 0 := by simp [List.getD, List.getElem?_append_left hi]
      rw [e2]; exact this
    have h2 : freshE n ((A ++ [a, b]).getD A.length 0) ((A ++ [a, b]).take A.length) = freshE n a A := by
      rw [List.take_append_of_le_length (Nat.le_refl _), List.take_length]
      congr 1
      simp [List.getD]
    rw [prtE, firstE_at (k := A.length) (fun i hi => firstE_zero h1 i hi) (by rw [h2]; exact c) (by simp)]
    exact h2
theorem fresh_not {n : Nat} {p : Int} {o : List Int} (h : freshE n p o = 0) : p ∉ o := fun hm => by
  have h1 := fresh_ok h
  unfold freshE at h
  rw [if_neg (fun k => k h1), if_pos (List.any_eq_true.2 ⟨p, hm, by simp⟩)] at h
  omega
theorem prt_inj {n : Nat} {l : List Int} (h : prtE n l = 0) {x y : Nat} (hx : x < l.length) (hy : y < l.length) (e : l.getD x 0 = l.getD y 0) : x = y := by
  have key : ∀ x y, x < y → y < l.length → l.getD x 0 ≠ l.getD y 0 := fun x y hxy hy e => by
    refine fresh_not (firstE_zero h y hy) ?_
    rw [← e]
    have e2 : l.getD x 0 = l[x]'(by omega) := by simp [List.getD, show x < l.length by omega]
    rw [e2]
    exact List.mem_take_iff_getElem.2 ⟨x, by omega, rfl⟩
  rcases Nat.lt_trichotomy x y with c | c | c
  · exact absurd e (key x y c hy)
  · exact c
  · exact absurd e.symm (key y x c hx)
end
section
open Go Go.RowKit
theorem unit_gm {n i j : Nat} (hi : i < n) (hj : j < n) : gm (idM n) i j = if i = j then 1 else 0 := by
  show gv ((idM n).getD i []) j = _
  rw [idM, tab_getD hi, unitR, gv_set (by rw [tab_len]; exact hi)]
  by_cases e : j = i
  · subst e; rw [if_pos rfl, if_pos rfl]; rfl
  · rw [if_neg e, if_neg (Ne.symm e), gv_tab hj]; rfl
theorem mat_ext {a b : List (List Qi)} {n m : Nat} (ha : Shp a n m) (hb : Shp b n m) (h : ∀ i, i < n → ∀ j, j < m → gm a i j = gm b i j) : a = b := by
  rw [mat_tab ha, mat_tab hb]
  exact tab_congr fun i hi => tab_congr fun j hj => h i hi j hj
theorem neg_one : Qi.ofInt (-1) = -1 := rfl
end
section
open Go Go.RowKit
def pl2 (q : Int × Int) : List Int := [q.1, q.2]
abbrev JT (q : Int × Int) : Ty := AggT [IntT .i64 q.1, IntT .i64 q.2]
abbrev JsT (js : List (Int × Int)) : Ty := SlT 2 (js.map JT)
theorem pl2_get {q : Int × Int} : ∀ {i : Nat}, i < 2 → ([IntT .i64 q.1, IntT .i64 q.2] : List Ty)[i]? = some (IntT .i64 ((pl2 q).getD i 0))
  | 0, _ => rfl
  | 1, _ => rfl
theorem pl2_take {q : Int × Int} : ∀ {i : Nat}, i < 2 → (pl2 q).take (i + 1) = (pl2 q).take i ++ [(pl2 q).getD i 0]
  | 0, _ => rfl
  | 1, _ => rfl
abbrev jpE (z : List Qi) (js : List (Int × Int)) (k i : Nat) : Int := freshE z.length ((pl2 (jat js k)).getD i 0) (jfl (js.take k) ++ (pl2 (jat js k)).take i)
theorem pig : ∀ {n m : Nat} {f : Nat → Nat}, (∀ x, x < m → f x < n) → (∀ x y, x < m → y < m → f x = f y → x = y) → m ≤ n
  | 0, m, f, h, _ => by
    cases m with
    | zero => exact Nat.le_refl 0
    | succ m => exact absurd (h 0 (by omega)) (by omega)
  | n + 1, 0, _, _, _ => by omega
  | n + 1, k + 1, f, h, i => by
    have := pig (n := n) (m := k) (f := fun x => if f x = n then f k else f x) (fun x hx => by
      have h1 := h x (by omega)
      have h2 := h k (by omega)
      by_cases c : f x = n
      · simp only [if_pos c]
        have : f k ≠ n := fun e => by have := i x k (by omega) (by omega) (by rw [c, e]); omega
        omega
      · simp only [if_neg c]; omega) (fun x y hx hy e => by
      by_cases c : f x = n <;> by_cases d : f y = n
      · exact i x y (by omega) (by omega) (by rw [c, d])
      · simp only [if_pos c, if_neg d] at e
        have := i k y (by omega) (by omega) e; omega
      · simp only [if_neg c, if_pos d] at e
        have := i x k (by omega) (by omega) e; omega
      · simp only [if_neg c, if_neg d] at e
        exact i x y (by omega) (by omega) e)
    omega
theorem jr_in {js : List (Int × Int)} {n k : Nat} (h : prtE n (jfl (js.take (k + 1))) = 0) (hk : k < js.length) : (1 ≤ (jat js k).1 ∧ (jat js k).1 ≤ n) ∧ (1 ≤ (jat js k).2 ∧ (jat js k).2 ≤ n) := by
  rw [jfl_take hk] at h
  exact ⟨prt_in h _ (by simp), prt_in h _ (by simp)⟩
end
section
open Go Go.RowKit
section
variable {P : Program} {n : Nat} {E : Env} {H : Hp}
variable {d : Option Tmp} {t : TypeId} {pos : String} {af : Array Edge} {g : Option (Nat × Bool)}
theorem op_lendI {f : FuncId} {xs : List Operand} {tys : Array TypeId} {Ts : List Ty} {U T0 T1 : Ty} {A : SA} {j tt : Nat} (hc : ∀ args w, (callFunc f args).run P w = .ok (.enter f args) w) (hF : Fun P f Ts U)
    (hA : H[j]? = some A) (hl : look E tt = some T0) (hz : ∀ v S V, T0.p v V → A.h S V V → T1.p v V) (hU : ∀ v V V', U.p v V → U.p v V') (ha : Args ((tt, T1) :: E) xs Ts) :
    OpTy P n E H ⟨d, .call ⟨.value (.func f), xs.toArray, tys⟩, t, pos, af, g⟩ U := fun cx X a w V hi hs K Q hK => by
  have hrun : (execOp a.eval ⟨d, .call ⟨.value (.func f), xs.toArray, tys⟩, t, pos, af, g⟩).run P w = .ok (.enter f (xs.map a.eval).toArray) w := by
    simp [execOp, resolve, Act.eval, Deferred.ofValue, invoke, hc]
  simp only [Oper.wp, hrun, Oper.upon_enter]
  obtain ⟨F, h1, h2⟩ := hi.hp
  have hjl := (List.getElem?_eq_some_iff.1 hA).1
  obtain ⟨k1, k2⟩ := h1 j A (by rw [List.getElem?_append_left hjl]; exact hA)
  let V1 : View := fun b => if b ∈ F j then w.heap[b]? else V b
  have hle : VLe V V1 := fun b o hb => by
    have : b ∉ F j := fun hf => by have := (k2 b hf).1; rw [hb] at this; cases this
    simp only [V1, if_neg this]; exact hb
  have hon : ∀ b o, V1 b = some o → w.heap[b]? = some o := fun b o hb => by
    by_cases hf : b ∈ F j
    · simp only [V1, if_pos hf] at hb; exact hb
    · simp only [V1, if_neg hf] at hb; exact hi.on b o hb
  have hA1 : A.h (F j) V1 V1 := A.mono (A.loc k1 fun b hb => by simp only [V1, if_pos hb]; rfl) hle
  have hsl : Slots n ((tt, T1) :: E) V1 a := by
    have hs' := hs.mono hle
    refine ⟨hs'.1, hs'.2.1, fun t' T hT => ?_⟩
    rw [look_cons] at hT
    by_cases e : tt = t'
    · subst e
      rw [if_pos rfl] at hT; obtain rfl := Option.some.inj hT
      obtain ⟨v, q1, q2⟩ := hs'.2.2 _ _ hl
      exact ⟨v, q1, hz v (F j) V1 q2 hA1⟩
    · rw [if_neg e] at hT; exact hs'.2.2 t' T hT
  refine (hF _ V1 w hon (Args.all hsl ha)).mono ?_
  rintro e w' ⟨v, V', rfl, m1, m2, m3, m4, m5⟩
  exact hK v w' V (hi.after (VLe.refl V) (fun b o hb => m2 b o (m1 b o (hle b o hb))) (fun b o hb h0 => by rw [hb] at h0; cases h0) m4) (VLe.refl V) (hU v V' V m5)
theorem op_indexA {x i : Operand} {q : Nat} {Ts : List Ty} {T : Ty} {kd : IntKind} {e : TypeId} {len : Nat} (hU : ∀ w, (underlying t).run P w = .ok (.array len e) w) (hS : ∀ w, (sizeOf e).run P w = .ok 1 w) (hg : ∀ w, (isAgg e).run P w = .ok false w)
    (hx : Has E x (AggT Ts)) (hi : Has E i (NT kd q)) (hl : q < len) (hT : Ts[q]? = some T) {t' : TypeId} : OpTy P n E H ⟨d, .index t x i, t', pos, af, g⟩ T :=
  op_pure fun a V w hs => by
    obtain ⟨vs, e1, e4⟩ := hx n V a hs
    have ei : a.eval i = .int kd (q : Int) := hi n V a hs
    obtain ⟨u, e5, e6⟩ := e4.all.get hT
    exact ⟨u, by simp [execOp, e1, ei, Instr.index, asIntOf, Sem.run_bind, hU, hS, hg, part, Result.andThen, hl, e5], e6⟩
end
end
section
open Go Go.RowKit
theorem set_getF {l : List Qi} {k : Nat} {z : Qi} (h : k < l.length) : ((l.set k z).map QT)[k]? = some (QT z) := by rw [List.getElem?_map, List.getElem?_set_self h]; rfl
set_option maxRecDepth 20000 in
theorem c_rProdO {a b : List (List Qi)} {n k m L M : Nat} (ha : Shp a n k) (hb : Shp b k m) (hfa : FitM a L) (hfb : FitM b M) (hL1 : 1 ≤ L) (hM1 : 1 ≤ M) (hL : L ≤ 900000000000) (hM : M ≤ 900000000000) (hn1 : 1 ≤ n) (hk1 : 1 ≤ k) (hn : n ≤ 8) (hk : k ≤ 8) (hm : m ≤ 8) : FunO Tryz.prog 115 [QM a, QM b] [] (Nat) (fun B => TupT [Is (.slice (some ⟨B, 0, none⟩) n n), IntT .i64 0]) (fun B => [matP exactH B 31 98 5 (FRow QT (mulM a b n k m))]) (fun _ => True) := by
 have hal := ha.1
 have hbl := hb.1
 refine FunO.intro Tryz.func115 rfl Tryz.ntmps115 rfl (fun cx Z => (ts (ro rfl (bY cJ) (ro rfl (bY (cZ 0)) (R_nil (cG (ts (rm rfl (ro rfl (cX Tryz.call214 (c_rValid ha (by omega) (by omega)) ⟨(Ht rfl), trivial⟩) (ro rfl (op_not (Ht rfl)) (rm rfl (R_step rfl rfl (S_when rfl rfl (Ht rfl) (fun h => cQ (Ht rfl))) (R_step rfl rfl (S_when rfl rfl (Ht rfl) (fun h => cX Tryz.call214 (c_rValid hb (by omega) (by omega)) ⟨(Has.w rfl h), trivial⟩)) (R_step rfl rfl (S_when rfl rfl (Ht rfl) (fun h => op_not (Has.w rfl h))) (ro rfl (op_or (Ht rfl) (fun h => (Has.w rfl h))) ?_)))))))))))))))
 refine rm rfl (R_step rfl rfl (S_when rfl rfl (Ht rfl) (fun h => cQ (Ht rfl))) (R_step rfl rfl (S_when rfl rfl (Ht rfl) (fun h => cX Tryz.call215 (c_rColumns ha hn1) ⟨(Has.w rfl h), trivial⟩)) (R_step rfl rfl (S_when rfl rfl (Ht rfl) (fun h => cQ (Ht rfl))) (R_step rfl rfl (S_when rfl rfl (Ht rfl) (fun h => dW U_32 (Has.w rfl h) (by rw [List.length_map, hbl]))) ?_))))
 refine R_step rfl rfl (S_when rfl rfl (Ht rfl) (fun h => op_neqN (Has.w rfl h) (Has.w rfl h))) (ro rfl (op_or (Ht rfl) (fun h => (Has.w rfl h))) (R_nil (T_condF (Ht rfl) (by simp) ?_)))
 refine cK (ts (rm rfl (ro rfl (dW U_32 (Ht rfl) (by rw [List.length_map, hal])) ?_)))
 refine rm rfl (ro rfl (cX Tryz.call215 (c_rColumns hb hk1) ⟨(Ht rfl), trivial⟩) (R_call0 Tryz.call138 (c_ZerosO (n := n) (m := m) (by omega) (by omega)) ⟨(Ht rfl), (Ht rfl), trivial⟩ rfl (fun B29 _ => (ra rfl (R_nil (cG (ts (ro rfl (bY (cZ 0)) (R_nil (T_block ?_))))))))))
 refine T_loop (fun (i : Nat) => i ≤ n) (fun (i : Nat) => n - i) (fun (i : Nat) => [(0, QM a), (1, QM b), (6, Is (.slice (some ⟨B29, 0, none⟩) n n)), (7, NT .i64 i)]) (fun (i : Nat) => [Z, matP exactH B29 31 98 5 (FRow QT (mixT (fun r => tab m fun x => dotN a b k r x) (tab m fun _ => Qi.zero) n i))]) 0 (Nat.zero_le _)
  (aQ rfl (aQ rfl (aQ rfl (aQ rfl aX)))) (aK (fun _ _ _ h => h) (aK (matO_of (by rw [zeroM, mix_zero])) aU)) (fun i hi => ?_)
 refine cG (ts (rm rfl (rm rfl (ro rfl (dW U_32 (Ht rfl) (by rw [List.length_map, hal])) ?_))))
 refine ro rfl (op_lssN (Ht rfl) (Ht rfl)) (R_nil (cY (Ht rfl) (fun hd => ?_) (fun hd => ?_)))
 ·have hin : i < n := by simp only [decide_eq_true_eq] at hd; omega
  have har := ha.row hin
  refine T_focusE 1 (i) rfl (frow_mix hin) (fun v0 hv0 => (cK (cG (T_block (ts (ro rfl (bY (cZ 0)) (R_nil (T_block ?_))))))))
  refine T_loop (fun (x : Nat) => x ≤ m) (fun (x : Nat) => m - x) (fun (x : Nat) => [(0, QM a), (1, QM b), (6, Is (.slice (some ⟨B29, 0, none⟩) n n)), (7, NT .i64 i), (8, NT .i64 x)]) (fun (x : Nat) => [Z, matQ exactH B29 31 98 5 (FRow QT (mixT (fun r => tab m fun x => dotN a b k r x) (tab m fun _ => Qi.zero) n i)) i v0, rowO 98 5 v0 ((mixT (fun x => dotN a b k i x) Qi.zero m x).map QT)]) 0 (Nat.zero_le _)
   (aQ rfl (aQ rfl (aQ rfl (aQ rfl (aQ rfl aX))))) (aK (fun _ _ _ h => h) (aK (fun _ _ _ h => h) (aK (rowO_of (by rw [← mix_zero])) aU))) (fun x hx => ?_)
  refine cG (ts (rm rfl (rm rfl (ro rfl (cX Tryz.call215 (c_rColumns hb hk1) ⟨(Ht rfl), trivial⟩) (ro rfl (op_lssN (Ht rfl) (Ht rfl)) (R_nil (cY (Ht rfl) (fun hc => ?_) (fun hc => ?_))))))))
  ·have hxm : x < m := by simp only [decide_eq_true_eq] at hc; omega
   have hrl := mix_len (fun x => dotN a b k i x) Qi.zero m x
   refine cK (cG (T_block (ts (ro rfl (bY (cZ 0)) (R_nil (T_block ?_))))))
   refine T_loop (fun (j : Nat) => j ≤ k) (fun (j : Nat) => k - j) (fun (j : Nat) => [(0, QM a), (1, QM b), (6, Is (.slice (some ⟨B29, 0, none⟩) n n)), (7, NT .i64 i), (8, NT .i64 x), (9, NT .i64 j)]) (fun (j : Nat) => [Z, matQ exactH B29 31 98 5 (FRow QT (mixT (fun r => tab m fun x => dotN a b k r x) (tab m fun _ => Qi.zero) n i)) i v0, rowO 98 5 v0 (((mixT (fun x => dotN a b k i x) Qi.zero m x).set x (sumN j fun t => gm a i t * gm b t x)).map QT)]) 0 (Nat.zero_le _)
    (aQ rfl (aQ rfl (aQ rfl (aQ rfl (aQ rfl (aQ rfl aX)))))) (aK (fun _ _ _ h => h) (aK (fun _ _ _ h => h) (aK (rowO_of (by rw [show sumN 0 (fun t => gm a i t * gm b t x) = Qi.zero from rfl, mix_set0 hxm])) aU))) (fun j hj => ?_)
   refine cG (ts (rm rfl (rm rfl (ro rfl (dW U_32 (Ht rfl) (by rw [List.length_map, hbl])) ?_))))
   refine ro rfl (op_lssN (Ht rfl) (Ht rfl)) (R_nil (cY (Ht rfl) (fun hb2 => ?_) (fun hb2 => ?_)))
   ·have hjk : j < k := by simp only [decide_eq_true_eq] at hb2; omega
    have hbr := hb.row hjk
    haveI f1 : FitC (gm a i j) L := hfa.get hL1 i j
    haveI f2 : FitC (gm b j x) M := hfb.get hM1 j x
    haveI f3 : FitC (sumN j fun t => gm a i t * gm b t x) (1 + j * (L + M + 1 + 1)) := FitC.sum (L := L + M + 1) fun t _ => by haveI := hfa.get hL1 i t; haveI := hfb.get hM1 t x; exact fitMul
    have hjm : j * (L + M + 1 + 1) ≤ 8 * (L + M + 2) := Nat.mul_le_mul (by omega) (Nat.le_refl _)
    have hsl : ((mixT (fun x => dotN a b k i x) Qi.zero m x).set x (sumN j fun t => gm a i t * gm b t x)).length = m := by rw [List.length_set]; exact hrl
    refine cK (cG (T_block (C.D_start (m := 28) (dp 6 rfl (cQ (Ht rfl)) (dp 7 rfl (cQ (Ht rfl)) (dqq 48 0 49 1 rfl (op_idxB U_32 Z_31 (Ht rfl) (Ht rfl) rfl (by omega) (by rw [Nat.mul_one, Nat.zero_add])) ?_))))))
    refine dq 50 2 rfl (op_ldH A_31 Z_31 (Ht rfl) (j := 1) rfl) (dp 8 rfl (cQ (Ht rfl)) (dp 6 rfl (cQ (Ht rfl)) (dp 7 rfl (cQ (Ht rfl)) (dqq 53 5 54 6 rfl (op_idxB U_32 Z_31 (Ht rfl) (Ht rfl) rfl (by omega) (by rw [Nat.mul_one, Nat.zero_add])) ?_))))
    refine dq 55 7 rfl (op_ldH A_31 Z_31 (Ht rfl) (j := 1) rfl) (dp 8 rfl (cQ (Ht rfl)) (dqq 56 8 57 9 rfl (op_idxO U_31 Z_98 (Ht rfl) (Ht rfl) rfl (i := 2) rfl (by rw [List.length_map, hsl]; exact hxm) rfl) ?_))
    refine dq 58 10 rfl (op_ldO A_98 Z_98 (Ht rfl) (i := 2) rfl rfl (set_getF (by rw [hrl]; exact hxm))) ?_
    refine dp 0 rfl (cQ (Ht rfl)) (dp 7 rfl (cQ (Ht rfl)) (dqq 60 12 61 13 rfl (dX U_32 Z_31 (Ht rfl) (Ht rfl) rfl (dU (dK (d := []) (by omega)))) (dq 62 14 rfl (dZ A_31 Z_31 (Ht rfl)) (dp 9 rfl (cQ (Ht rfl)) (dqq 63 15 64 16 rfl (dX U_31 Z_98 (Ht rfl) (Ht rfl) rfl (dU (dK (d := Qi.zero) (by omega)))) (dq 65 17 rfl (dZ A_98 Z_98 (Ht rfl)) (dp 1 rfl (cQ (Ht rfl)) (dp 9 rfl (cQ (Ht rfl)) (dqq 67 19 68 20 rfl (dX U_32 Z_31 (Ht rfl) (Ht rfl) rfl (dU (dK (d := []) (by omega)))) ?_)))))))))
    refine dq 69 21 rfl (dZ A_31 Z_31 (Ht rfl)) (dp 8 rfl (cQ (Ht rfl)) (dqq 70 22 71 23 rfl (dX U_31 Z_98 (Ht rfl) (Ht rfl) rfl (dU (dK (d := Qi.zero) (by omega)))) (dq 72 24 rfl (dZ A_98 Z_98 (Ht rfl)) (dqq 66 18 73 25 rfl (cX K_99 (c_rMul (x := gm a i j) (y := gm b j x) (L := L) (M := M) (by omega)) ⟨(Ht rfl), (Ht rfl), trivial⟩) (dqq 59 11 74 26 rfl (cX Tryz.call159 (c_rAdd (x := (sumN j fun t => gm a i t * gm b t x)) (y := gm a i j * gm b j x) (L := 1 + j * (L + M + 1 + 1)) (M := L + M + 1) (by omega)) ⟨(Ht rfl), (Ht rfl), trivial⟩) ?_)))))
    refine C.D_done mixed rfl (by kernel_rfl) (aJ (aJ (aJ (aJ (aJ (aJ (aJ (aJ (aJ (aJ (aJ (aJ (aJ (aJ (aJ (aJ (aJ (aJ (aJ (aJ (aJ (aJ (aJ (aJ (aJ (aJ (aJ (aJ (aV (ro rfl (op_idxO U_31 Z_98 (Ht rfl) (Ht rfl) rfl (i := 2) rfl (by rw [List.length_map, hsl]; exact hxm) rfl) ?_))))))))))))))))))))))))))))))
    refine R_stO Z_98 (Ht rfl) (Ht rfl) (El.ag rfl) (i := 2) rfl rfl (by rw [List.length_map, hsl]; exact hxm) rfl ?_
    refine R_nil (T_blk (cU (rm rfl (ro rfl (dJ (Ht rfl) (cZ 1) (by show _ < 9223372036854775808; first | omega | (simp only [lim]; omega))) (ra rfl (R_nil (T_again (j + 1) hjk (by omega) (aQ rfl (aQ rfl (aQ rfl (aQ rfl (aQ rfl (aQ rfl aX)))))) (aK (fun _ _ _ h => h) (aK (fun _ _ _ h => h) (aK (rowO_of (by rw [set_mapF, List.set_set]; rfl)) aU))))))))))
   ·have hjk : j = k := by simp only [decide_eq_false_iff_not] at hb2; omega
    subst hjk
    refine T_exit rfl (T_blk (cU (rm rfl (ro rfl (dJ (Ht rfl) (cZ 1) (by show _ < 9223372036854775808; first | omega | (simp only [lim]; omega))) (ra rfl (R_nil (T_again (x + 1) hxm (by omega) (aQ rfl (aQ rfl (aQ rfl (aQ rfl (aQ rfl aX))))) (aK (fun _ _ _ h => h) (aK (fun _ _ _ h => h) (aK (rowO_of (congrArg _ (mix_set (f := fun x => dotN a b j i x)))) aU))))))))))
  ·have hxm : x = m := by simp only [decide_eq_false_iff_not] at hc; omega
   subst hxm
   rw [mix_fin]
   refine T_exit rfl (T_blk (T_unfocus 1 2 rfl rfl (by decide) (by simp only [FRow, List.length_map, mix_len]; omega) ?_))
   refine cU (rm rfl (ro rfl (dJ (Ht rfl) (cZ 1) (by show _ < 9223372036854775808; first | omega | (simp only [lim]; omega))) (ra rfl (R_nil (T_keep [0, 1] rfl (by decide) (T_again (i + 1) hin (by omega) (aQ rfl (aQ rfl (aQ rfl (aQ rfl aX)))) (aK (fun _ _ _ h => h) (aK (matO_of (by rw [set_FRow]; exact congrArg _ (mix_set (f := fun r => tab x fun c => dotN a b k r c)))) aU))))))))
 ·have hin : i = n := by simp only [decide_eq_false_iff_not] at hd; omega
  subst hin
  rw [mix_fin]
  refine T_exit rfl (ts (rm rfl (ra rfl (ro rfl (bY (cZ 0)) (R_nil ?_)))))
  exact T_retO B29 trivial [0, 1] ⟨⟨_, rfl, fun _ _ _ h => h⟩, ⟨_, rfl, fun _ _ _ h => h⟩, trivial⟩ (by decide) (rvs2 rfl (rv_tmp rfl) (rv_tmp rfl))
theorem c_rProd {a b : List (List Qi)} {n k m L M : Nat} (ha : Shp a n k) (hb : Shp b k m) (hfa : FitM a L) (hfb : FitM b M) (hL1 : 1 ≤ L) (hM1 : 1 ≤ M) (hL : L ≤ 900000000000) (hM : M ≤ 900000000000) (hn1 : 1 ≤ n) (hk1 : 1 ≤ k) (hn : n ≤ 8) (hk : k ≤ 8) (hm : m ≤ 8) : Fun Tryz.prog 115 [QM a, QM b] (TupT [QM (mulM a b n k m), IntT .i64 0]) := (c_rProdO ha hb hfa hfb hL1 hM1 hL hM hn1 hk1 hn hk hm).fun fun B _ v S V h1 h2 => tup1 h1 fun u hu => frz_matF (s := 5) (M := mulM a b n k m) mulM_shp.1.symm u S V hu h2
end
section
open Go Go.RowKit
theorem fit_p1 : FitC (Qi.ofInt 1) 1 := fit_one
theorem fit_m1 : FitC (Qi.ofInt (-1)) 1 := by haveI := fit_one; exact (fitNeg : FitC (-(Qi.ofInt 1)) 1)
end
section
open Go Go.RowKit
def moE1 (φ : Qi → Qi → Bool) (z : List Qi) (js : List (Int × Int)) (k : Nat) : Int :=
  if freshE z.length (jat js k).1 (jfl (js.take k)) ≠ 0 then freshE z.length (jat js k).1 (jfl (js.take k))
  else if freshE z.length (jat js k).2 (jfl (js.take k) ++ [(jat js k).1]) ≠ 0 then freshE z.length (jat js k).2 (jfl (js.take k) ++ [(jat js k).1])
  else if φ (gv z ((jat js k).1 - 1).toNat) (gv z ((jat js k).2 - 1).toNat) = true then 0 else 40
def moE (φ : Qi → Qi → Bool) (z : List Qi) (js : List (Int × Int)) : Int := firstE (moE1 φ z js) js.length
section
variable {φ : Qi → Qi → Bool} {z : List Qi} {js : List (Int × Int)}
theorem mo_zero {k : Nat} (h : moE1 φ z js k = 0) : freshE z.length (jat js k).1 (jfl (js.take k)) = 0 ∧ freshE z.length (jat js k).2 (jfl (js.take k) ++ [(jat js k).1]) = 0 ∧ φ (gv z ((jat js k).1 - 1).toNat) (gv z ((jat js k).2 - 1).toNat) = true := by
  unfold moE1 at h
  by_cases c1 : freshE z.length (jat js k).1 (jfl (js.take k)) = 0
  · rw [if_neg (fun k => k c1)] at h
    by_cases c2 : freshE z.length (jat js k).2 (jfl (js.take k) ++ [(jat js k).1]) = 0
    · rw [if_neg (fun k => k c2)] at h
      by_cases c3 : φ (gv z ((jat js k).1 - 1).toNat) (gv z ((jat js k).2 - 1).toNat) = true
      · exact ⟨c1, c2, c3⟩
      · rw [if_neg c3] at h; omega
    · rw [if_pos c2] at h; exact absurd h c2
  · rw [if_pos c1] at h; exact absurd h c1
theorem mopr : ∀ {k : Nat}, k ≤ js.length → (∀ j, j < k → moE1 φ z js j = 0) → prtE z.length (jfl (js.take k)) = 0
  | 0, _, _ => rfl
  | k + 1, hk, h => by
    have ih := mopr (k := k) (by omega) fun j hj => h j (by omega)
    obtain ⟨h1, h2, _⟩ := mo_zero (h k (by omega))
    rw [jfl_take (by omega), prtE_app2 ih, if_neg (fun k => k h1)]; exact h2
theorem mo_prt1 {k : Nat} (hk : k < js.length) (h : ∀ j, j < k → moE1 φ z js j = 0) : moE1 φ z js k = if prtE z.length (jfl (js.take (k + 1))) ≠ 0 then prtE z.length (jfl (js.take (k + 1))) else if φ (gv z ((jat js k).1 - 1).toNat) (gv z ((jat js k).2 - 1).toNat) = true then 0 else 40 := by
  have hp := mopr (Nat.le_of_lt hk) h
  rw [jfl_take hk, prtE_app2 hp, moE1]
  by_cases c1 : freshE z.length (jat js k).1 (jfl (js.take k)) = 0
  · simp only [c1, ne_eq, not_true_eq_false, if_false]
  · simp only [c1, ne_eq, not_false_eq_true, if_true]
theorem mo_prt (h : moE φ z js = 0) : prtE z.length (jfl js) = 0 := by
  have := mopr (φ := φ) (z := z) (Nat.le_refl js.length) (firstE_zero h)
  rwa [List.take_length] at this
theorem prt_jn {n : Nat} (hp : prtE n (jfl js) = 0) : Jn (jps js) n js.length := by
  have hl := jfl_len js
  have hr : ∀ x, x < 2 * js.length → 1 ≤ (jfl js).getD x 0 ∧ (jfl js).getD x 0 ≤ n := fun x hx => prt_in hp _ (by
    rw [show (jfl js).getD x 0 = (jfl js)[x]'(by omega) by simp [List.getD, show x < (jfl js).length by omega]]; exact List.getElem_mem _)
  refine ⟨fun x hx => ?_, fun x y hx hy e => ?_⟩
  · rw [jgq hx]; have := hr x hx; omega
  · rw [jgq hx, jgq hy] at e
    have h1 := hr x hx; have h2 := hr y hy
    exact prt_inj hp (by omega) (by omega) (by omega)
theorem mo_a {k : Nat} : ∀ {i : Nat}, i < 2 → (∀ x, x < i → jpE z js k x = 0) → jpE z js k i ≠ 0 → moE1 φ z js k = jpE z js k i
  | 0, _, _, h => by
    have e : jpE z js k 0 = freshE z.length (jat js k).1 (jfl (js.take k)) := by simp [jpE, pl2]
    rw [e] at h ⊢
    rw [moE1, if_pos h]
  | 1, _, h0, h => by
    have e0 : jpE z js k 0 = freshE z.length (jat js k).1 (jfl (js.take k)) := by simp [jpE, pl2]
    have e : jpE z js k 1 = freshE z.length (jat js k).2 (jfl (js.take k) ++ [(jat js k).1]) := by simp [jpE, pl2]
    have h1 := h0 0 (by omega)
    rw [e0] at h1
    rw [e] at h ⊢
    rw [moE1, if_neg (fun k => k h1), if_pos h]
theorem mo_b {k : Nat} (h : ∀ x, x < 2 → jpE z js k x = 0) : (1 ≤ (jat js k).1 ∧ (jat js k).1 ≤ z.length) ∧ (1 ≤ (jat js k).2 ∧ (jat js k).2 ≤ z.length) ∧
    moE1 φ z js k = if φ (gv z ((jat js k).1 - 1).toNat) (gv z ((jat js k).2 - 1).toNat) = true then 0 else 40 := by
  have e0 : jpE z js k 0 = freshE z.length (jat js k).1 (jfl (js.take k)) := by simp [jpE, pl2]
  have e : jpE z js k 1 = freshE z.length (jat js k).2 (jfl (js.take k) ++ [(jat js k).1]) := by simp [jpE, pl2]
  have h0 := h 0 (by omega)
  have h1 := h 1 (by omega)
  rw [e0] at h0
  rw [e] at h1
  exact ⟨fresh_ok h0, fresh_ok h1, by rw [moE1, if_neg (fun k => k h0), if_neg (fun k => k h1)]⟩
end
def setM (M : List (List Qi)) (i j : Nat) (v : Qi) : List (List Qi) := M.set i ((M.getD i []).set j v)
theorem setM_shp {M : List (List Qi)} {n m i j : Nat} {v : Qi} (h : Shp M n m) : Shp (setM M i j v) n m := by
  refine ⟨by rw [setM, List.length_set]; exact h.1, fun r hr => ?_⟩
  rcases Nat.lt_or_ge i M.length with hi | hi
  · rcases List.mem_or_eq_of_mem_set hr with h1 | h1
    · exact h.2 r h1
    · rw [h1, List.length_set]; exact h.row (by rw [← h.1]; exact hi)
  · rw [setM, List.set_eq_of_length_le hi] at hr; exact h.2 r hr
theorem setM_gm {M : List (List Qi)} {n m i j a b : Nat} {v : Qi} (h : Shp M n m) (hi : i < n) (hj : j < m) : gm (setM M i j v) a b = if a = i ∧ b = j then v else gm M a b := by
  have hl := h.1
  have hr := h.row hi
  by_cases e : a = i
  · subst e
    show gv ((M.set a ((M.getD a []).set j v)).getD a []) b = _
    rw [show (M.set a ((M.getD a []).set j v)).getD a [] = (M.getD a []).set j v by simp [List.getD, show a < M.length by omega], gv_set (by omega)]
    by_cases e2 : b = j
    · rw [if_pos e2, if_pos ⟨rfl, e2⟩]
    · rw [if_neg e2, if_neg (fun k => e2 k.2)]
  · rw [if_neg (fun k => e k.1)]
    show gv ((M.set i ((M.getD i []).set j v)).getD a []) b = gv (M.getD a []) b
    rw [show (M.set i ((M.getD i []).set j v)).getD a [] = M.getD a [] by simp [List.getD, List.getElem?_set_ne (Ne.symm e)]]
def rst (f g : Qi → Qi → Qi) (A : Nat → Nat → Qi) (p q i j : Nat) : Qi := if i = p then f (A p j) (A q j) else if i = q then g (A p j) (A q j) else A i j
def cst (f g : Qi → Qi → Qi) (A : Nat → Nat → Qi) (p q i j : Nat) : Qi := if j = p then f (A i p) (A i q) else if j = q then g (A i p) (A i q) else A i j
def rowM (f g : Qi → Qi → Qi) (A : List (List Qi)) (p q n r : Nat) : List (List Qi) := tab n fun i => tab n fun j => if j < r then rst f g (gm A) p q i j else gm A i j
def colM (f g : Qi → Qi → Qi) (A : List (List Qi)) (p q n r : Nat) : List (List Qi) := tab n fun i => tab n fun j => if i < r then cst f g (gm A) p q i j else gm A i j
theorem rowM_shp {f g : Qi → Qi → Qi} {A : List (List Qi)} {p q n r : Nat} : Shp (rowM f g A p q n r) n n := Shp.tab
theorem colM_shp {f g : Qi → Qi → Qi} {A : List (List Qi)} {p q n r : Nat} : Shp (colM f g A p q n r) n n := Shp.tab
theorem rowM_gm {f g : Qi → Qi → Qi} {A : List (List Qi)} {p q n r i j : Nat} (hi : i < n) (hj : j < n) : gm (rowM f g A p q n r) i j = if j < r then rst f g (gm A) p q i j else gm A i j := gm_tab hi hj
theorem colM_gm {f g : Qi → Qi → Qi} {A : List (List Qi)} {p q n r i j : Nat} (hi : i < n) (hj : j < n) : gm (colM f g A p q n r) i j = if i < r then cst f g (gm A) p q i j else gm A i j := gm_tab hi hj
theorem rowM_zero {f g : Qi → Qi → Qi} {A : List (List Qi)} {p q n : Nat} (h : Shp A n n) : A = rowM f g A p q n 0 := mat_ext h rowM_shp fun i hi j hj => by rw [rowM_gm hi hj, if_neg (by omega)]
theorem colM_zero {f g : Qi → Qi → Qi} {A : List (List Qi)} {p q n : Nat} (h : Shp A n n) : A = colM f g A p q n 0 := mat_ext h colM_shp fun i hi j hj => by rw [colM_gm hi hj, if_neg (by omega)]
theorem rowM_at {f g : Qi → Qi → Qi} {A : List (List Qi)} {p q n r i : Nat} (hi : i < n) (hr : r < n) : gm (rowM f g A p q n r) i r = gm A i r := by rw [rowM_gm hi hr, if_neg (by omega)]
theorem colM_at {f g : Qi → Qi → Qi} {A : List (List Qi)} {p q n r j : Nat} (hr : r < n) (hj : j < n) : gm (colM f g A p q n r) r j = gm A r j := by rw [colM_gm hr hj, if_neg (by omega)]
theorem rowM_step {f g : Qi → Qi → Qi} {A : List (List Qi)} {p q n r : Nat} (hp : p < n) (hq : q < n) (hpq : p ≠ q) (hr : r < n) :
    setM (setM (rowM f g A p q n r) p r (f (gm A p r) (gm A q r))) q r (g (gm A p r) (gm A q r)) = rowM f g A p q n (r + 1) :=
  mat_ext (setM_shp (setM_shp rowM_shp)) rowM_shp fun i hi j hj => by
    rw [setM_gm (setM_shp rowM_shp) hq hr, setM_gm rowM_shp hp hr, rowM_gm hi hj, rowM_gm hi hj]
    by_cases e : j = r
    · subst e
      rw [if_pos (show j < j + 1 by omega), if_neg (show ¬ j < j by omega), rst]
      by_cases e1 : i = p
      · rw [if_neg (fun k => hpq (e1.symm.trans k.1)), if_pos ⟨e1, rfl⟩, if_pos e1]
      · by_cases e2 : i = q
        · rw [if_pos ⟨e2, rfl⟩, if_neg e1, if_pos e2]
        · rw [if_neg (fun k => e2 k.1), if_neg (fun k => e1 k.1), if_neg e1, if_neg e2]
    · rw [if_neg (fun k => e k.2), if_neg (fun k => e k.2)]
      by_cases e1 : j < r
      · rw [if_pos e1, if_pos (by omega)]
      · rw [if_neg e1, if_neg (by omega)]
theorem colM_step {f g : Qi → Qi → Qi} {A : List (List Qi)} {p q n r : Nat} (hp : p < n) (hq : q < n) (hpq : p ≠ q) (hr : r < n) :
    setM (setM (colM f g A p q n r) r p (f (gm A r p) (gm A r q))) r q (g (gm A r p) (gm A r q)) = colM f g A p q n (r + 1) :=
  mat_ext (setM_shp (setM_shp colM_shp)) colM_shp fun i hi j hj => by
    rw [setM_gm (setM_shp colM_shp) hr hq, setM_gm colM_shp hr hp, colM_gm hi hj, colM_gm hi hj]
    by_cases e : i = r
    · subst e
      rw [if_pos (show i < i + 1 by omega), if_neg (show ¬ i < i by omega), cst]
      by_cases e1 : j = p
      · rw [if_neg (fun k => hpq (e1.symm.trans k.2)), if_pos ⟨rfl, e1⟩, if_pos e1]
      · by_cases e2 : j = q
        · rw [if_pos ⟨rfl, e2⟩, if_neg e1, if_pos e2]
        · rw [if_neg (fun k => e2 k.2), if_neg (fun k => e1 k.2), if_neg e1, if_neg e2]
    · rw [if_neg (fun k => e k.1), if_neg (fun k => e k.1)]
      by_cases e1 : i < r
      · rw [if_pos e1, if_pos (by omega)]
      · rw [if_neg e1, if_neg (by omega)]
def Lin2 (f : Qi → Qi → Qi) : Prop := ∃ a b : Qi, ∀ x y, f x y = a * x + b * y
theorem lin_l {f : Qi → Qi → Qi} (h : Lin2 f) (u v w : Nat → Qi) : ∀ n, sumN n (fun t => f (u t) (v t) * w t) = f (sumN n fun t => u t * w t) (sumN n fun t => v t * w t)
  | 0 => by obtain ⟨a, b, e⟩ := h; show (0 : Qi) = f 0 0; rw [e]; grind
  | n + 1 => by
    have ih := lin_l h u v w n
    obtain ⟨a, b, e⟩ := h
    show sumN n _ + _ = f (sumN n _ + _) (sumN n _ + _)
    rw [ih]
    simp only [e]; grind
theorem lin_r {f : Qi → Qi → Qi} (h : Lin2 f) (u v w : Nat → Qi) (n : Nat) : sumN n (fun t => w t * f (u t) (v t)) = f (sumN n fun t => w t * u t) (sumN n fun t => w t * v t) := by
  have := lin_l h u v w n
  rw [sumN_congr (f := fun t => w t * f (u t) (v t)) (g := fun t => f (u t) (v t) * w t) fun i _ => Qi.mul_comm' _ _, this]
  congr 1
  · exact sumN_congr fun i _ => Qi.mul_comm' _ _
  · exact sumN_congr fun i _ => Qi.mul_comm' _ _
theorem mul_gm {a b : List (List Qi)} {n k m i j : Nat} (hi : i < n) (hj : j < m) : gm (mulM a b n k m) i j = sumN k fun t => gm a i t * gm b t j := gm_tab hi hj
theorem mul_row {f g : Qi → Qi → Qi} (hf : Lin2 f) (hg : Lin2 g) {A B : List (List Qi)} {p q n : Nat} (hp : p < n) (hq : q < n) : mulM (rowM f g A p q n n) B n n n = rowM f g (mulM A B n n n) p q n n :=
  mat_ext mulM_shp rowM_shp fun i hi j hj => by
    rw [mul_gm hi hj, rowM_gm hi hj, if_pos hj, rst, mul_gm hi hj, mul_gm hp hj, mul_gm hq hj, ← lin_l hf, ← lin_l hg]
    by_cases e1 : i = p
    · rw [if_pos e1]; exact sumN_congr fun t ht => by rw [rowM_gm hi ht, if_pos ht, rst, if_pos e1]
    · rw [if_neg e1]
      by_cases e2 : i = q
      · rw [if_pos e2]; exact sumN_congr fun t ht => by rw [rowM_gm hi ht, if_pos ht, rst, if_neg e1, if_pos e2]
      · rw [if_neg e2]; exact sumN_congr fun t ht => by rw [rowM_gm hi ht, if_pos ht, rst, if_neg e1, if_neg e2]
theorem mul_col {f g : Qi → Qi → Qi} (hf : Lin2 f) (hg : Lin2 g) {A B : List (List Qi)} {p q n : Nat} (hp : p < n) (hq : q < n) : mulM A (colM f g B p q n n) n n n = colM f g (mulM A B n n n) p q n n :=
  mat_ext mulM_shp colM_shp fun i hi j hj => by
    rw [mul_gm hi hj, colM_gm hi hj, if_pos hi, cst, mul_gm hi hj, mul_gm hi hp, mul_gm hi hq, ← lin_r hf, ← lin_r hg]
    by_cases e1 : j = p
    · rw [if_pos e1]; exact sumN_congr fun t ht => by rw [colM_gm ht hj, if_pos ht, cst, if_pos e1]
    · rw [if_neg e1]
      by_cases e2 : j = q
      · rw [if_pos e2]; exact sumN_congr fun t ht => by rw [colM_gm ht hj, if_pos ht, cst, if_neg e1, if_pos e2]
      · rw [if_neg e2]; exact sumN_congr fun t ht => by rw [colM_gm ht hj, if_pos ht, cst, if_neg e1, if_neg e2]
theorem mul_idl {A : List (List Qi)} {n : Nat} (h : Shp A n n) : mulM (idM n) A n n n = A := mat_ext mulM_shp h fun i hi j hj => by
  rw [mul_gm hi hj, sumN_single hi (f := fun t => gm (idM n) i t * gm A t j) fun k hk hne => by rw [unit_gm hi hk, if_neg (Ne.symm hne)]; grind, unit_gm hi hi, if_pos rfl]; grind
theorem mul_idr {A : List (List Qi)} {n : Nat} (h : Shp A n n) : mulM A (idM n) n n n = A := mat_ext mulM_shp h fun i hi j hj => by
  rw [mul_gm hi hj, sumN_single hj (f := fun t => gm A i t * gm (idM n) t j) fun k hk hne => by rw [unit_gm hk hj, if_neg hne]; grind, unit_gm hj hj, if_pos rfl]; grind
abbrev jp1 (js : List (Int × Int)) (k : Nat) : Nat := ((jat js k).1 - 1).toNat
abbrev jp2 (js : List (Int × Int)) (k : Nat) : Nat := ((jat js k).2 - 1).toNat
theorem jp_gq {js : List (Int × Int)} {k : Nat} (h : k < js.length) : gq (jps js) (2 * k) = jp1 js k ∧ gq (jps js) (2 * k + 1) = jp2 js k := by
  obtain ⟨h1, h2⟩ := jps_at h
  rw [gq_even, gq_odd]; exact ⟨h1, h2⟩
theorem jp_ne {js : List (Int × Int)} {n k : Nat} (h : Jn (jps js) n js.length) (hk : k < js.length) : jp1 js k < n ∧ jp2 js k < n ∧ jp1 js k ≠ jp2 js k := by
  obtain ⟨e1, e2⟩ := jp_gq hk
  have a := h.lt (2 * k) (by omega)
  have b := h.lt (2 * k + 1) (by omega)
  refine ⟨by omega, by omega, fun e => ?_⟩
  have := h.inj (2 * k) (2 * k + 1) (by omega) (by omega) (by omega)
  omega
theorem jp_new {js : List (Int × Int)} {n k : Nat} (h : Jn (jps js) n js.length) (hk : k < js.length) : (∀ t, t < 2 * k → gq (jps js) t ≠ jp1 js k) ∧ (∀ t, t < 2 * k → gq (jps js) t ≠ jp2 js k) := by
  obtain ⟨e1, e2⟩ := jp_gq hk
  refine ⟨fun t ht e => ?_, fun t ht e => ?_⟩
  · have := h.inj t (2 * k) (by omega) (by omega) (by omega); omega
  · have := h.inj t (2 * k + 1) (by omega) (by omega) (by omega); omega
theorem jp_old {js : List (Int × Int)} {k i : Nat} (hk : k < js.length) (h : ∀ t, t < 2 * (k + 1) → gq (jps js) t ≠ i) : (∀ t, t < 2 * k → gq (jps js) t ≠ i) ∧ i ≠ jp1 js k ∧ i ≠ jp2 js k := by
  obtain ⟨e1, e2⟩ := jp_gq hk
  exact ⟨fun t ht => h t (by omega), fun e => h (2 * k) (by omega) (by omega), fun e => h (2 * k + 1) (by omega) (by omega)⟩
structure MdF where
  f1 : Qi → Qi → Qi
  f2 : Qi → Qi → Qi
  g1 : Qi → Qi → Qi
  g2 : Qi → Qi → Qi
def moM (F : MdF) (S : List (List Qi)) (js : List (Int × Int)) (n : Nat) : Nat → List (List Qi)
  | 0 => S
  | k + 1 => colM F.g1 F.g2 (rowM F.f1 F.f2 (moM F S js n k) (jp1 js k) (jp2 js k) n n) (jp1 js k) (jp2 js k) n n
theorem moM_shp {F : MdF} {S : List (List Qi)} {js : List (Int × Int)} {n : Nat} (h : Shp S n n) : ∀ k, Shp (moM F S js n k) n n
  | 0 => h
  | _ + 1 => colM_shp
def Uid (M : List (List Qi)) (ps : List (Nat × Nat)) (n k : Nat) : Prop := ∀ i j, i < n → j < n → ((∀ t, t < 2 * k → gq ps t ≠ i) ∨ (∀ t, t < 2 * k → gq ps t ≠ j)) → gm M i j = if i = j then 1 else 0
theorem uid_zero (ps : List (Nat × Nat)) (n : Nat) : Uid (idM n) ps n 0 := fun i j hi hj _ => unit_gm hi hj
def hlf : Qi := Qi.frac 1 0 2
theorem hlf_fit : FitC hlf 2 := ⟨Qi.Fit.frac (by decide) (by decide) (by decide) (by decide) (by decide) (by decide) (by decide)⟩
def rmM (js : List (Int × Int)) (n : Nat) : Nat → List (List Qi)
  | 0 => idM n
  | k + 1 => setM (setM (setM (rmM js n k) (jp1 js k) (jp2 js k) (Qi.ofInt (-1))) (jp2 js k) (jp1 js k) hlf) (jp2 js k) (jp2 js k) hlf
def rbM (js : List (Int × Int)) (n : Nat) : Nat → List (List Qi)
  | 0 => idM n
  | k + 1 => setM (setM (setM (rbM js n k) (jp1 js k) (jp1 js k) hlf) (jp1 js k) (jp2 js k) (Qi.ofInt 1)) (jp2 js k) (jp1 js k) (-hlf)
theorem rmM_shp (js : List (Int × Int)) (n : Nat) : ∀ k, Shp (rmM js n k) n n
  | 0 => idM_shp n
  | k + 1 => setM_shp (setM_shp (setM_shp (rmM_shp js n k)))
theorem rbM_shp (js : List (Int × Int)) (n : Nat) : ∀ k, Shp (rbM js n k) n n
  | 0 => idM_shp n
  | k + 1 => setM_shp (setM_shp (setM_shp (rbM_shp js n k)))
theorem set3_gm {M : List (List Qi)} {n i j p q a b c d e f : Nat} {u v w : Qi} (h : Shp M n n) (ha : a < n) (hb : b < n) (hc : c < n) (hd : d < n) (he : e < n) (hf : f < n) :
    gm (setM (setM (setM M a b u) c d v) e f w) i j = if i = e ∧ j = f then w else if i = c ∧ j = d then v else if i = a ∧ j = b then u else gm M i j := by
  rw [setM_gm (setM_shp (setM_shp h)) he hf, setM_gm (setM_shp h) hc hd, setM_gm h ha hb]
section
variable {js : List (Int × Int)} {n : Nat}
theorem uid_rm (hJ : Jn (jps js) n js.length) : ∀ k, k ≤ js.length → Uid (rmM js n k) (jps js) n k
  | 0, _ => uid_zero _ _
  | k + 1, hk => fun i j hi hj h => by
    have ih := uid_rm hJ k (by omega)
    obtain ⟨hp, hq, hpq⟩ := jp_ne hJ (show k < js.length by omega)
    show gm (setM (setM (setM (rmM js n k) _ _ _) _ _ _) _ _ _) i j = _
    rw [set3_gm (p := 0) (q := 0) (rmM_shp js n k) hp hq hq hp hq hq]
    rcases h with h | h
    · obtain ⟨h1, h2, h3⟩ := jp_old (show k < js.length by omega) h
      rw [if_neg (fun k => h3 k.1), if_neg (fun k => h3 k.1), if_neg (fun k => h2 k.1)]
      exact ih i j hi hj (.inl h1)
    · obtain ⟨h1, h2, h3⟩ := jp_old (show k < js.length by omega) h
      rw [if_neg (fun k => h3 k.2), if_neg (fun k => h2 k.2), if_neg (fun k => h3 k.2)]
      exact ih i j hi hj (.inr h1)
theorem uid_rb (hJ : Jn (jps js) n js.length) : ∀ k, k ≤ js.length → Uid (rbM js n k) (jps js) n k
  | 0, _ => uid_zero _ _
  | k + 1, hk => fun i j hi hj h => by
    have ih := uid_rb hJ k (by omega)
    obtain ⟨hp, hq, hpq⟩ := jp_ne hJ (show k < js.length by omega)
    show gm (setM (setM (setM (rbM js n k) _ _ _) _ _ _) _ _ _) i j = _
    rw [set3_gm (p := 0) (q := 0) (rbM_shp js n k) hp hp hp hq hq hp]
    rcases h with h | h
    · obtain ⟨h1, h2, h3⟩ := jp_old (show k < js.length by omega) h
      rw [if_neg (fun k => h3 k.1), if_neg (fun k => h2 k.1), if_neg (fun k => h2 k.1)]
      exact ih i j hi hj (.inl h1)
    · obtain ⟨h1, h2, h3⟩ := jp_old (show k < js.length by omega) h
      rw [if_neg (fun k => h2 k.2), if_neg (fun k => h3 k.2), if_neg (fun k => h2 k.2)]
      exact ih i j hi hj (.inr h1)
def mxF : MdF := ⟨fun x y => x - y, fun x y => (x + y) * hlf, fun x y => (x - y) * hlf, fun x y => x + y⟩
def sgF : MdF := ⟨fun x y => x * hlf + y, fun x y => y - x * hlf, fun x y => x + y * hlf, fun x y => y * hlf - x⟩
theorem mx_l1 : Lin2 mxF.f1 := ⟨1, -1, fun x y => by show x - y = _; grind⟩
theorem mx_l2 : Lin2 mxF.f2 := ⟨hlf, hlf, fun x y => by show (x + y) * hlf = _; grind⟩
theorem mx_l3 : Lin2 mxF.g1 := ⟨hlf, -hlf, fun x y => by show (x - y) * hlf = _; grind⟩
theorem mx_l4 : Lin2 mxF.g2 := ⟨1, 1, fun x y => by show x + y = _; grind⟩
theorem sg_l1 : Lin2 sgF.f1 := ⟨hlf, 1, fun x y => by show x * hlf + y = _; grind⟩
theorem sg_l2 : Lin2 sgF.f2 := ⟨-hlf, 1, fun x y => by show y - x * hlf = _; grind⟩
theorem sg_l3 : Lin2 sgF.g1 := ⟨1, hlf, fun x y => by show x + y * hlf = _; grind⟩
theorem sg_l4 : Lin2 sgF.g2 := ⟨-1, hlf, fun x y => by show y * hlf - x = _; grind⟩
theorem mm_row (hJ : Jn (jps js) n js.length) {k : Nat} (hk : k < js.length) : rmM js n (k + 1) = rowM mxF.f1 mxF.f2 (rmM js n k) (jp1 js k) (jp2 js k) n n := by
  obtain ⟨hp, hq, hpq⟩ := jp_ne hJ hk
  obtain ⟨n1, n2⟩ := jp_new hJ hk
  have U := uid_rm hJ k (by omega)
  refine mat_ext (rmM_shp js n (k + 1)) rowM_shp fun i hi j hj => ?_
  show gm (setM (setM (setM (rmM js n k) _ _ _) _ _ _) _ _ _) i j = _
  rw [set3_gm (p := 0) (q := 0) (rmM_shp js n k) hp hq hq hp hq hq, rowM_gm hi hj, if_pos hj, rst]
  have a1 := U (jp1 js k) j hp hj (.inl n1)
  have a2 := U (jp2 js k) j hq hj (.inl n2)
  rw [a1, a2]
  generalize jp1 js k = p at *
  generalize jp2 js k = q at *
  simp only [mxF, neg_one]
  by_cases e1 : i = p
  · subst e1
    have e2 : ¬ i = q := hpq
    by_cases e3 : j = q
    · subst e3; simp only [e2, false_and, and_self, if_false, if_true]; grind
    · simp only [e2, e3, false_and, and_false, if_false, if_true, a1, Ne.symm e3, show ¬ q = j from fun k => e3 k.symm]; grind
  · by_cases e2 : i = q
    · subst e2
      by_cases e3 : j = i
      · subst e3; simp only [e1, and_self, if_true, if_false, Ne.symm e1, show ¬ p = j from fun k => e1 k.symm]; grind
      · by_cases e4 : j = p
        · subst e4; simp only [e3, e1, and_false, and_self, if_true, if_false, show ¬ i = j from e1]; grind
        · simp only [e3, e4, e1, and_false, false_and, if_false, if_true, a2, show ¬ i = j from fun k => e3 k.symm, show ¬ p = j from fun k => e4 k.symm]; grind
    · simp only [e1, e2, false_and, if_false]
theorem mm_col (hJ : Jn (jps js) n js.length) {k : Nat} (hk : k < js.length) : rmM js n (k + 1) = colM sgF.g1 sgF.g2 (rmM js n k) (jp1 js k) (jp2 js k) n n := by
  obtain ⟨hp, hq, hpq⟩ := jp_ne hJ hk
  obtain ⟨n1, n2⟩ := jp_new hJ hk
  have U := uid_rm hJ k (by omega)
  refine mat_ext (rmM_shp js n (k + 1)) colM_shp fun i hi j hj => ?_
  show gm (setM (setM (setM (rmM js n k) _ _ _) _ _ _) _ _ _) i j = _
  rw [set3_gm (p := 0) (q := 0) (rmM_shp js n k) hp hq hq hp hq hq, colM_gm hi hj, if_pos hi, cst]
  have a1 := U i (jp1 js k) hi hp (.inr n1)
  have a2 := U i (jp2 js k) hi hq (.inr n2)
  rw [a1, a2]
  generalize jp1 js k = p at *
  generalize jp2 js k = q at *
  simp only [sgF, neg_one]
  by_cases e1 : j = p
  · subst e1
    have e2 : ¬ j = q := hpq
    by_cases e3 : i = q
    · subst e3; simp only [e2, and_false, and_self, if_false, if_true, show ¬ i = j from fun k => e2 k.symm]; grind
    · by_cases e4 : i = j
      · subst e4; simp only [e3, false_and, and_false, if_false, if_true, a1]; grind
      · simp only [e3, e4, e2, false_and, and_false, if_false, if_true, a1]; grind
  · by_cases e2 : j = q
    · subst e2
      by_cases e3 : i = j
      · subst e3; simp only [e1, and_self, if_true, if_false]; grind
      · by_cases e4 : i = p
        · subst e4; simp only [e3, e1, and_false, false_and, and_self, if_true, if_false]; grind
        · simp only [e3, e4, e1, and_false, false_and, if_false, if_true, a2]; grind
    · simp only [e1, e2, and_false, if_false]
theorem mb_row (hJ : Jn (jps js) n js.length) {k : Nat} (hk : k < js.length) : rbM js n (k + 1) = rowM sgF.f1 sgF.f2 (rbM js n k) (jp1 js k) (jp2 js k) n n := by
  obtain ⟨hp, hq, hpq⟩ := jp_ne hJ hk
  obtain ⟨n1, n2⟩ := jp_new hJ hk
  have U := uid_rb hJ k (by omega)
  refine mat_ext (rbM_shp js n (k + 1)) rowM_shp fun i hi j hj => ?_
  show gm (setM (setM (setM (rbM js n k) _ _ _) _ _ _) _ _ _) i j = _
  rw [set3_gm (p := 0) (q := 0) (rbM_shp js n k) hp hp hp hq hq hp, rowM_gm hi hj, if_pos hj, rst]
  have a1 := U (jp1 js k) j hp hj (.inl n1)
  have a2 := U (jp2 js k) j hq hj (.inl n2)
  rw [a1, a2]
  generalize jp1 js k = p at *
  generalize jp2 js k = q at *
  simp only [sgF, q1]
  by_cases e1 : i = p
  · subst e1
    have e2 : ¬ i = q := hpq
    by_cases e3 : j = q
    · subst e3; simp only [e2, false_and, and_self, if_false, if_true]; grind
    · by_cases e4 : j = i
      · subst e4; simp only [e2, e3, false_and, and_false, and_self, if_false, if_true, show ¬ q = j from fun k => e3 k.symm]; grind
      · simp only [e2, e3, e4, false_and, and_false, if_false, if_true, a1, show ¬ q = j from fun k => e3 k.symm, show ¬ i = j from fun k => e4 k.symm]; grind
  · by_cases e2 : i = q
    · subst e2
      by_cases e3 : j = p
      · subst e3; simp only [e1, and_self, if_true, if_false]; grind
      · by_cases e4 : j = i
        · subst e4; simp only [e1, e3, and_false, false_and, if_true, if_false, a2, show ¬ p = j from fun k => e3 k.symm]; grind
        · simp only [e3, e4, e1, and_false, false_and, if_false, if_true, a2, show ¬ i = j from fun k => e4 k.symm, show ¬ p = j from fun k => e3 k.symm]; grind
    · simp only [e1, e2, false_and, if_false]
theorem mb_col (hJ : Jn (jps js) n js.length) {k : Nat} (hk : k < js.length) : rbM js n (k + 1) = colM mxF.g1 mxF.g2 (rbM js n k) (jp1 js k) (jp2 js k) n n := by
  obtain ⟨hp, hq, hpq⟩ := jp_ne hJ hk
  obtain ⟨n1, n2⟩ := jp_new hJ hk
  have U := uid_rb hJ k (by omega)
  refine mat_ext (rbM_shp js n (k + 1)) colM_shp fun i hi j hj => ?_
  show gm (setM (setM (setM (rbM js n k) _ _ _) _ _ _) _ _ _) i j = _
  rw [set3_gm (p := 0) (q := 0) (rbM_shp js n k) hp hp hp hq hq hp, colM_gm hi hj, if_pos hi, cst]
  have a1 := U i (jp1 js k) hi hp (.inr n1)
  have a2 := U i (jp2 js k) hi hq (.inr n2)
  rw [a1, a2]
  generalize jp1 js k = p at *
  generalize jp2 js k = q at *
  simp only [mxF, q1]
  by_cases e1 : j = p
  · subst e1
    have e2 : ¬ j = q := hpq
    by_cases e3 : i = q
    · subst e3; simp only [and_self, if_false, if_true, show ¬ i = j from fun k => e2 k.symm]; grind
    · by_cases e4 : i = j
      · subst e4; simp only [e3, e2, false_and, and_false, and_self, if_false, if_true]; grind
      · simp only [e3, e4, e2, false_and, and_false, if_false, if_true, a1]; grind
  · by_cases e2 : j = q
    · subst e2
      by_cases e3 : i = p
      · subst e3; simp only [e1, and_false, and_self, if_true, if_false, show ¬ i = j from fun k => e1 k.symm]; grind
      · by_cases e4 : i = j
        · subst e4; simp only [e3, e1, and_false, false_and, if_false, if_true, a2]; grind
        · simp only [e3, e4, e1, and_false, false_and, if_false, if_true, a2]; grind
    · simp only [e1, e2, and_false, if_false]
theorem mx_prod {S : List (List Qi)} (hS : Shp S n n) (hJ : Jn (jps js) n js.length) : ∀ k, k ≤ js.length → mulM (mulM (rmM js n k) S n n n) (rbM js n k) n n n = moM mxF S js n k
  | 0, _ => by show mulM (mulM (idM n) S n n n) (idM n) n n n = S; rw [mul_idl hS, mul_idr hS]
  | k + 1, hk => by
    have ih := mx_prod hS hJ k (by omega)
    obtain ⟨hp, hq, _⟩ := jp_ne hJ (show k < js.length by omega)
    rw [mm_row hJ (by omega), mb_col hJ (by omega), mul_row mx_l1 mx_l2 hp hq, mul_col mx_l3 mx_l4 hp hq, mul_row mx_l1 mx_l2 hp hq, ih]; rfl
theorem sg_prod {S : List (List Qi)} (hS : Shp S n n) (hJ : Jn (jps js) n js.length) : ∀ k, k ≤ js.length → mulM (mulM (rbM js n k) S n n n) (rmM js n k) n n n = moM sgF S js n k
  | 0, _ => by show mulM (mulM (idM n) S n n n) (idM n) n n n = S; rw [mul_idl hS, mul_idr hS]
  | k + 1, hk => by
    have ih := sg_prod hS hJ k (by omega)
    obtain ⟨hp, hq, _⟩ := jp_ne hJ (show k < js.length by omega)
    rw [mb_row hJ (by omega), mm_col hJ (by omega), mul_row sg_l1 sg_l2 hp hq, mul_col sg_l3 sg_l4 hp hq, mul_row sg_l1 sg_l2 hp hq, ih]; rfl
end
def phR (r : Int) (x y : Qi) : Bool := decide (x = Qi.ofInt r * y)
theorem phR_one (x y : Qi) : phR 1 x y = decide (x = y) := by unfold phR; rw [Qi.one_mul2]
theorem phR_four (x y : Qi) : phR 4 x y = decide (x = y * Qi.ofInt 4) := by unfold phR; rw [Qi.mul_comm']
abbrev FQ (L : Nat) : Type := {x : Qi × Qi // FitC x.1 L ∧ FitC x.2 L}
def moZ (F G : Qi → Qi) (z : List Qi) (js : List (Int × Int)) : Nat → List Qi
  | 0 => z
  | k + 1 => ((moZ F G z js k).set (jp1 js k) (F (gv (moZ F G z js k) (jp1 js k)))).set (jp2 js k) (G (gv (moZ F G z js k) (jp1 js k)))
theorem moZ_len (F G : Qi → Qi) (z : List Qi) (js : List (Int × Int)) : ∀ k, (moZ F G z js k).length = z.length
  | 0 => rfl
  | k + 1 => by rw [moZ, List.length_set, List.length_set, moZ_len F G z js k]
theorem moZ_at {F G : Qi → Qi} {z : List Qi} {js : List (Int × Int)} (hJ : Jn (jps js) z.length js.length) : ∀ k, k ≤ js.length → ∀ i, (∀ t, t < 2 * k → gq (jps js) t ≠ i) → gv (moZ F G z js k) i = gv z i
  | 0, _, _, _ => rfl
  | k + 1, hk, i, h => by
    obtain ⟨hp, hq, _⟩ := jp_ne hJ (show k < js.length by omega)
    obtain ⟨h1, h2, h3⟩ := jp_old (show k < js.length by omega) h
    have hl := moZ_len F G z js k
    rw [moZ, gv_set (by rw [List.length_set]; omega), if_neg h3, gv_set (by omega), if_neg h2]
    exact moZ_at hJ k (by omega) i h1
def moZ2 (F G : Qi → Qi) (z : List Qi) (js : List (Int × Int)) : Nat → List Qi
  | 0 => z
  | k + 1 => ((moZ2 F G z js k).set (jp1 js k) (F (gv (moZ2 F G z js k) (jp1 js k)))).set (jp2 js k) (G (gv ((moZ2 F G z js k).set (jp1 js k) (F (gv (moZ2 F G z js k) (jp1 js k)))) (jp2 js k)))
theorem moZ2_len (F G : Qi → Qi) (z : List Qi) (js : List (Int × Int)) : ∀ k, (moZ2 F G z js k).length = z.length
  | 0 => rfl
  | k + 1 => by rw [moZ2, List.length_set, List.length_set, moZ2_len F G z js k]
theorem moZ_two {φ : Qi → Qi → Bool} {F G G2 : Qi → Qi} {z : List Qi} {js : List (Int × Int)} (hJ : Jn (jps js) z.length js.length) (hE : moE φ z js = 0) (hG : ∀ x y, φ x y = true → G x = G2 y) : ∀ k, k ≤ js.length → moZ2 F G2 z js k = moZ F G z js k
  | 0, _ => rfl
  | k + 1, hk => by
    have ih := moZ_two (F := F) hJ hE hG k (by omega)
    obtain ⟨hp, hq, hpq⟩ := jp_ne hJ (show k < js.length by omega)
    obtain ⟨n1, n2⟩ := jp_new hJ (show k < js.length by omega)
    have hl := moZ_len F G z js k
    rw [moZ2, ih, moZ, gv_set (by omega), if_neg (Ne.symm hpq)]
    congr 1
    rw [moZ_at hJ k (by omega) _ n1, moZ_at hJ k (by omega) _ n2]
    exact (hG _ _ (mo_zero (firstE_zero hE k (by omega))).2.2).symm
theorem mx_zz {x y : Qi} (h : phR 1 x y = true) : x * hlf = hlf * y := by
  rw [phR_one, decide_eq_true_eq] at h; rw [h]; exact Qi.mul_comm' _ _
theorem sg_zz {x y : Qi} (h : phR 4 x y = true) : x * hlf = Qi.ofInt 2 * y := by
  rw [phR, decide_eq_true_eq] at h
  have h1 : hlf * Qi.ofInt 4 = Qi.ofInt 2 := by decide +kernel
  rw [h, ← h1]; grind
theorem lfG_all : ∀ n, lfG [] n = tab n fun i => i
  | 0 => rfl
  | n + 1 => by rw [lfG, lfG_all n, tab_succ]; rfl
theorem all_len (n : Nat) : (lfG [] n).length = n := by rw [lfG_all, tab_len]
theorem all_sub {z : List Qi} : subZ z (lfG [] z.length) = z := by
  rw [subZ, all_len, lfG_all]
  apply List.ext_getElem?
  intro i
  by_cases hi : i < z.length
  · rw [tab_get hi, qat, tab_getD hi]; simp [gv, List.getD, hi]
  · rw [List.getElem?_eq_none (by rw [tab_len]; omega), List.getElem?_eq_none (by omega)]
theorem all_subM {s : List (List Qi)} {n : Nat} (h : Shp s n n) : subM s (lfG [] n) = s := by
  refine mat_ext (by have := subM_shp s (lfG [] n); rwa [all_len] at this) h fun i hi j hj => ?_
  rw [subM, all_len, gm_tab hi hj, lfG_all, qat, qat, tab_getD hi, tab_getD hj]
def xdE (z : List Qi) (js : List (Int × Int)) : Int := moE (phR 1) z js
def xdZ (z : List Qi) (js : List (Int × Int)) : List Qi := okL (xdE z js) (moZ (fun x => x * Qi.ofInt 2) (fun x => x * hlf) z js js.length)
def xdS (z : List Qi) (s : List (List Qi)) (js : List (Int × Int)) : List (List Qi) := okL (xdE z js) (moM mxF s js z.length js.length)
def xsE (z : List Qi) (js : List (Int × Int)) : Int := moE (phR 4) z js
def xsZ (z : List Qi) (js : List (Int × Int)) : List Qi := okL (xsE z js) (moZ (fun x => x * hlf) (fun x => x * hlf) z js js.length)
def xsS (z : List Qi) (s : List (List Qi)) (js : List (Int × Int)) : List (List Qi) := okL (xsE z js) (moM sgF s js z.length js.length)
theorem mo_shp {F : MdF} {G H : Qi → Qi} {e : Int} {z : List Qi} {s : List (List Qi)} {js : List (Int × Int)} (h : Shp s z.length z.length) :
    Shp (okL e (moM F s js z.length js.length)) (okL e (moZ G H z js js.length)).length (okL e (moZ G H z js js.length)).length ∧ (okL e (moZ G H z js js.length)).length ≤ z.length := by
  by_cases c : e = 0
  · rw [okL, okL, if_pos c, if_pos c, moZ_len]; exact ⟨moM_shp h _, Nat.le_refl _⟩
  · rw [okL, okL, if_neg c, if_neg c]; exact ⟨⟨rfl, fun r hr => by cases hr⟩, Nat.zero_le _⟩
theorem row_next {f g : Qi → Qi → Qi} {A X : List (List Qi)} {p q n r : Nat} (hX : X = rowM f g A p q n r) (hp : p < n) (hq : q < n) (hpq : p ≠ q) (hr : r < n) :
    setM (setM X p r (f (gm X p r) (gm X q r))) q r (g (gm X p r) (gm X q r)) = rowM f g A p q n (r + 1) := by
  rw [hX, rowM_at hp hr, rowM_at hq hr]; exact rowM_step hp hq hpq hr
theorem col_next {f g : Qi → Qi → Qi} {A X : List (List Qi)} {p q n r : Nat} (hX : X = colM f g A p q n r) (hp : p < n) (hq : q < n) (hpq : p ≠ q) (hr : r < n) :
    setM (setM X r p (f (gm X r p) (gm X r q))) r q (g (gm X r p) (gm X r q)) = colM f g A p q n (r + 1) := by
  rw [hX, colM_at hr hp, colM_at hr hq]; exact colM_step hp hq hpq hr
theorem moZ_fit {F G : Qi → Qi} (hF : ∀ x L, FitC x L → 1 ≤ L → FitC (F x) (2 * L + 8)) (hG : ∀ x L, FitC x L → 1 ≤ L → FitC (G x) (2 * L + 8)) {z : List Qi} {js : List (Int × Int)} {L : Nat} (h : FitL z L) (hL : 1 ≤ L) : ∀ k, FitL (moZ F G z js k) (8 ^ k * (L + 8))
  | 0 => by rw [Nat.pow_zero, Nat.one_mul]; exact h.le (by omega)
  | k + 1 => by
    have ih := moZ_fit hF hG (js := js) h hL k
    have h1 : 1 * 9 ≤ 8 ^ k * (L + 8) := Nat.mul_le_mul (Nat.pow_pos (by decide)) (by omega)
    obtain ⟨M, hM⟩ : ∃ M, M = 8 ^ k * (L + 8) := ⟨_, rfl⟩
    rw [← hM] at ih h1
    rw [Nat.pow_succ, Nat.mul_right_comm, ← hM]
    intro x hx
    rcases List.mem_or_eq_of_mem_set hx with h2 | h2
    · rcases List.mem_or_eq_of_mem_set h2 with h3 | h3
      · exact (ih x h3).le (by omega)
      · rw [h3]; exact (hF _ M (ih.get (by omega) _) (by omega)).le (by omega)
    · rw [h2]; exact (hG _ M (ih.get (by omega) _) (by omega)).le (by omega)
theorem two_fit : FitC (Qi.ofInt 2) 2 := ⟨Qi.Fit.int (by decide) (by decide +kernel)⟩
theorem mul2_z (x : Qi) (L : Nat) (h : FitC x L) (_ : 1 ≤ L) : FitC (x * Qi.ofInt 2) (2 * L + 8) := by haveI := two_fit; haveI := h; exact (fitMul : FitC _ (L + 2 + 1)).le (by omega)
theorem mulh_z (x : Qi) (L : Nat) (h : FitC x L) (_ : 1 ≤ L) : FitC (x * hlf) (2 * L + 8) := by haveI := hlf_fit; haveI := h; exact (fitMul : FitC _ (L + 2 + 1)).le (by omega)
def moG (L : Nat) : Nat → Nat
  | 0 => L
  | k + 1 => 8 * moG L k + 40
theorem moG_mono {L : Nat} : ∀ {j k : Nat}, j ≤ k → moG L j ≤ moG L k
  | _, 0, h => by obtain rfl := Nat.le_zero.1 h; exact Nat.le_refl _
  | j, k + 1, h => by
    by_cases e : j = k + 1
    · rw [e]; exact Nat.le_refl _
    · have := moG_mono (L := L) (show j ≤ k by omega)
      simp only [moG]; omega
theorem moG_ge (L k : Nat) : L ≤ moG L k := moG_mono (j := 0) (Nat.zero_le k)
def Sz (f : Qi → Qi → Qi) : Prop := ∀ x y L, FitC x L → FitC y L → 1 ≤ L → FitC (f x y) (2 * L + 8)
theorem mx_s1 : Sz mxF.f1 := fun x y L hx hy _ => by haveI := hx; haveI := hy; exact (fitSub : FitC (x - y) (L + L + 1)).le (by omega)
theorem mx_s2 : Sz mxF.f2 := fun x y L hx hy _ => by haveI := hx; haveI := hy; haveI := hlf_fit; exact (inferInstance : FitC ((x + y) * hlf) (L + L + 1 + 2 + 1)).le (by omega)
theorem mx_s3 : Sz mxF.g1 := fun x y L hx hy _ => by haveI := hx; haveI := hy; haveI := hlf_fit; exact (inferInstance : FitC ((x - y) * hlf) (L + L + 1 + 2 + 1)).le (by omega)
theorem mx_s4 : Sz mxF.g2 := fun x y L hx hy _ => by haveI := hx; haveI := hy; exact (fitAdd : FitC (x + y) (L + L + 1)).le (by omega)
theorem sg_s1 : Sz sgF.f1 := fun x y L hx hy _ => by haveI := hx; haveI := hy; haveI := hlf_fit; exact (inferInstance : FitC (x * hlf + y) (L + 2 + 1 + L + 1)).le (by omega)
theorem sg_s2 : Sz sgF.f2 := fun x y L hx hy _ => by haveI := hx; haveI := hy; haveI := hlf_fit; exact (inferInstance : FitC (y - x * hlf) (L + (L + 2 + 1) + 1)).le (by omega)
theorem sg_s3 : Sz sgF.g1 := fun x y L hx hy _ => by haveI := hx; haveI := hy; haveI := hlf_fit; exact (inferInstance : FitC (x + y * hlf) (L + (L + 2 + 1) + 1)).le (by omega)
theorem sg_s4 : Sz sgF.g2 := fun x y L hx hy _ => by haveI := hx; haveI := hy; haveI := hlf_fit; exact (inferInstance : FitC (y * hlf - x) (L + 2 + 1 + L + 1)).le (by omega)
theorem row_fit {f g : Qi → Qi → Qi} (hf : Sz f) (hg : Sz g) {A : List (List Qi)} {p q n r L : Nat} (h : FitM A L) (hL : 1 ≤ L) : FitM (rowM f g A p q n r) (2 * L + 8) := FitM.tab fun i j _ _ => by
  have h1 := h.get hL p j
  have h2 := h.get hL q j
  have h3 := h.get hL i j
  split
  · rw [rst]
    split
    · exact hf _ _ _ h1 h2 hL
    · split
      · exact hg _ _ _ h1 h2 hL
      · exact h3.le (by omega)
  · exact h3.le (by omega)
theorem col_fit {f g : Qi → Qi → Qi} (hf : Sz f) (hg : Sz g) {A : List (List Qi)} {p q n r L : Nat} (h : FitM A L) (hL : 1 ≤ L) : FitM (colM f g A p q n r) (2 * L + 8) := FitM.tab fun i j _ _ => by
  have h1 := h.get hL i p
  have h2 := h.get hL i q
  have h3 := h.get hL i j
  split
  · rw [cst]
    split
    · exact hf _ _ _ h1 h2 hL
    · split
      · exact hg _ _ _ h1 h2 hL
      · exact h3.le (by omega)
  · exact h3.le (by omega)
theorem moM_fit {F : MdF} (h1 : Sz F.f1) (h2 : Sz F.f2) (h3 : Sz F.g1) (h4 : Sz F.g2) {S : List (List Qi)} {js : List (Int × Int)} {n L : Nat} (h : FitM S L) (hL : 1 ≤ L) : ∀ k, FitM (moM F S js n k) (moG L k)
  | 0 => h
  | k + 1 => by
    have ih := moM_fit (F := F) (js := js) (n := n) h1 h2 h3 h4 h hL k
    have hg := moG_ge L k
    exact (col_fit h3 h4 (row_fit h1 h2 ih (by omega)) (by omega)).le (by simp only [moG]; omega)
theorem setM_fit {M : List (List Qi)} {i j L : Nat} {v : Qi} (h : FitM M L) (hv : FitC v L) : FitM (setM M i j v) L := fun r hr x hx => by
  rcases List.mem_or_eq_of_mem_set hr with h1 | h1
  · exact h r h1 x hx
  · rw [h1] at hx
    rcases List.mem_or_eq_of_mem_set hx with h2 | h2
    · rcases Nat.lt_or_ge i M.length with hi | hi
      · exact h (M.getD i []) (by rw [show M.getD i [] = M[i] by simp [List.getD, hi]]; exact List.getElem_mem hi) x h2
      · rw [show M.getD i [] = [] by simp [List.getD, hi]] at h2; cases h2
    · rw [h2]; exact hv
theorem one_fit2 : FitC (Qi.ofInt 1) 2 := fit_p1.le (by decide)
theorem neg_fit2 : FitC (Qi.ofInt (-1)) 2 := fit_m1.le (by decide)
theorem nhl_fit : FitC (-hlf) 2 := by haveI := hlf_fit; exact fitNeg
theorem idM_fit2 (n : Nat) : FitM (idM n) 2 := fun r hr => by
  obtain ⟨i, _, rfl⟩ := tab_mem.1 hr
  intro x hx
  rcases List.mem_or_eq_of_mem_set hx with h | h
  · obtain ⟨j, _, rfl⟩ := tab_mem.1 h; exact (FitC.zero (by decide) : FitC Qi.zero 2)
  · rw [h]; exact one_fit2
theorem rmM_fit (js : List (Int × Int)) (n : Nat) : ∀ k, FitM (rmM js n k) 2
  | 0 => idM_fit2 n
  | k + 1 => setM_fit (setM_fit (setM_fit (rmM_fit js n k) neg_fit2) hlf_fit) hlf_fit
theorem rbM_fit (js : List (Int × Int)) (n : Nat) : ∀ k, FitM (rbM js n k) 2
  | 0 => idM_fit2 n
  | k + 1 => setM_fit (setM_fit (setM_fit (rbM_fit js n k) hlf_fit) one_fit2) nhl_fit
theorem w3a {vs : List Value} {M : List (List Qi)} {n m : Nat} (h : vs.length = n) (s : Shp M n m) : vs.length = M.length := h.trans s.1.symm
theorem w3b {M : List (List Qi)} {n m p : Nat} (s : Shp M n m) (hp : p < n) : p < M.length := by rw [s.1]; exact hp
theorem w3c {M : List (List Qi)} {n m p q : Nat} (s : Shp M n m) (hp : p < n) (hq : q < m) : q < (M.getD p []).length := by rw [s.row hp]; exact hq
theorem mo_le {js : List (Int × Int)} {n : Nat} (h : prtE n (jfl js) = 0) : 2 * js.length ≤ n := pig (f := gq (jps js)) (prt_jn h).lt (prt_jn h).inj
theorem moZ_fit4 {F G : Qi → Qi} (hF : ∀ x L, FitC x L → 1 ≤ L → FitC (F x) (2 * L + 8)) (hG : ∀ x L, FitC x L → 1 ≤ L → FitC (G x) (2 * L + 8)) {z : List Qi} {js : List (Int × Int)} {L k : Nat} (h : FitL z L) (hL : 1 ≤ L) (hk : k ≤ 4) : FitL (moZ F G z js k) (4096 * (L + 8)) :=
  (moZ_fit hF hG h hL k).le (Nat.mul_le_mul_right _ (Nat.le_trans (Nat.pow_le_pow_right (by decide) hk) (by decide)))
theorem moG_four {L k : Nat} (hk : k ≤ 4) : moG L k ≤ 4096 * L + 23400 := Nat.le_trans (moG_mono hk) (by simp only [moG]; omega)
theorem mx_zf {z : List Qi} {js : List (Int × Int)} (h : moE (phR 1) z js = 0) {k : Nat} (hk : k ≤ js.length) : moZ2 (fun x => Qi.ofInt 2 * x) (fun x => hlf * x) z js k = moZ (fun x => x * Qi.ofInt 2) (fun x => x * hlf) z js k := by
  rw [show (fun x => Qi.ofInt 2 * x) = (fun x => x * Qi.ofInt 2) from funext fun x => Qi.mul_comm' _ _]
  exact moZ_two (prt_jn (mo_prt h)) h (fun x y => mx_zz) k hk
theorem sg_zf {z : List Qi} {js : List (Int × Int)} (h : moE (phR 4) z js = 0) {k : Nat} (hk : k ≤ js.length) : moZ2 (fun x => hlf * x) (fun x => Qi.ofInt 2 * x) z js k = moZ (fun x => x * hlf) (fun x => x * hlf) z js k := by
  rw [show (fun x => hlf * x) = (fun x => x * hlf) from funext fun x => Qi.mul_comm' _ _]
  exact moZ_two (prt_jn (mo_prt h)) h (fun x y => sg_zz) k hk
theorem set_two {l : List Qi} {p q : Nat} {a b : Qi} {F : Qi → Ty} : (((l.map F).set p (F a)).set q (F b)) = ((l.set p a).set q b).map F := by rw [List.map_set, List.map_set]
end
section
open Go Go.RowKit
section
variable {P : Program} {R : Post} {cx : Cx} {n : Nat} {k : List It} {E : Env} {H : Hp}
theorem HH.two {base : Nat} {w : World} {V : View} {Z : SA} {X : Hp} (h : HH base w V (Z :: X)) : HH base w V [Z, starSA (SA.emp :: X)] := by
  have h1 : HH base w V ((Z :: X).set 0 SA.emp ++ [Z]) := h.last rfl
  have h2 : HH base w V (starSA (SA.emp :: X) :: [Z]) := HH.repack h1
  exact h2.pick (is := [1, 0]) ⟨⟨_, rfl, fun _ _ _ h => h⟩, ⟨_, rfl, fun _ _ _ h => h⟩, trivial⟩ (by decide)
theorem FunO.pack {f : FuncId} {Ts : List Ty} {γ : Type} {U : γ → Ty} {X : γ → Hp} {Q : γ → Prop} (h : FunO P f Ts [] γ U X Q) : FunO P f Ts [] γ U (fun x => [starSA (SA.emp :: X x)]) Q :=
  fun cx Z vs V w h1 h2 => (h cx Z vs V w h1 h2).mono fun e w' ⟨v, V', x, a, b, c, d, e'⟩ => ⟨v, V', x, a, b, c.withHH c.hp.two, d, e'⟩
theorem T_star {X Y : Hp} (h : Tr P R cx n k E (X ++ Y)) : Tr P R cx n k E (starSA X :: Y) := fun a w ⟨V, hin, hs⟩ => h a w ⟨V, hin.withHH hin.hp.unpack, hs⟩
theorem P_at {o : Oper} {A B : SA} {j : Nat} {H' : Hp} (h : W.PutTy P n E [A] [B] o) (hH : H[j]? = some A) (hH' : H.set j B = H') : W.PutTy P n E H H' o := fun cx X a w V hi hs => by
  subst hH'
  obtain ⟨w', e1, e2⟩ := Go.Proofs.YteimkhgiekndjaaGreat.putAt h hi (get_app hH) hs
  rw [set_app hH] at e2
  exact ⟨w', e1, e2⟩
end
namespace W
variable {P : Program} {R : Post} {cx : Cx} {n : Nat} {k : List It} {E : Env} {H : Hp} {Hf : Bool → Hp} {p : Nat}
theorem D_both {ops l : List Oper} {m : Nat} {o : Oper} {acc : List (Nat × Ob)} {d : Nat} {T : Ty} {Ei : Env} (hd : o.dst = some d) (hn : Nat.blt d n = true) (hs : Srcs ops m E acc o Ei) (hp : Nat.beq acc.length p = false) (hst : ∀ b, StepTy P n ops.toArray Ei (Hf b) o T)
    (h : Dr P R cx n ops m k E Hf p l ((d, .val T) :: acc)) : Dr P R cx n ops m k E Hf p (o :: l) acc := fun hops hobs => by
  have hlen : acc.length ≤ ops.length := by
    have := congrArg List.length hops
    simp at this; omega
  have ho : ops[acc.length]? = some o := by
    rw [hops, List.getElem?_append_right (by simp; omega)]
    simp [Nat.min_eq_left hlen]
  have hlt : acc.length < ops.length := (List.getElem?_eq_some_iff.1 ho).1
  refine h ?_ ⟨⟨o, ho, ⟨hd, Nat.le_of_ble_eq_true hn, fun e => by rw [e] at hp; simp at hp⟩, Ei, hs, .inl hst⟩, hobs⟩
  rw [List.length_cons, List.take_succ_eq_append_getElem hlt]
  have : ops[acc.length] = o := by simpa [hlt] using ho
  rw [this]
  simpa using hops
end W
end
section
open Go Go.RowKit
set_option maxHeartbeats 2000000 in
set_option maxRecDepth 20000 in
theorem c_paired {φ : Qi → Qi → Bool} {z : List Qi} {S : List (List Qi)} {js : List (Int × Int)} {L : Nat} (hfz : FitL z L) (hL : 1 ≤ L) (hLb : L ≤ 1000000) (hz : z.length ≤ 1000) (hj : js.length ≤ 100) : Fun Tryz.prog 108 [NetT z S, JsT js, ClT Tryz.prog (FQ L) (fun x => [NumT x.1.1, NumT x.1.2]) (fun x => BoolT (φ x.1.1 x.1.2))] (IntT .i64 (moE φ z js)) := by
 refine Fun.intro Tryz.func108 rfl Tryz.ntmps108 rfl (fun cx => (ts (rn rfl (new_box (Ht rfl)) fun B3 => (ro rfl (bY (cZ 0)) (R_nil (ts (ro rfl (bY cJ) (R_nil (cG (cG (T_row 3 1 (cU (rm rfl (ro rfl (dW U_59 (Ht rfl) len_map) (ro rfl (cQ (cZ 0)) (R_nil (T_block ?_)))))))))))))))))
 refine T_loop2 (fun (k : Nat) (vG : Value) => k ≤ js.length ∧ ∀ j, j < k → moE1 φ z js j = 0) (fun (k : Nat) (vG : Value) => js.length - k) (fun (k : Nat) (vG : Value) => [(1, JsT js), (2, ClT Tryz.prog (FQ L) (fun x => [NumT x.1.1, NumT x.1.2]) (fun x => BoolT (φ x.1.1 x.1.2))), (3, PtrB B3 0), (7, Is vG), (13, JsT js), (14, NT .i64 js.length), (15, NT .i64 k)]) (fun (k : Nat) (vG : Value) => [box B3 30 [NumsT z, NumM S], rowO 3 1 vG ((jfl (js.take k)).map (IntT .i64))]) 0 _ ⟨Nat.zero_le _, fun j h => by omega⟩
  (aQ rfl (aQ rfl (aQ rfl (aQ rfl (aQ rfl (aQ rfl (aQ rfl aX))))))) (aK (box_of rfl) (aK (rowO_of rfl) aU)) (fun k vG ⟨hk, h0⟩ => ?_)
 refine ts (ro rfl (op_lssN (Ht rfl) (Ht rfl)) (R_nil (cG (cY (Ht rfl) (fun hd => ?_) (fun hd => ?_)))))
 ·have hkn : k < js.length := by simp only [decide_eq_true_eq] at hd; omega
  have hjk := jfl_len (js.take k)
  refine cK (cG (T_block (ts (ro rfl (dX U_59 Z_120 (Ht rfl) (Ht rfl) rfl (dU (dK (d := (0, 0)) hkn))) (ro rfl (dZ Tryz.isAgg120 Z_120 (Ht rfl)) (rn rfl (new_alloc (Ts := [Is (.int .i64 0), Is (.int .i64 0)]) Tryz.zeroValue120 rfl (fun V => aW ⟨rfl, trivial⟩ (aW ⟨rfl, trivial⟩ (aG)))) fun B9 => (R_stA Z_120 (Ht rfl) (Ht rfl) rfl (i := 2) rfl (Nat.le_of_ble_eq_true rfl) rfl rfl (R_nil (cG (cG (T_freeze (i := 2) (tt := 9) rfl rfl frz_ptr (cU (ro rfl (dZ Tryz.isAgg120 Z_120 (Ht rfl)) ?_)))))))))))))
  refine ro rfl (cQ (cZ 0)) (R_nil (T_block (T_keep [0, 1] rfl (by decide) ?_)))
  refine T_loop2 (fun (i : Nat) (vI : Value) => i ≤ 2 ∧ ∀ x, x < i → jpE z js k x = 0) (fun (i : Nat) (vI : Value) => 2 - i) (fun (i : Nat) (vI : Value) => [(1, JsT js), (2, ClT Tryz.prog (FQ L) (fun x => [NumT x.1.1, NumT x.1.2]) (fun x => BoolT (φ x.1.1 x.1.2))), (3, PtrB B3 0), (7, Is vI), (9, PT (JT (jat js k))), (13, JsT js), (14, NT .i64 js.length), (15, NT .i64 k), (19, JT (jat js k)), (20, NT .i64 i)]) (fun (i : Nat) (vI : Value) => [box B3 30 [NumsT z, NumM S], rowO 3 1 vI ((jfl (js.take k) ++ (pl2 (jat js k)).take i).map (IntT .i64))]) 0 _ ⟨Nat.zero_le _, fun x h => by omega⟩
   (aQ rfl (aQ rfl (aQ rfl (aQ rfl (aQ rfl (aQ rfl (aQ rfl (aQ rfl (aQ rfl (aQ rfl aX)))))))))) (aK (box_of rfl) (aK (rowO_of (by rw [List.take_zero, List.append_nil])) aU)) (fun i vI ⟨hi, h1⟩ => ?_)
  refine ts (ro rfl (op_lssN (Ht rfl) (cZ 2)) (R_nil (cG (cY (Ht rfl) (fun he => ?_) (fun he => ?_)))))
  ·have hi2 : i < 2 := by simp only [decide_eq_true_eq] at he; omega
   have hol : (jfl (js.take k) ++ (pl2 (jat js k)).take i).length ≤ 300 := by rw [List.length_append, hjk, List.length_take, List.length_take]; omega
   refine cK (cG (T_block (ts (ro rfl (op_indexA U_120 Z_3 A_3 (Ht rfl) (Ht rfl) (by omega) (pl2_get hi2)) (ra rfl (R_nil (cG (ts (ro rfl (op_ldBA A_30 Z_30 (Ht rfl) (i := 0) rfl rfl rfl) (rm rfl (rm rfl (ro rfl (op_lendI Tryz.call127 (c_fresh (z := z) (s := S) (q := (pl2 (jat js k)).getD i 0) (o := jfl (js.take k) ++ (pl2 (jat js k)).take i) hz (by omega)) (j := 1) (tt := 25) rfl rfl frz_row (fun _ _ _ h => h) ⟨(Ht rfl), (Ht rfl), (Ht rfl), trivial⟩) (ra rfl (R_nil (ts (rm rfl (ro rfl (op_neq (Ht rfl) cJ) (R_nil (cY (Ht rfl) (fun hf => ?_) (fun hf => ?_))))))))))))))))))))
   ·have h3 : jpE z js k i ≠ 0 := by simp only [Bool.not_eq_true', decide_eq_false_iff_not] at hf; exact hf
    have h4 : moE1 φ z js k = jpE z js k i := mo_a hi2 h1 h3
    have h5 : moE φ z js = jpE z js k i := (firstE_at h0 (by rw [h4]; exact h3) hkn).trans h4
    refine ts (rm rfl (ra rfl (R_nil (T_ret1 rfl (rv_to (rv_tmp rfl) ?_)))))
    exact (int_of h5.symm)
   ·have h3 : jpE z js k i = 0 := by simp only [Bool.not_eq_false', decide_eq_true_eq] at hf; exact hf
    refine cK (cU (rm rfl (rm rfl (ro rfl (op_bslice (xs := [.tmp 31]) U_69 Z_3 O_3 (cV (Ht rfl) cW) rfl rfl rfl) (R_append (inf := Tryz.t3) und_69 info_3 rfl rfl rfl (Ht rfl) (Ht rfl) (i := 1) rfl (by simp) (fun T hT => by simp at hT; subst hT; exact El.one) (by show _ * 8 ≤ _; simp only [List.length_map, List.length_cons, List.length_nil]; omega) (by simp only [List.length_map, List.length_cons, List.length_nil]; omega) rfl (fun v2 => ?_))))))
    refine ra rfl (R_nil (T_blk (cU (ro rfl (dJ (Ht rfl) (cZ 1) (by show _ < 9223372036854775808; first | omega | (simp only [lim]; omega))) (rm rfl (R_nil ?_))))))
    refine T_again (i + 1, v2) ⟨hi2, fun x hx => by
     by_cases e : x = i
     ·rw [e]; exact h3
     ·exact h1 x (by omega)⟩ (by dsimp only; omega) (aQ rfl (aQ rfl (aQ rfl (aQ rfl (aQ rfl (aQ rfl (aQ rfl (aQ rfl (aQ rfl (aQ rfl aX)))))))))) (aK (box_of rfl) (aK (rowO_of (by rw [pl2_take hi2, ← List.append_assoc, List.map_append (l₁ := jfl (js.take k) ++ (pl2 (jat js k)).take i)]; rfl)) aU))
  ·obtain rfl : i = 2 := by simp only [decide_eq_false_iff_not] at he; omega
   obtain ⟨⟨p1, p2⟩, ⟨p3, p4⟩, h3⟩ := mo_b (φ := φ) h1
   have hrow : jfl (js.take (k + 1)) = jfl (js.take k) ++ (pl2 (jat js k)).take 2 := jfl_take hkn
   have g1 : FitC (gv z ((jat js k).1 - 1).toNat) L := hfz.get hL _
   have g2 : FitC (gv z ((jat js k).2 - 1).toNat) L := hfz.get hL _
   refine T_exit rfl (cG (C.D_start (m := 15) (dp 2 rfl (cQ (Ht rfl)) (dp 3 rfl (op_fldB fa_30_0 (Ht rfl) rfl) (dq 36 1 rfl (op_ldB A_27 Z_27 (Ht rfl) (i := 0) rfl rfl) (dp 9 rfl (op_idxA U_120 Z_3 (Ht rfl) cJ rfl (by decide) rfl) (dq 38 3 rfl (dZ A_3 Z_3 (Ht rfl)) (dq 39 4 rfl (op_sub (Ht rfl) cJ (r := ((((jat js k).1 - 1).toNat : Nat) : Int)) ((w64 (z := (jat js k).1 - 1) (by omega)).trans (by omega))) ?_))))))))
   refine dqq 37 2 40 5 rfl (dX U_27 Z_45 (Ht rfl) (Ht rfl) rfl (dU (dK (d := Qi.zero) (by omega)))) (dq 41 6 rfl (dZ A_45 Z_45 (Ht rfl)) (dp 3 rfl (op_fldB fa_30_0 (Ht rfl) rfl) (dq 43 8 rfl (op_ldB A_27 Z_27 (Ht rfl) (i := 0) rfl rfl) (dp 9 rfl (op_idxA U_120 Z_3 (Ht rfl) cJ rfl (by decide) rfl) (dq 45 10 rfl (dZ A_3 Z_3 (Ht rfl)) (dq 46 11 rfl (op_sub (Ht rfl) cJ (r := ((((jat js k).2 - 1).toNat : Nat) : Int)) ((w64 (z := (jat js k).2 - 1) (by omega)).trans (by omega))) ?_))))))
   refine dqq 44 9 47 12 rfl (dX U_27 Z_45 (Ht rfl) (Ht rfl) rfl (dU (dK (d := Qi.zero) (by omega)))) (dq 48 13 rfl (dZ A_45 Z_45 (Ht rfl)) (C.D_done mixed rfl (by kernel_rfl) (aJ (aJ (aJ (aJ (aJ (aJ (aJ (aJ (aJ (aJ (aJ (aJ (aJ (aJ (aJ (aV (ro rfl (op_callV (Ts := fun x : FQ L => [NumT x.1.1, NumT x.1.2]) ⟨(gv z ((jat js k).1 - 1).toNat, gv z ((jat js k).2 - 1).toNat), g1, g2⟩ (Ht rfl) ⟨(Ht rfl), (Ht rfl), trivial⟩) (ro rfl (op_not (Ht rfl)) ?_))))))))))))))))))))
   refine R_nil (cY (Ht rfl) (fun hg => ?_) (fun hg => ?_))
   ·have h4 : moE1 φ z js k = 40 := by rw [h3, if_neg (by simpa using hg)]
    have h5 : moE φ z js = 40 := (firstE_at h0 (by rw [h4]; decide) hkn).trans h4
    refine ts (ro rfl (bY (cZ 40)) (R_nil (T_ret1 rfl (rv_to (rv_tmp rfl) ?_))))
    exact (int_of h5.symm)
   ·have h4 : moE1 φ z js k = 0 := by rw [h3, if_pos (by simpa using hg)]
    refine cK (T_blk (cU (ro rfl (dJ (Ht rfl) (cZ 1) (by show _ < 9223372036854775808; first | omega | (simp only [lim]; omega))) (rm rfl (R_nil ?_)))))
    refine T_again (k + 1, vI) ⟨hkn, fun j h => by
     by_cases e : j = k
     ·rw [e]; exact h4
     ·exact h0 j (by omega)⟩ (by dsimp only; omega) (aQ rfl (aQ rfl (aQ rfl (aQ rfl (aQ rfl (aQ rfl (aQ rfl aX))))))) (aK (box_of rfl) (aK (rowO_of (by rw [hrow])) aU))
 ·obtain rfl : k = js.length := by simp only [decide_eq_false_iff_not] at hd; omega
  have h2 : moE φ z js = 0 := firstE_none h0
  refine T_exit rfl (ts (ro rfl (bY (cZ 0)) (R_nil (T_ret1 rfl (rv_to (rv_tmp rfl) ?_)))))
  exact (int_of h2.symm)
set_option maxHeartbeats 2000000 in
set_option maxRecDepth 20000 in
theorem c_rPaired {r : Int} {z : List Qi} {S : List (List Qi)} {js : List (Int × Int)} {L : Nat} (hr : r = 1 ∨ r = 4) (hfz : FitL z L) (hL : 1 ≤ L) (hLb : L ≤ 1000000) (hz : z.length ≤ 1000) (hj : js.length ≤ 100) : Fun Tryz.prog 113 [RNetT z S, JsT js, IntT .i64 r] (IntT .i64 (moE (phR r) z js)) := by
 have hr2 : -9223372036854775808 ≤ r ∧ r ≤ 9223372036854775807 := by omega
 haveI hrf : FitC (Qi.ofInt r) 2 := by
  rcases hr with rfl | rfl
  ·exact (fit_p1).le (by decide)
  ·exact ⟨Qi.Fit.int (by decide) (by decide +kernel)⟩
 refine Fun.intro Tryz.func113 rfl Tryz.ntmps113 rfl (fun cx => (ts (rn rfl (new_box (Ht rfl)) fun B3 => (ro rfl (bY (cZ 0)) (R_nil (ts (rn rfl (new_bslice0 U_69 Z_3 O_3) fun B10 => (ra rfl (R_nil (cG (ts (ro rfl (bY (cZ 0)) (R_nil (T_block ?_))))))))))))))
 refine T_loop2 (fun (k : Nat) (vG : Value) => k ≤ js.length ∧ ∀ j, j < k → moE1 (phR r) z js j = 0) (fun (k : Nat) (vG : Value) => js.length - k) (fun (k : Nat) (vG : Value) => [(1, JsT js), (2, IntT .i64 r), (3, PtrB B3 0), (7, Is vG), (8, NT .i64 k)]) (fun (k : Nat) (vG : Value) => [box B3 34 [QsT z, QM S], rowO 3 1 vG ((jfl (js.take k)).map (IntT .i64))]) 0 _ ⟨Nat.zero_le _, fun j h => by omega⟩
  (aQ rfl (aQ rfl (aQ rfl (aQ rfl (aQ rfl aX))))) (aK (box_of rfl) (aK (rowO_of rfl) aU)) (fun k vG ⟨hk, h0⟩ => ?_)
 refine cG (ts (rm rfl (rm rfl (ro rfl (dW U_59 (Ht rfl) len_map) (ro rfl (op_lssN (Ht rfl) (Ht rfl)) (R_nil (cY (Ht rfl) (fun hd => ?_) (fun hd => ?_))))))))
 ·have hkn : k < js.length := by simp only [decide_eq_true_eq] at hd; omega
  have hjk := jfl_len (js.take k)
  have hjt : (js.take k).length ≤ 100 := by rw [List.length_take]; omega
  have hjk2 : (jfl (js.take (k + 1))).length ≤ 1000 := by rw [jfl_len, List.length_take]; omega
  have hrow : jfl (js.take (k + 1)) = jfl (js.take k) ++ [(jat js k).1, (jat js k).2] := jfl_take hkn
  refine cK (cG (T_block (cG (C.D_start (m := 12) (dp 7 rfl (cQ (Ht rfl)) (dp 1 rfl (cQ (Ht rfl)) (dp 8 rfl (cQ (Ht rfl)) (dqq 18 1 19 2 rfl (dX U_59 Z_120 (Ht rfl) (Ht rfl) rfl (dU (dK (d := (0, 0)) hkn))) (dq 20 3 rfl (op_idxA U_120 Z_3 (Ht rfl) cJ rfl (by decide) rfl) (dq 21 4 rfl (dZ A_3 Z_3 (Ht rfl)) (dp 1 rfl (cQ (Ht rfl)) (dp 8 rfl (cQ (Ht rfl)) (dqq 23 6 24 7 rfl (dX U_59 Z_120 (Ht rfl) (Ht rfl) rfl (dU (dK (d := (0, 0)) hkn))) ?_)))))))))))))
  refine dq 25 8 rfl (op_idxA U_120 Z_3 (Ht rfl) cJ rfl (by decide) rfl) (dq 26 9 rfl (dZ A_3 Z_3 (Ht rfl)) (dqq 22 5 27 10 rfl (op_bslice (xs := [.tmp 22, .tmp 27]) U_69 Z_3 O_3 (cV (Ht rfl) (cV (Ht rfl) cW)) rfl rfl rfl) (C.D_done mixed rfl (by kernel_rfl) (aJ (aJ (aJ (aJ (aJ (aJ (aJ (aJ (aJ (aJ (aJ (aJ (aV (R_append (inf := Tryz.t3) und_69 info_3 rfl rfl rfl (Ht rfl) (Ht rfl) (i := 1) rfl (by simp) (fun T hT => by simp at hT; rcases hT with rfl | rfl <;> exact El.one) (by show _ * 8 ≤ _; simp only [List.length_map, List.length_cons, List.length_nil]; omega) (by simp only [List.length_map, List.length_cons, List.length_nil]; omega) rfl (fun v2 => ?_))))))))))))))))))
  refine ra rfl (R_nil (cG (cG (T_conv 1 rfl (rowO_of (e := 3) (s := 1) (by rw [hrow, List.map_append]; rfl : _ = (jfl (js.take (k + 1))).map (IntT .i64))) ?_))))
  refine cU (ro rfl (op_fldB fa_34_0 (Ht rfl) rfl) (ro rfl (op_ldB A_31 Z_31 (Ht rfl) (i := 0) rfl rfl) (ro rfl (dW U_31 (Ht rfl) len_map) (rm rfl (ro rfl (op_lendI Tryz.call211 (c_rPorts (n := z.length) (l := jfl (js.take (k + 1))) hjk2) (j := 1) (tt := 33) rfl rfl frz_row (fun _ _ _ h => h) ⟨(Ht rfl), (Ht rfl), trivial⟩) (ra rfl (R_nil (ts (rm rfl (ro rfl (op_neq (Ht rfl) cJ) (R_nil (cY (Ht rfl) (fun hf => ?_) (fun hf => ?_)))))))))))))
  ·have h3 : prtE z.length (jfl (js.take (k + 1))) ≠ 0 := by simpa using hf
   have h4 : moE1 (phR r) z js k = prtE z.length (jfl (js.take (k + 1))) := by rw [mo_prt1 hkn h0, if_pos h3]
   have h5 : moE (phR r) z js = prtE z.length (jfl (js.take (k + 1))) := (firstE_at h0 (by rw [h4]; exact h3) hkn).trans h4
   refine ts (rm rfl (ra rfl (R_nil (T_ret1 rfl (rv_to (rv_tmp rfl) ?_)))))
   exact (int_of h5.symm)
  ·have h3 : prtE z.length (jfl (js.take (k + 1))) = 0 := by simpa using hf
   have h4 : moE1 (phR r) z js k = if phR r (gv z ((jat js k).1 - 1).toNat) (gv z ((jat js k).2 - 1).toNat) = true then 0 else 40 := by rw [mo_prt1 hkn h0, if_neg (fun k => k h3)]
   obtain ⟨⟨p1, p2⟩, p3, p4⟩ := jr_in h3 hkn
   haveI g1 := hfz.get hL ((jat js k).1 - 1).toNat
   haveI g2 := hfz.get hL ((jat js k).2 - 1).toNat
   refine cK (cG (C.D_start (m := 23) (dp 3 rfl (op_fldB fa_34_0 (Ht rfl) rfl) (dq 38 0 rfl (op_ldB A_31 Z_31 (Ht rfl) (i := 0) rfl rfl) (dp 1 rfl (cQ (Ht rfl)) (dp 8 rfl (cQ (Ht rfl)) (dqq 40 2 41 3 rfl (dX U_59 Z_120 (Ht rfl) (Ht rfl) rfl (dU (dK (d := (0, 0)) hkn))) (dq 42 4 rfl (op_idxA U_120 Z_3 (Ht rfl) cJ rfl (by decide) rfl) (dq 43 5 rfl (dZ A_3 Z_3 (Ht rfl)) (dq 44 6 rfl (op_sub (Ht rfl) cJ (r := ((((jat js k).1 - 1).toNat : Nat) : Int)) ((w64 (z := (jat js k).1 - 1) (by omega)).trans (by omega))) ?_))))))))))
   refine dqq 39 1 45 7 rfl (dX U_31 Z_98 (Ht rfl) (Ht rfl) rfl (dU (dK (d := Qi.zero) (by omega)))) (dq 46 8 rfl (dZ A_98 Z_98 (Ht rfl)) (dp 2 rfl (cQ (Ht rfl)) (dq 48 10 rfl (cX K_117 (c_rWhole (n := r) hr2.1 hr2.2) ⟨(Ht rfl), trivial⟩) (dp 3 rfl (op_fldB fa_34_0 (Ht rfl) rfl) (dq 50 12 rfl (op_ldB A_31 Z_31 (Ht rfl) (i := 0) rfl rfl) (dp 1 rfl (cQ (Ht rfl)) (dp 8 rfl (cQ (Ht rfl)) (dqq 52 14 53 15 rfl (dX U_59 Z_120 (Ht rfl) (Ht rfl) rfl (dU (dK (d := (0, 0)) hkn))) ?_))))))))
   refine dq 54 16 rfl (op_idxA U_120 Z_3 (Ht rfl) cJ rfl (by decide) rfl) (dq 55 17 rfl (dZ A_3 Z_3 (Ht rfl)) (dq 56 18 rfl (op_sub (Ht rfl) cJ (r := ((((jat js k).2 - 1).toNat : Nat) : Int)) ((w64 (z := (jat js k).2 - 1) (by omega)).trans (by omega))) ?_))
   refine dqq 51 13 57 19 rfl (dX U_31 Z_98 (Ht rfl) (Ht rfl) rfl (dU (dK (d := Qi.zero) (by omega)))) (dq 58 20 rfl (dZ A_98 Z_98 (Ht rfl)) (dqq 49 11 59 21 rfl (cX K_99 (c_rMul (x := Qi.ofInt r) (y := gv z ((jat js k).2 - 1).toNat) (L := 2) (M := L) (by omega)) ⟨(Ht rfl), (Ht rfl), trivial⟩) (C.D_done mixed rfl (by kernel_rfl) (aJ (aJ (aJ (aJ (aJ (aJ (aJ (aJ (aJ (aJ (aJ (aJ (aJ (aJ (aJ (aJ (aJ (aJ (aJ (aJ (aJ (aJ (aJ (aV ?_)))))))))))))))))))))))))))
   refine ro rfl (cX Tryz.call212 (c_rSame (x := gv z ((jat js k).1 - 1).toNat) (y := Qi.ofInt r * gv z ((jat js k).2 - 1).toNat) (L := L) (M := 2 + L + 1) (by omega) (by omega)) ⟨(Ht rfl), (Ht rfl), trivial⟩) (ro rfl (op_not (Ht rfl)) (R_nil (cY (Ht rfl) (fun hg => ?_) (fun hg => ?_))))
   ·have h5 : moE1 (phR r) z js k = 40 := by rw [h4, if_neg (by unfold phR; simpa using hg)]
    have h6 : moE (phR r) z js = 40 := (firstE_at h0 (by rw [h5]; decide) hkn).trans h5
    refine ts (ro rfl (bY (cZ 40)) (R_nil (T_ret1 rfl (rv_to (rv_tmp rfl) ?_))))
    exact (int_of h6.symm)
   ·have h5 : moE1 (phR r) z js k = 0 := by rw [h4, if_pos (by unfold phR; simpa using hg)]
    refine cK (T_blk (cU (rm rfl (ro rfl (dJ (Ht rfl) (cZ 1) (by show _ < 9223372036854775808; first | omega | (simp only [lim]; omega))) (ra rfl (R_nil ?_))))))
    refine T_again (k + 1, v2) ⟨hkn, fun j h => by
     by_cases e : j = k
     ·rw [e]; exact h5
     ·exact h0 j (by omega)⟩ (by dsimp only; omega) (aQ rfl (aQ rfl (aQ rfl (aQ rfl (aQ rfl aX))))) (aK (box_of rfl) (aK (fun _ _ _ h => h) aU))
 ·obtain rfl : k = js.length := by simp only [decide_eq_false_iff_not] at hd; omega
  have h2 : moE (phR r) z js = 0 := firstE_none h0
  refine T_exit rfl (ts (ro rfl (bY (cZ 0)) (R_nil (T_ret1 rfl (rv_to (rv_tmp rfl) ?_)))))
  exact (int_of h2.symm)
set_option maxRecDepth 20000 in
theorem c_partZ {z : List Qi} {s : List (List Qi)} {Q : List Nat} {m : Nat} (hs : Shp s z.length z.length) (hQ : ∀ x, x ∈ Q → x < z.length) (hm : Q.length = m) (hm2 : m ≤ 1000) (hl : z.length ≤ 1000) : FunO Tryz.prog 111 [NetT z s, IntsT (Q.map Nat.succ)] [] (Nat × Nat) (fun B => AggT [Is (.slice (some ⟨B.1, 0, none⟩) m m), Is (.slice (some ⟨B.2, 0, none⟩) m m)]) (fun B => [rowO 45 5 (.slice (some ⟨B.1, 0, none⟩) m m) ((subZ z Q).map NumT), matO B.2 27 45 5 (FRow NumT (subM s Q))]) (fun _ => True) := by
 have hll : (Q.map Nat.succ).length = m := by rw [List.length_map]; exact hm
 refine FunO.intro Tryz.func111 rfl Tryz.ntmps111 rfl (fun cx Z => (ts (rn rfl (new_box (Ht rfl)) fun B2 => (rn rfl (new_box1 (Ht rfl)) fun B3 => (rn rfl (new_alloc (Ts := [Is (.slice none 0 0), Is (.slice none 0 0)]) O_30 rfl (fun V => aW ⟨rfl, trivial⟩ (aW ⟨rfl, trivial⟩ (aG)))) fun B4 => (R_nil (cG (T_freeze (i := 1) (tt := 2) rfl rfl frz_ptr (T_freeze (i := 2) (tt := 3) rfl rfl frz_ptr1 (cU (ro rfl (dZ A_69 Z_69 (Ht rfl)) (ro rfl (dW U_69 (Ht rfl) (by rw [List.length_map, hll])) ?_))))))))))))
 refine rn rfl (new_makeS (T := NumT Qi.zero) (i := Tryz.t45) und_27 info_45 rfl rfl (Ht rfl) rfl num_zero_p (El.ag rfl) (by show 88 * _ ≤ _; omega) (by omega)) fun B10 => ra rfl (R_nil (cG (ts (ro rfl (dZ A_69 Z_69 (Ht rfl)) (ro rfl (dW U_69 (Ht rfl) (by rw [List.length_map, hll])) ?_)))))
 refine ro rfl (cQ (cZ 0)) (R_nil (T_block (T_keep [0, 3, 4] rfl (by decide) ?_)))
 refine T_loop (fun (i : Nat) => i ≤ m) (fun (i : Nat) => m - i) (fun (i : Nat) => [(2, PT (NetT z s)), (3, PT (IntsT (Q.map Nat.succ))), (4, PtrB B4 0), (5, Is (.slice (some ⟨B10, 0, none⟩) m m)), (11, IntsT (Q.map Nat.succ)), (12, NT .i64 m), (13, NT .i64 i)]) (fun (i : Nat) => [Z, box B4 30 [Is (.slice none 0 0), Is (.slice none 0 0)], rowO 45 5 (.slice (some ⟨B10, 0, none⟩) m m) ((mixT (fun i => gv z (qat Q i)) Qi.zero m i).map NumT)]) 0 (Nat.zero_le _)
  (aQ rfl (aQ rfl (aQ rfl (aQ rfl (aQ rfl (aQ rfl (aQ rfl aX))))))) (aK (fun _ _ _ h => h) (aK (fun _ _ _ h => h) (aK (rowO_of (by rw [← mix_zero]; exact tab_rep NumT m)) aU))) (fun i hi => ?_)
 refine ts (ro rfl (op_lssN (Ht rfl) (Ht rfl)) (R_nil (cG (cY (Ht rfl) (fun hd => ?_) (fun hd => ?_)))))
 ·simp only [decide_eq_true_eq] at hd
  have hki : qat Q i < z.length := qat_lt hQ (by omega)
  refine cK (cG (T_block (ts (rm rfl (ro rfl (dX U_69 Z_3 (Ht rfl) (Ht rfl) rfl (dU (suc_get (by omega)))) (ro rfl (dZ A_3 Z_3 (Ht rfl)) (ra rfl (ra rfl (R_nil (cU (rm rfl (rm rfl (ro rfl (op_fld1 fa_30_0 (Ht rfl) rfl) (ro rfl (dZ A_27 Z_27 (Ht rfl)) (rm rfl (ro rfl (OpTy.nat (dV (Ht rfl) (cZ 1) (by omega) (by show _ < 9223372036854775808; first | omega | (simp only [lim]; omega))) (show qat Q i + 1 - 1 = qat Q i by omega)) (ro rfl (dX U_27 Z_45 (Ht rfl) (Ht rfl) rfl (dU (dK (d := Qi.zero) hki))) ?_)))))))))))))))))
  refine ro rfl (dZ A_45 Z_45 (Ht rfl)) (ro rfl (op_idxO U_27 Z_45 (Ht rfl) (Ht rfl) rfl (i := 2) rfl (by rw [List.length_map, mix_len]; omega) rfl) ?_)
  refine R_stO Z_45 (Ht rfl) (Ht rfl) (El.ag rfl) (i := 2) rfl rfl (by rw [List.length_map, mix_len]; omega) rfl ?_
  refine R_nil (T_blk (cU (ro rfl (dJ (Ht rfl) (cZ 1) (by show _ < 9223372036854775808; first | omega | (simp only [lim]; omega))) (rm rfl (R_nil (T_again (i + 1) hd (by omega) (aQ rfl (aQ rfl (aQ rfl (aQ rfl (aQ rfl (aQ rfl (aQ rfl aX))))))) (aK (fun _ _ _ h => h) (aK (fun _ _ _ h => h) (aK (rowO_of (by rw [set_mapF, ← mix_set (f := (fun i => gv z (qat Q i)))])) aU)))))))))
 ·simp only [decide_eq_false_iff_not] at hd
  obtain rfl : m = i := Nat.le_antisymm (by omega) hi
  rw [mix_fin]
  rw [show subZ z Q = tab m fun i => gv z (qat Q i) from by rw [subZ, hm], show subM s Q = tab m fun i => tab m fun j => gm s (qat Q i) (qat Q j) from by rw [subM, hm]]
  refine T_exit rfl (ts (rm rfl (ro rfl (dZ A_69 Z_69 (Ht rfl)) (ro rfl (dW U_69 (Ht rfl) (by rw [List.length_map, hll])) ?_))))
  refine ro rfl (op_clos (γ := Fin m × Fin m) (Ts := fun x => [NT .i64 x.1.1, NT .i64 x.2.1]) (U := fun x => NumT (gm s (qat Q x.1.1) (qat Q x.2.1))) Tryz.call210 (fun x => c_part1 hs hQ hm hm2 hl x.1.2 x.2.2) ⟨(Ht rfl), (Ht rfl), trivial⟩) (R_call0 Tryz.call119 (c_fillO (n := m) (f := fun i j => gm s (qat Q i) (qat Q j)) (by omega)) ⟨(Ht rfl), (Ht rfl), trivial⟩ rfl (fun B32 _ => (ro rfl (bld_30_0_1 (Ht rfl) (Ht rfl)) (R_stA Z_30 (Ht rfl) (Ht rfl) rfl (i := 1) rfl (Nat.le_of_ble_eq_true rfl) rfl rfl (R_nil ?_)))))
  exact T_retO (B10, B32) trivial [0, 2, 3] ⟨⟨_, rfl, fun _ _ _ h => h⟩, ⟨_, rfl, fun _ _ _ h => h⟩, ⟨_, rfl, fun _ _ _ h => h⟩, trivial⟩ (by decide) (rvs1 rfl (rv_cell A_30 Z_30 rfl (i := 1) rfl rfl))
end
section
open Go Go.RowKit
set_option maxHeartbeats 4000000 in
set_option maxRecDepth 20000 in
theorem c_rModes {n : Nat} {js : List (Int × Int)} (hp : prtE n (jfl js) = 0) (hn : n ≤ 32) (hjl : js.length ≤ 100) : Fun Tryz.prog 114 [NT .i64 n, JsT js] (TupT [QM (rmM js n js.length), QM (rbM js n js.length)]) := by
 have hJ := prt_jn hp
 refine Fun.intro Tryz.func114 rfl Tryz.ntmps114 rfl (fun cx => (ts (ro rfl (bY cJ) (ro rfl (bY cJ) (R_nil (ts (ro rfl (cX Tryz.call116 (c_rNew (p := 1) (q := 0) (d := 2) (by decide) (by decide) (by decide) (by decide) (by decide) (by decide) (by decide)) ⟨(cZ 1), (cZ 0), (cZ 2), trivial⟩) (rm rfl (ro rfl (dG (Ht rfl) rfl) (ro rfl (dG (Ht rfl) rfl) (rn rfl (new_alloc (Ts := [Is (.bool false), Is (.slice none 0 0), Is (.bool false), Is (.slice none 0 0), Is (.slice none 0 0)]) O_98 rfl (fun V => aW ⟨rfl, trivial⟩ (aW ⟨rfl, trivial⟩ (aW ⟨rfl, trivial⟩ (aW ⟨rfl, trivial⟩ (aW ⟨rfl, trivial⟩ (aG))))))) fun B6 => ?_)))))))))))
 refine R_stA Z_98 (Ht rfl) (Ht rfl) rfl (i := 0) rfl (Nat.le_of_ble_eq_true rfl) rfl rfl (ra rfl (R_nil (cG (T_freeze (i := 0) (tt := 6) rfl rfl frz_ptr (cU (rm rfl (R_call0 Tryz.call213 (c_rIdO (n := n) hn) ⟨(Ht rfl), trivial⟩ rfl (fun B18 _ => (rm rfl (R_call0 Tryz.call213 (c_rIdO (n := n) hn) ⟨(Ht rfl), trivial⟩ rfl (fun B20 _ => (ra rfl (ra rfl (R_nil (cG (ts (ro rfl (bY (cZ 0)) (R_nil (T_block (T_keep [1, 2] rfl (by decide) (T_openW 0 rfl (fun vs hvs => (T_openW 1 rfl (fun us hus => ?_))))))))))))))))))))))))
 have hvl : vs.length = n := by have h := hvs.len; rw [FRow, List.length_map, (idM_shp n).1] at h; exact h
 have hul : us.length = n := by have h := hus.len; rw [FRow, List.length_map, (idM_shp n).1] at h; exact h
 refine T_loop (fun (k : Nat) => k ≤ js.length) (fun (k : Nat) => js.length - k) (fun (k : Nat) => [(1, JsT js), (6, PT (QT hlf)), (8, Is (.slice (some ⟨B18, 0, none⟩) n n)), (9, Is (.slice (some ⟨B20, 0, none⟩) n n)), (10, NT .i64 k)]) (fun (k : Nat) => [matW B18 31 98 5 vs vs (FRow QT (rmM js n k)), matW B20 31 98 5 us us (FRow QT (rbM js n k))]) 0 (Nat.zero_le _)
  (aQ rfl (aQ rfl (aQ rfl (aQ rfl (aQ rfl aX))))) (aK (matW_of rfl) (aK (matW_of rfl) aU)) (fun k hk => ?_)
 refine cG (ts (rm rfl (rm rfl (ro rfl (dW U_59 (Ht rfl) len_map) (ro rfl (op_lssN (Ht rfl) (Ht rfl)) (R_nil (cY (Ht rfl) (fun hd => ?_) (fun hd => ?_))))))))
 ·have hkn : k < js.length := by simp only [decide_eq_true_eq] at hd; omega
  obtain ⟨hp1, hq1, hpq1⟩ := jp_ne hJ hkn
  have hmm := fun x hx => prt_in hp x hx
  have hm1 : (jat js k).1 ∈ jfl js := by rw [jfl, List.mem_flatMap]; exact ⟨jat js k, by rw [show jat js k = js[k] by simp [jat, List.getD, hkn]]; exact List.getElem_mem hkn, by simp⟩
  have hm2 : (jat js k).2 ∈ jfl js := by rw [jfl, List.mem_flatMap]; exact ⟨jat js k, by rw [show jat js k = js[k] by simp [jat, List.getD, hkn]]; exact List.getElem_mem hkn, by simp⟩
  have hb1 := hmm _ hm1
  have hb2 := hmm _ hm2
  obtain ⟨q1, hq1d⟩ : ∃ q1, q1 = jp1 js k := ⟨_, rfl⟩
  obtain ⟨q2, hq2d⟩ : ∃ q2, q2 = jp2 js k := ⟨_, rfl⟩
  have he1 : (jat js k).1 - 1 = (q1 : Int) := by rw [hq1d]; show _ = (((jat js k).1 - 1).toNat : Int); omega
  have he2 : (jat js k).2 - 1 = (q2 : Int) := by rw [hq2d]; show _ = (((jat js k).2 - 1).toNat : Int); omega
  rw [← hq1d, ← hq2d] at hpq1
  rw [← hq1d] at hp1
  rw [← hq2d] at hq1
  have s0 := rmM_shp js n k
  have s1 : Shp (setM (rmM js n k) q1 q2 (Qi.ofInt (-1))) n n := setM_shp s0
  have s2 : Shp (setM (setM (rmM js n k) q1 q2 (Qi.ofInt (-1))) q2 q1 hlf) n n := setM_shp s1
  have r0 := rbM_shp js n k
  have r1 : Shp (setM (rbM js n k) q1 q1 hlf) n n := setM_shp r0
  have r2 : Shp (setM (setM (rbM js n k) q1 q1 hlf) q1 q2 (Qi.ofInt 1)) n n := setM_shp r1
  refine cK (cG (T_block (cG (C.D_start (m := 13) (dp 1 rfl (cQ (Ht rfl)) (dp 10 rfl (cQ (Ht rfl)) (dqq 27 0 28 1 rfl (dX U_59 Z_120 (Ht rfl) (Ht rfl) rfl (dU (dK (d := (0, 0)) hkn))) (dq 29 2 rfl (op_idxA U_120 Z_3 (Ht rfl) cJ rfl (by decide) rfl) (dq 30 3 rfl (dZ A_3 Z_3 (Ht rfl)) (dq 31 4 rfl (op_sub (Ht rfl) cJ (r := ((q1 : Nat) : Int)) ((w64 (z := (jat js k).1 - 1) (by omega)).trans (by omega))) ?_))))))))))
  refine dp 1 rfl (cQ (Ht rfl)) (dp 10 rfl (cQ (Ht rfl)) (dqq 33 6 34 7 rfl (dX U_59 Z_120 (Ht rfl) (Ht rfl) rfl (dU (dK (d := (0, 0)) hkn))) (dq 35 8 rfl (op_idxA U_120 Z_3 (Ht rfl) cJ rfl (by decide) rfl) (dq 36 9 rfl (dZ A_3 Z_3 (Ht rfl)) (dq 37 10 rfl (op_sub (Ht rfl) cJ (r := ((q2 : Nat) : Int)) ((w64 (z := (jat js k).2 - 1) (by omega)).trans (by omega))) ?_)))))
  refine dq 32 5 rfl (bY (Ht rfl)) (C.D_done mixed rfl (by kernel_rfl) (aJ (aJ (aJ (aJ (aJ (aJ (aJ (aJ (aJ (aJ (aJ (aJ (aJ (aV (ra rfl (R_nil (cG (C.D_start (m := 6) (dp 8 rfl (cQ (Ht rfl)) (dp 11 rfl (cQ (Ht rfl)) (dqq 39 0 40 1 rfl (op_idxB U_32 Z_31 (Ht rfl) (Ht rfl) rfl (by omega) (by rw [Nat.mul_one, Nat.zero_add])) ?_))))))))))))))))))))))
  refine dq 41 2 rfl (op_ldHW A_31 Z_31 (Ht rfl) (j := 0) rfl (by omega)) (dp 12 rfl (cQ (Ht rfl)) (d0 rfl (cX K_117 (c_rWhole (n := -1) (by decide) (by decide)) ⟨cJ, trivial⟩) (C.D_done mixed rfl (by kernel_rfl) (aJ (aJ (aJ (aJ (aJ (aJ (aV (ro rfl (op_idxW U_31 Z_98 (Ht rfl) (Ht rfl) rfl (j := 0) rfl (w3a hvl s0) (w3b s0 hp1) (w3c s0 hp1 hq1)) (R_stW (F := QT) Z_98 (Ht rfl) (Ht rfl) (j := 0) rfl (El.ag rfl) (w3a hvl s0) (w3b s0 hp1) (w3c s0 hp1 hq1) rfl (R_nil (cG (C.D_start (m := 6) ?_)))))))))))))))
  refine dp 8 rfl (cQ (Ht rfl)) (dp 12 rfl (cQ (Ht rfl)) (dqq 46 0 47 1 rfl (op_idxB U_32 Z_31 (Ht rfl) (Ht rfl) rfl (by omega) (by rw [Nat.mul_one, Nat.zero_add])) ?_))
  refine dq 48 2 rfl (op_ldHW A_31 Z_31 (Ht rfl) (j := 0) rfl (by omega)) (dp 11 rfl (cQ (Ht rfl)) (dp 6 rfl (dZ A_98 Z_98 (Ht rfl)) (C.D_done mixed rfl (by kernel_rfl) (aJ (aJ (aJ (aJ (aJ (aJ (aV (ro rfl (op_idxW U_31 Z_98 (Ht rfl) (Ht rfl) rfl (j := 0) rfl (w3a hvl s1) (w3b s1 hq1) (w3c s1 hq1 hp1)) (R_stW (F := QT) Z_98 (Ht rfl) (Ht rfl) (j := 0) rfl (El.ag rfl) (w3a hvl s1) (w3b s1 hq1) (w3c s1 hq1 hp1) rfl (R_nil (cG (C.D_start (m := 6) (dp 8 rfl (cQ (Ht rfl)) ?_))))))))))))))))
  refine dp 12 rfl (cQ (Ht rfl)) (dqq 53 0 54 1 rfl (op_idxB U_32 Z_31 (Ht rfl) (Ht rfl) rfl (by omega) (by rw [Nat.mul_one, Nat.zero_add])) ?_)
  refine dq 55 2 rfl (op_ldHW A_31 Z_31 (Ht rfl) (j := 0) rfl (by omega)) (dp 12 rfl (cQ (Ht rfl)) (dp 6 rfl (dZ A_98 Z_98 (Ht rfl)) (C.D_done mixed rfl (by kernel_rfl) (aJ (aJ (aJ (aJ (aJ (aJ (aV (ro rfl (op_idxW U_31 Z_98 (Ht rfl) (Ht rfl) rfl (j := 0) rfl (w3a hvl s2) (w3b s2 hq1) (w3c s2 hq1 hq1)) (R_stW (F := QT) Z_98 (Ht rfl) (Ht rfl) (j := 0) rfl (El.ag rfl) (w3a hvl s2) (w3b s2 hq1) (w3c s2 hq1 hq1) rfl (R_nil (cG (C.D_start (m := 6) (dp 9 rfl (cQ (Ht rfl)) ?_))))))))))))))))
  refine dp 11 rfl (cQ (Ht rfl)) (dqq 60 0 61 1 rfl (op_idxB U_32 Z_31 (Ht rfl) (Ht rfl) rfl (by omega) (by rw [Nat.mul_one, Nat.zero_add])) ?_)
  refine dq 62 2 rfl (op_ldHW A_31 Z_31 (Ht rfl) (j := 1) rfl (by omega)) (dp 11 rfl (cQ (Ht rfl)) (dp 6 rfl (dZ A_98 Z_98 (Ht rfl)) (C.D_done mixed rfl (by kernel_rfl) (aJ (aJ (aJ (aJ (aJ (aJ (aV (ro rfl (op_idxW U_31 Z_98 (Ht rfl) (Ht rfl) rfl (j := 1) rfl (w3a hul r0) (w3b r0 hp1) (w3c r0 hp1 hp1)) (R_stW (F := QT) Z_98 (Ht rfl) (Ht rfl) (j := 1) rfl (El.ag rfl) (w3a hul r0) (w3b r0 hp1) (w3c r0 hp1 hp1) rfl (R_nil (cG (C.D_start (m := 6) (dp 9 rfl (cQ (Ht rfl)) ?_))))))))))))))))
  refine dp 11 rfl (cQ (Ht rfl)) (dqq 67 0 68 1 rfl (op_idxB U_32 Z_31 (Ht rfl) (Ht rfl) rfl (by omega) (by rw [Nat.mul_one, Nat.zero_add])) ?_)
  refine dq 69 2 rfl (op_ldHW A_31 Z_31 (Ht rfl) (j := 1) rfl (by omega)) (dp 12 rfl (cQ (Ht rfl)) (d0 rfl (cX K_117 (c_rWhole (n := 1) (by decide) (by decide)) ⟨(cZ 1), trivial⟩) (C.D_done mixed rfl (by kernel_rfl) (aJ (aJ (aJ (aJ (aJ (aJ (aV (ro rfl (op_idxW U_31 Z_98 (Ht rfl) (Ht rfl) rfl (j := 1) rfl (w3a hul r1) (w3b r1 hp1) (w3c r1 hp1 hq1)) (R_stW (F := QT) Z_98 (Ht rfl) (Ht rfl) (j := 1) rfl (El.ag rfl) (w3a hul r1) (w3b r1 hp1) (w3c r1 hp1 hq1) rfl (R_nil (C.D_start (m := 7) ?_))))))))))))))
  refine dp 9 rfl (cQ (Ht rfl)) (dp 12 rfl (cQ (Ht rfl)) (dqq 74 0 75 1 rfl (op_idxB U_32 Z_31 (Ht rfl) (Ht rfl) rfl (by omega) (by rw [Nat.mul_one, Nat.zero_add])) ?_))
  refine dq 76 2 rfl (op_ldHW A_31 Z_31 (Ht rfl) (j := 1) rfl (by omega)) (dp 11 rfl (cQ (Ht rfl)) (dp 6 rfl (dZ A_98 Z_98 (Ht rfl)) (dq 79 5 rfl (cX Tryz.call187 (c_rNeg (x := hlf)) ⟨(Ht rfl), trivial⟩) (C.D_done mixed rfl (by kernel_rfl) (aJ (aJ (aJ (aJ (aJ (aJ (aJ (aV (ro rfl (op_idxW U_31 Z_98 (Ht rfl) (Ht rfl) rfl (j := 1) rfl (w3a hul r2) (w3b r2 hq1) (w3c r2 hq1 hp1)) (R_stW (F := QT) Z_98 (Ht rfl) (Ht rfl) (j := 1) rfl (El.ag rfl) (w3a hul r2) (w3b r2 hq1) (w3c r2 hq1 hp1) rfl ?_))))))))))))))
  refine R_nil (T_blk (cU (rm rfl (ro rfl (dJ (Ht rfl) (cZ 1) (by show _ < 9223372036854775808; first | omega | (simp only [lim]; omega))) (ra rfl (R_nil (T_again (k + 1) hkn (by omega) (aQ rfl (aQ rfl (aQ rfl (aQ rfl (aQ rfl aX))))) (aK (matW_of (by rw [hq1d, hq2d]; rfl)) (aK (matW_of (by rw [hq1d, hq2d]; rfl)) aU)))))))))
 ·obtain rfl : k = js.length := by simp only [decide_eq_false_iff_not] at hd; omega
  refine T_exit rfl (cG (T_conv 0 rfl (matW_close (by rw [hvl, FRow, List.length_map, (rmM_shp js n js.length).1])) ?_))
  refine T_conv 1 rfl (matW_close (by rw [hul, FRow, List.length_map, (rbM_shp js n js.length).1])) ?_
  refine T_freeze (i := 0) (tt := 8) rfl rfl (frz_matF (s := 5) (M := rmM js n js.length) (rmM_shp js n js.length).1.symm) (T_freeze (i := 1) (tt := 9) rfl rfl (frz_matF (s := 5) (M := rbM js n js.length) (rbM_shp js n js.length).1.symm) (cU (rm rfl (rm rfl (ra rfl (ra rfl (R_nil ?_)))))))
  exact T_ret2 rfl (rv_tmp rfl) (rv_tmp rfl)
set_option maxHeartbeats 2000000 in
set_option maxRecDepth 20000 in
theorem c_rMixed {z : List Qi} {s : List (List Qi)} {js : List (Int × Int)} {L : Nat} (hs : Shp s z.length z.length) (hf : FitM s L) (hfz : FitL z L) (hL : 1 ≤ L) (hLb : L ≤ 1000) (h1 : 1 ≤ z.length) (h8 : z.length ≤ 8) (hj : js.length ≤ 100) : Fun Tryz.prog 32 [RNetT z s, JsT js] (TupT [RNetT (xdZ z js) (xdS z s js), IntT .i64 (xdE z js)]) := by
 refine Fun.intro Tryz.func32 rfl Tryz.ntmps32 rfl (fun cx => (ts (rn rfl (new_box (Ht rfl)) fun B2 => (rn rfl (new_alloc (Ts := [Is (.slice none 0 0), Is (.slice none 0 0)]) O_34 rfl (fun V => aW ⟨rfl, trivial⟩ (aW ⟨rfl, trivial⟩ (aG)))) fun B4 => (ro rfl (bY (cZ 0)) (R_nil (cG (ts (ro rfl (op_ldBA A_34 Z_34 (Ht rfl) (i := 0) rfl rfl rfl) (rm rfl (ro rfl (cX Tryz.call113 (c_rPaired (r := 1) (z := z) (S := s) (js := js) (L := L) (by decide) hfz hL (by omega) (by omega) hj) ⟨(Ht rfl), (Ht rfl), (cZ 1), trivial⟩) ?_)))))))))))
 refine ra rfl (R_nil (ts (rm rfl (ro rfl (op_neq (Ht rfl) cJ) (R_nil (cY (Ht rfl) (fun hc => ?_) (fun hc => ?_)))))))
 ·have h3 : xdE z js ≠ 0 := by simpa [xdE] using hc
  refine ts (ro rfl (OpTy.imp (bld_34_ ) rnet_nil) (rm rfl (R_stA Z_34 (Ht rfl) (Ht rfl) rfl (i := 1) rfl (Nat.le_of_ble_eq_true rfl) rfl rfl (ra rfl (R_nil (T_ret2 rfl (rv_to (rv_cell A_34 Z_34 rfl (i := 1) rfl rfl) ?_) (rv_tmp rfl)))))))
  exact (fun v V h => by rw [xdZ, xdS, okL, okL, if_neg h3, if_neg h3]; exact h)
 ·have h3 : xdE z js = 0 := by simpa [xdE] using hc
  have hE : moE (phR 1) z js = 0 := h3
  have hp : prtE z.length (jfl js) = 0 := mo_prt hE
  have hJ := prt_jn hp
  have hjl := mo_le hp
  obtain ⟨n, hn⟩ : ∃ n, n = z.length := ⟨_, rfl⟩
  have hmf := rmM_fit js z.length js.length
  have hbf := rbM_fit js z.length js.length
  have hms := rmM_shp js z.length js.length
  have hbs := rbM_shp js z.length js.length
  refine cK (ts (ro rfl (op_fldB fa_34_0 (Ht rfl) rfl) (ro rfl (op_ldB A_31 Z_31 (Ht rfl) (i := 0) rfl rfl) (ro rfl (dW U_31 (Ht rfl) len_map) (rm rfl (ro rfl (cX Tryz.call114 (c_rModes (n := z.length) (js := js) hp (by omega) hj) ⟨(Ht rfl), (Ht rfl), trivial⟩) (rm rfl (ro rfl (dG (Ht rfl) rfl) (ro rfl (dG (Ht rfl) rfl) (ra rfl (ra rfl (R_nil (ts (rm rfl (ro rfl (op_fldB fa_34_1 (Ht rfl) rfl) (ro rfl (op_ldB Tryz.isAgg32 Z_32 (Ht rfl) (i := 0) rfl rfl) (ro rfl (cX Tryz.call115 (c_rProd (n := z.length) (k := z.length) (m := z.length) hms hs hmf hf (by decide) hL (by decide) (by omega) h1 h1 h8 h8 h8) ⟨(Ht rfl), (Ht rfl), trivial⟩) ?_)))))))))))))))))
  refine rm rfl (ro rfl (dG (Ht rfl) rfl) (ro rfl (dG (Ht rfl) rfl) (ra rfl (ra rfl (R_nil (ts (rm rfl (rm rfl (ro rfl (cX Tryz.call115 (c_rProd (n := z.length) (k := z.length) (m := z.length) mulM_shp hbs (mulM_fit (L := 2) (M := L) hmf hf (by decide) hL h8) hbf (by omega) (by decide) (by omega) (by decide) h1 h1 h8 h8 h8) ⟨(Ht rfl), (Ht rfl), trivial⟩) (rm rfl (ro rfl (dG (Ht rfl) rfl) (ro rfl (dG (Ht rfl) rfl) (ra rfl (ra rfl (R_nil (ts (rn rfl (new_bslice0 U_31 Z_98 O_98) fun B45 => (ro rfl (op_fldB fa_34_0 (Ht rfl) rfl) ?_))))))))))))))))))
  refine ro rfl (op_ldB A_31 Z_31 (Ht rfl) (i := 0) rfl rfl) (R_appendA (inf := Tryz.t98) und_31 info_98 rfl rfl rfl (Ht rfl) (Ht rfl) (i := 2) rfl (fun T hT => by obtain ⟨x, _, rfl⟩ := List.mem_map.1 hT; exact El.ag rfl) (by show _ * 88 ≤ _; simp only [List.length_map, List.length_nil]; omega) (by simp only [List.length_map, List.length_nil]; omega) rfl (fun vA => ?_))
  refine ra rfl (R_nil (ts (ro rfl (cX Tryz.call116 (c_rNew (p := 1) (q := 0) (d := 2) (by decide) (by decide) (by decide) (by decide) (by decide) (by decide) (by decide)) ⟨(cZ 1), (cZ 0), (cZ 2), trivial⟩) (rm rfl (ro rfl (dG (Ht rfl) rfl) (ro rfl (dG (Ht rfl) rfl) (rn rfl (new_alloc (Ts := [Is (.bool false), Is (.slice none 0 0), Is (.bool false), Is (.slice none 0 0), Is (.slice none 0 0)]) O_98 rfl (fun V => aW ⟨rfl, trivial⟩ (aW ⟨rfl, trivial⟩ (aW ⟨rfl, trivial⟩ (aW ⟨rfl, trivial⟩ (aW ⟨rfl, trivial⟩ (aG))))))) fun B14 => ?_)))))))
  refine R_stA Z_98 (Ht rfl) (Ht rfl) rfl (i := 3) rfl (Nat.le_of_ble_eq_true rfl) rfl rfl (ra rfl (R_nil (cG (cG (T_freeze (i := 3) (tt := 14) rfl rfl frz_ptr (cU (ro rfl (bY (cZ 0)) (R_nil (T_block (T_keep [1, 2] rfl (by decide) ?_))))))))))
  refine T_loop2 (fun (k : Nat) (vZ : Value) => k ≤ js.length) (fun (k : Nat) (vZ : Value) => js.length - k) (fun (k : Nat) (vZ : Value) => [(1, JsT js), (4, PtrB B4 0), (11, QM (mulM (mulM (rmM js z.length js.length) s z.length z.length z.length) (rbM js z.length js.length) z.length z.length z.length)), (13, Is vZ), (14, PT (QT hlf)), (16, NT .i64 k)]) (fun (k : Nat) (vZ : Value) => [box B4 34 [Is (.slice none 0 0), Is (.slice none 0 0)], rowO 98 5 vZ ((moZ2 (fun x => Qi.ofInt 2 * x) (fun x => hlf * x) z js k).map QT)]) 0 _ (Nat.zero_le _)
   (aQ rfl (aQ rfl (aQ rfl (aQ rfl (aQ rfl (aQ rfl aX)))))) (aK (box_of rfl) (aK (rowO_of rfl) aU)) (fun k vZ hk => ?_)
  refine cG (ts (rm rfl (rm rfl (ro rfl (dW U_59 (Ht rfl) len_map) (ro rfl (op_lssN (Ht rfl) (Ht rfl)) (R_nil (cY (Ht rfl) (fun hd => ?_) (fun hd => ?_))))))))
  ·have hkn : k < js.length := by simp only [decide_eq_true_eq] at hd; omega
   obtain ⟨hp1, hq1, hpq1⟩ := jp_ne hJ hkn
   have hmm := fun x hx => prt_in hp x hx
   have hm1 : (jat js k).1 ∈ jfl js := by rw [jfl, List.mem_flatMap]; exact ⟨jat js k, by rw [show jat js k = js[k] by simp [jat, List.getD, hkn]]; exact List.getElem_mem hkn, by simp⟩
   have hm2 : (jat js k).2 ∈ jfl js := by rw [jfl, List.mem_flatMap]; exact ⟨jat js k, by rw [show jat js k = js[k] by simp [jat, List.getD, hkn]]; exact List.getElem_mem hkn, by simp⟩
   have hb1 := hmm _ hm1
   have hb2 := hmm _ hm2
   obtain ⟨q1, hq1d⟩ : ∃ q1, q1 = jp1 js k := ⟨_, rfl⟩
   obtain ⟨q2, hq2d⟩ : ∃ q2, q2 = jp2 js k := ⟨_, rfl⟩
   have he1 : (jat js k).1 - 1 = (q1 : Int) := by rw [hq1d]; show _ = (((jat js k).1 - 1).toNat : Int); omega
   have he2 : (jat js k).2 - 1 = (q2 : Int) := by rw [hq2d]; show _ = (((jat js k).2 - 1).toNat : Int); omega
   rw [← hq1d, ← hq2d] at hpq1
   rw [← hq1d] at hp1
   rw [← hq2d] at hq1
   have hZf : FitL (moZ2 (fun x => Qi.ofInt 2 * x) (fun x => hlf * x) z js k) (4096 * (L + 8)) := by rw [mx_zf hE (by omega)]; exact moZ_fit4 mul2_z mulh_z hfz hL (by omega)
   have hZl : (moZ2 (fun x => Qi.ofInt 2 * x) (fun x => hlf * x) z js k).length = z.length := moZ2_len _ _ _ _ _
   have hnx : (moZ2 (fun x => Qi.ofInt 2 * x) (fun x => hlf * x) z js (k + 1)) = ((moZ2 (fun x => Qi.ofInt 2 * x) (fun x => hlf * x) z js k).set (jp1 js k) (Qi.ofInt 2 * gv (moZ2 (fun x => Qi.ofInt 2 * x) (fun x => hlf * x) z js k) (jp1 js k))).set (jp2 js k) (hlf * gv ((moZ2 (fun x => Qi.ofInt 2 * x) (fun x => hlf * x) z js k).set (jp1 js k) (Qi.ofInt 2 * gv (moZ2 (fun x => Qi.ofInt 2 * x) (fun x => hlf * x) z js k) (jp1 js k))) (jp2 js k)) := rfl
   rw [← hq1d, ← hq2d] at hnx
   obtain ⟨Zk, hZk⟩ : ∃ Zk, Zk = (moZ2 (fun x => Qi.ofInt 2 * x) (fun x => hlf * x) z js k) := ⟨_, rfl⟩
   rw [← hZk] at hZf hZl hnx ⊢
   haveI g1 : FitC (gv Zk q1) (4096 * (L + 8)) := hZf.get (by omega) _
   have g2 : gv (Zk.set q1 (Qi.ofInt 2 * gv Zk q1)) q2 = gv Zk q2 := by rw [gv_set (by omega), if_neg (Ne.symm hpq1)]
   haveI g3 : FitC (gv (Zk.set q1 (Qi.ofInt 2 * gv Zk q1)) q2) (4096 * (L + 8)) := by rw [g2]; exact hZf.get (by omega) _
   haveI g4 := two_fit
   haveI g5 := hlf_fit
   have hZs : (Zk.set q1 (Qi.ofInt 2 * gv Zk q1)).length = z.length := by rw [List.length_set]; exact hZl
   refine cK (cG (T_block (cG (C.D_start (m := 18) (dp 13 rfl (cQ (Ht rfl)) (dp 1 rfl (cQ (Ht rfl)) (dp 16 rfl (cQ (Ht rfl)) (dqq 60 1 61 2 rfl (dX U_59 Z_120 (Ht rfl) (Ht rfl) rfl (dU (dK (d := (0, 0)) hkn))) (dq 62 3 rfl (op_idxA U_120 Z_3 (Ht rfl) cJ rfl (by decide) rfl) (dq 63 4 rfl (dZ A_3 Z_3 (Ht rfl)) (dq 64 5 rfl (op_sub (Ht rfl) cJ (r := ((q1 : Nat) : Int)) ((w64 (z := (jat js k).1 - 1) (by omega)).trans (by omega))) ?_)))))))))))
   refine d0 rfl (cX K_117 (c_rWhole (n := 2) (by decide) (by decide)) ⟨(cZ 2), trivial⟩) (dp 13 rfl (cQ (Ht rfl)) (dp 1 rfl (cQ (Ht rfl)) (dp 16 rfl (cQ (Ht rfl)) (dqq 68 9 69 10 rfl (dX U_59 Z_120 (Ht rfl) (Ht rfl) rfl (dU (dK (d := (0, 0)) hkn))) (dq 70 11 rfl (op_idxA U_120 Z_3 (Ht rfl) cJ rfl (by decide) rfl) (dq 71 12 rfl (dZ A_3 Z_3 (Ht rfl)) (dq 72 13 rfl (op_sub (Ht rfl) cJ (r := ((q1 : Nat) : Int)) ((w64 (z := (jat js k).1 - 1) (by omega)).trans (by omega))) ?_)))))))
   refine dqq 67 8 73 14 rfl (op_idxO U_31 Z_98 (Ht rfl) (Ht rfl) rfl (i := 1) rfl (by rw [List.length_map]; omega) rfl) ?_
   refine dq 74 15 rfl (op_ldO A_98 Z_98 (Ht rfl) (i := 1) rfl rfl (dU (dK (d := Qi.zero) (by omega)))) (dqq 66 7 75 16 rfl (cX K_99 (c_rMul (x := Qi.ofInt 2) (y := gv Zk q1) (L := 2) (M := 4096 * (L + 8)) (by omega)) ⟨(Ht rfl), (Ht rfl), trivial⟩) (C.D_done mixed rfl (by kernel_rfl) (aJ (aJ (aJ (aJ (aJ (aJ (aJ (aJ (aJ (aJ (aJ (aJ (aJ (aJ (aJ (aJ (aJ (aJ (aV (ro rfl (op_idxO U_31 Z_98 (Ht rfl) (Ht rfl) rfl (i := 1) rfl (by rw [List.length_map]; omega) rfl) ?_))))))))))))))))))))))
   refine R_stO Z_98 (Ht rfl) (Ht rfl) (El.ag rfl) (i := 1) rfl rfl (by rw [List.length_map]; omega) rfl ?_
   refine R_nil (T_conv 1 rfl (rowO_of (set_mapF ..) : ∀ S m V, _ → (rowO 98 5 vZ ((Zk.set q1 (Qi.ofInt 2 * gv Zk q1)).map QT)).h S m V) (C.D_start (m := 18) (dp 13 rfl (cQ (Ht rfl)) (dp 1 rfl (cQ (Ht rfl)) (dp 16 rfl (cQ (Ht rfl)) (dqq 79 1 80 2 rfl (dX U_59 Z_120 (Ht rfl) (Ht rfl) rfl (dU (dK (d := (0, 0)) hkn))) (dq 81 3 rfl (op_idxA U_120 Z_3 (Ht rfl) cJ rfl (by decide) rfl) (dq 82 4 rfl (dZ A_3 Z_3 (Ht rfl)) (dq 83 5 rfl (op_sub (Ht rfl) cJ (r := ((q2 : Nat) : Int)) ((w64 (z := (jat js k).2 - 1) (by omega)).trans (by omega))) ?_)))))))))
   refine dp 14 rfl (dZ A_98 Z_98 (Ht rfl)) (dp 13 rfl (cQ (Ht rfl)) (dp 1 rfl (cQ (Ht rfl)) (dp 16 rfl (cQ (Ht rfl)) (dqq 87 9 88 10 rfl (dX U_59 Z_120 (Ht rfl) (Ht rfl) rfl (dU (dK (d := (0, 0)) hkn))) (dq 89 11 rfl (op_idxA U_120 Z_3 (Ht rfl) cJ rfl (by decide) rfl) (dq 90 12 rfl (dZ A_3 Z_3 (Ht rfl)) (dq 91 13 rfl (op_sub (Ht rfl) cJ (r := ((q2 : Nat) : Int)) ((w64 (z := (jat js k).2 - 1) (by omega)).trans (by omega))) ?_)))))))
   refine dqq 86 8 92 14 rfl (op_idxO U_31 Z_98 (Ht rfl) (Ht rfl) rfl (i := 1) rfl (by rw [List.length_map, hZs]; omega) rfl) ?_
   refine dq 93 15 rfl (op_ldO A_98 Z_98 (Ht rfl) (i := 1) rfl rfl (dU (dK (d := Qi.zero) (by omega)))) (dqq 85 7 94 16 rfl (cX K_99 (c_rMul (x := hlf) (y := gv (Zk.set q1 (Qi.ofInt 2 * gv Zk q1)) q2) (L := 2) (M := 4096 * (L + 8)) (by omega)) ⟨(Ht rfl), (Ht rfl), trivial⟩) (C.D_done mixed rfl (by kernel_rfl) (aJ (aJ (aJ (aJ (aJ (aJ (aJ (aJ (aJ (aJ (aJ (aJ (aJ (aJ (aJ (aJ (aJ (aJ (aV (ro rfl (op_idxO U_31 Z_98 (Ht rfl) (Ht rfl) rfl (i := 1) rfl (by rw [List.length_map, hZs]; omega) rfl) ?_))))))))))))))))))))))
   refine R_stO Z_98 (Ht rfl) (Ht rfl) (El.ag rfl) (i := 1) rfl rfl (by rw [List.length_map, hZs]; omega) rfl ?_
   refine R_nil (T_blk (cU (rm rfl (ro rfl (dJ (Ht rfl) (cZ 1) (by show _ < 9223372036854775808; first | omega | (simp only [lim]; omega))) (ra rfl (R_nil (T_keep [0, 1] rfl (by decide) (T_again (k + 1, vZ) hkn (by dsimp only; omega) (aQ rfl (aQ rfl (aQ rfl (aQ rfl (aQ rfl (aQ rfl aX)))))) (aK (box_of rfl) (aK (rowO_of (by rw [hnx, List.map_set (l := Zk.set q1 (Qi.ofInt 2 * gv Zk q1))])) aU))))))))))
  ·obtain rfl : k = js.length := by simp only [decide_eq_false_iff_not] at hd; omega
   rw [mx_zf hE (Nat.le_refl _)]
   refine T_exit rfl (cG (T_freeze (i := 1) (tt := 13) rfl rfl frz_row (cU (rm rfl (rm rfl (ro rfl (bld_34_0_1 (Ht rfl) (Ht rfl)) (R_stA Z_34 (Ht rfl) (Ht rfl) rfl (i := 0) rfl (Nat.le_of_ble_eq_true rfl) rfl rfl (ro rfl (bY (cZ 0)) (R_nil (T_ret2 rfl (rv_to (rv_cell A_34 Z_34 rfl (i := 0) rfl rfl) ?_) (rv_to (rv_tmp rfl) ?_)))))))))))
   ·exact (fun v V h => by rw [xdZ, xdS, okL, okL, if_pos h3, if_pos h3, ← mx_prod hs hJ _ (Nat.le_refl _)]; exact h)
   ·exact (int_of h3.symm)
set_option maxHeartbeats 2000000 in
set_option maxRecDepth 20000 in
theorem c_rSingle {z : List Qi} {s : List (List Qi)} {js : List (Int × Int)} {L : Nat} (hs : Shp s z.length z.length) (hf : FitM s L) (hfz : FitL z L) (hL : 1 ≤ L) (hLb : L ≤ 1000) (h1 : 1 ≤ z.length) (h8 : z.length ≤ 8) (hj : js.length ≤ 100) : Fun Tryz.prog 34 [RNetT z s, JsT js] (TupT [RNetT (xsZ z js) (xsS z s js), IntT .i64 (xsE z js)]) := by
 refine Fun.intro Tryz.func34 rfl Tryz.ntmps34 rfl (fun cx => (ts (rn rfl (new_box (Ht rfl)) fun B2 => (rn rfl (new_alloc (Ts := [Is (.slice none 0 0), Is (.slice none 0 0)]) O_34 rfl (fun V => aW ⟨rfl, trivial⟩ (aW ⟨rfl, trivial⟩ (aG)))) fun B4 => (ro rfl (bY (cZ 0)) (R_nil (cG (ts (ro rfl (op_ldBA A_34 Z_34 (Ht rfl) (i := 0) rfl rfl rfl) (rm rfl (ro rfl (cX Tryz.call113 (c_rPaired (r := 4) (z := z) (S := s) (js := js) (L := L) (by decide) hfz hL (by omega) (by omega) hj) ⟨(Ht rfl), (Ht rfl), (cZ 4), trivial⟩) ?_)))))))))))
 refine ra rfl (R_nil (ts (rm rfl (ro rfl (op_neq (Ht rfl) cJ) (R_nil (cY (Ht rfl) (fun hc => ?_) (fun hc => ?_)))))))
 ·have h3 : xsE z js ≠ 0 := by simpa [xsE] using hc
  refine ts (ro rfl (OpTy.imp (bld_34_ ) rnet_nil) (rm rfl (R_stA Z_34 (Ht rfl) (Ht rfl) rfl (i := 1) rfl (Nat.le_of_ble_eq_true rfl) rfl rfl (ra rfl (R_nil (T_ret2 rfl (rv_to (rv_cell A_34 Z_34 rfl (i := 1) rfl rfl) ?_) (rv_tmp rfl)))))))
  exact (fun v V h => by rw [xsZ, xsS, okL, okL, if_neg h3, if_neg h3]; exact h)
 ·have h3 : xsE z js = 0 := by simpa [xsE] using hc
  have hE : moE (phR 4) z js = 0 := h3
  have hp : prtE z.length (jfl js) = 0 := mo_prt hE
  have hJ := prt_jn hp
  have hjl := mo_le hp
  obtain ⟨n, hn⟩ : ∃ n, n = z.length := ⟨_, rfl⟩
  have hmf := rmM_fit js z.length js.length
  have hbf := rbM_fit js z.length js.length
  have hms := rmM_shp js z.length js.length
  have hbs := rbM_shp js z.length js.length
  refine cK (ts (ro rfl (op_fldB fa_34_0 (Ht rfl) rfl) (ro rfl (op_ldB A_31 Z_31 (Ht rfl) (i := 0) rfl rfl) (ro rfl (dW U_31 (Ht rfl) len_map) (rm rfl (ro rfl (cX Tryz.call114 (c_rModes (n := z.length) (js := js) hp (by omega) hj) ⟨(Ht rfl), (Ht rfl), trivial⟩) (rm rfl (ro rfl (dG (Ht rfl) rfl) (ro rfl (dG (Ht rfl) rfl) (ra rfl (ra rfl (R_nil (ts (rm rfl (ro rfl (op_fldB fa_34_1 (Ht rfl) rfl) (ro rfl (op_ldB Tryz.isAgg32 Z_32 (Ht rfl) (i := 0) rfl rfl) (ro rfl (cX Tryz.call115 (c_rProd (n := z.length) (k := z.length) (m := z.length) hbs hs hbf hf (by decide) hL (by decide) (by omega) h1 h1 h8 h8 h8) ⟨(Ht rfl), (Ht rfl), trivial⟩) ?_)))))))))))))))))
  refine rm rfl (ro rfl (dG (Ht rfl) rfl) (ro rfl (dG (Ht rfl) rfl) (ra rfl (ra rfl (R_nil (ts (rm rfl (rm rfl (ro rfl (cX Tryz.call115 (c_rProd (n := z.length) (k := z.length) (m := z.length) mulM_shp hms (mulM_fit (L := 2) (M := L) hbf hf (by decide) hL h8) hmf (by omega) (by decide) (by omega) (by decide) h1 h1 h8 h8 h8) ⟨(Ht rfl), (Ht rfl), trivial⟩) (rm rfl (ro rfl (dG (Ht rfl) rfl) (ro rfl (dG (Ht rfl) rfl) (ra rfl (ra rfl (R_nil (ts (rn rfl (new_bslice0 U_31 Z_98 O_98) fun B45 => (ro rfl (op_fldB fa_34_0 (Ht rfl) rfl) ?_))))))))))))))))))
  refine ro rfl (op_ldB A_31 Z_31 (Ht rfl) (i := 0) rfl rfl) (R_appendA (inf := Tryz.t98) und_31 info_98 rfl rfl rfl (Ht rfl) (Ht rfl) (i := 2) rfl (fun T hT => by obtain ⟨x, _, rfl⟩ := List.mem_map.1 hT; exact El.ag rfl) (by show _ * 88 ≤ _; simp only [List.length_map, List.length_nil]; omega) (by simp only [List.length_map, List.length_nil]; omega) rfl (fun vA => ?_))
  refine ra rfl (R_nil (ts (ro rfl (cX Tryz.call116 (c_rNew (p := 1) (q := 0) (d := 2) (by decide) (by decide) (by decide) (by decide) (by decide) (by decide) (by decide)) ⟨(cZ 1), (cZ 0), (cZ 2), trivial⟩) (rm rfl (ro rfl (dG (Ht rfl) rfl) (ro rfl (dG (Ht rfl) rfl) (rn rfl (new_alloc (Ts := [Is (.bool false), Is (.slice none 0 0), Is (.bool false), Is (.slice none 0 0), Is (.slice none 0 0)]) O_98 rfl (fun V => aW ⟨rfl, trivial⟩ (aW ⟨rfl, trivial⟩ (aW ⟨rfl, trivial⟩ (aW ⟨rfl, trivial⟩ (aW ⟨rfl, trivial⟩ (aG))))))) fun B14 => ?_)))))))
  refine R_stA Z_98 (Ht rfl) (Ht rfl) rfl (i := 3) rfl (Nat.le_of_ble_eq_true rfl) rfl rfl (ra rfl (R_nil (cG (cG (T_freeze (i := 3) (tt := 14) rfl rfl frz_ptr (cU (ro rfl (bY (cZ 0)) (R_nil (T_block (T_keep [1, 2] rfl (by decide) ?_))))))))))
  refine T_loop2 (fun (k : Nat) (vZ : Value) => k ≤ js.length) (fun (k : Nat) (vZ : Value) => js.length - k) (fun (k : Nat) (vZ : Value) => [(1, JsT js), (4, PtrB B4 0), (11, QM (mulM (mulM (rbM js z.length js.length) s z.length z.length z.length) (rmM js z.length js.length) z.length z.length z.length)), (13, Is vZ), (14, PT (QT hlf)), (16, NT .i64 k)]) (fun (k : Nat) (vZ : Value) => [box B4 34 [Is (.slice none 0 0), Is (.slice none 0 0)], rowO 98 5 vZ ((moZ2 (fun x => hlf * x) (fun x => Qi.ofInt 2 * x) z js k).map QT)]) 0 _ (Nat.zero_le _)
   (aQ rfl (aQ rfl (aQ rfl (aQ rfl (aQ rfl (aQ rfl aX)))))) (aK (box_of rfl) (aK (rowO_of rfl) aU)) (fun k vZ hk => ?_)
  refine cG (ts (rm rfl (rm rfl (ro rfl (dW U_59 (Ht rfl) len_map) (ro rfl (op_lssN (Ht rfl) (Ht rfl)) (R_nil (cY (Ht rfl) (fun hd => ?_) (fun hd => ?_))))))))
  ·have hkn : k < js.length := by simp only [decide_eq_true_eq] at hd; omega
   obtain ⟨hp1, hq1, hpq1⟩ := jp_ne hJ hkn
   have hmm := fun x hx => prt_in hp x hx
   have hm1 : (jat js k).1 ∈ jfl js := by rw [jfl, List.mem_flatMap]; exact ⟨jat js k, by rw [show jat js k = js[k] by simp [jat, List.getD, hkn]]; exact List.getElem_mem hkn, by simp⟩
   have hm2 : (jat js k).2 ∈ jfl js := by rw [jfl, List.mem_flatMap]; exact ⟨jat js k, by rw [show jat js k = js[k] by simp [jat, List.getD, hkn]]; exact List.getElem_mem hkn, by simp⟩
   have hb1 := hmm _ hm1
   have hb2 := hmm _ hm2
   obtain ⟨q1, hq1d⟩ : ∃ q1, q1 = jp1 js k := ⟨_, rfl⟩
   obtain ⟨q2, hq2d⟩ : ∃ q2, q2 = jp2 js k := ⟨_, rfl⟩
   have he1 : (jat js k).1 - 1 = (q1 : Int) := by rw [hq1d]; show _ = (((jat js k).1 - 1).toNat : Int); omega
   have he2 : (jat js k).2 - 1 = (q2 : Int) := by rw [hq2d]; show _ = (((jat js k).2 - 1).toNat : Int); omega
   rw [← hq1d, ← hq2d] at hpq1
   rw [← hq1d] at hp1
   rw [← hq2d] at hq1
   have hZf : FitL (moZ2 (fun x => hlf * x) (fun x => Qi.ofInt 2 * x) z js k) (4096 * (L + 8)) := by rw [sg_zf hE (by omega)]; exact moZ_fit4 mulh_z mulh_z hfz hL (by omega)
   have hZl : (moZ2 (fun x => hlf * x) (fun x => Qi.ofInt 2 * x) z js k).length = z.length := moZ2_len _ _ _ _ _
   have hnx : (moZ2 (fun x => hlf * x) (fun x => Qi.ofInt 2 * x) z js (k + 1)) = ((moZ2 (fun x => hlf * x) (fun x => Qi.ofInt 2 * x) z js k).set (jp1 js k) (hlf * gv (moZ2 (fun x => hlf * x) (fun x => Qi.ofInt 2 * x) z js k) (jp1 js k))).set (jp2 js k) (Qi.ofInt 2 * gv ((moZ2 (fun x => hlf * x) (fun x => Qi.ofInt 2 * x) z js k).set (jp1 js k) (hlf * gv (moZ2 (fun x => hlf * x) (fun x => Qi.ofInt 2 * x) z js k) (jp1 js k))) (jp2 js k)) := rfl
   rw [← hq1d, ← hq2d] at hnx
   obtain ⟨Zk, hZk⟩ : ∃ Zk, Zk = (moZ2 (fun x => hlf * x) (fun x => Qi.ofInt 2 * x) z js k) := ⟨_, rfl⟩
   rw [← hZk] at hZf hZl hnx ⊢
   haveI g1 : FitC (gv Zk q1) (4096 * (L + 8)) := hZf.get (by omega) _
   have g2 : gv (Zk.set q1 (hlf * gv Zk q1)) q2 = gv Zk q2 := by rw [gv_set (by omega), if_neg (Ne.symm hpq1)]
   haveI g3 : FitC (gv (Zk.set q1 (hlf * gv Zk q1)) q2) (4096 * (L + 8)) := by rw [g2]; exact hZf.get (by omega) _
   haveI g4 := two_fit
   haveI g5 := hlf_fit
   have hZs : (Zk.set q1 (hlf * gv Zk q1)).length = z.length := by rw [List.length_set]; exact hZl
   refine cK (cG (T_block (cG (C.D_start (m := 18) (dp 13 rfl (cQ (Ht rfl)) (dp 1 rfl (cQ (Ht rfl)) (dp 16 rfl (cQ (Ht rfl)) (dqq 60 1 61 2 rfl (dX U_59 Z_120 (Ht rfl) (Ht rfl) rfl (dU (dK (d := (0, 0)) hkn))) (dq 62 3 rfl (op_idxA U_120 Z_3 (Ht rfl) cJ rfl (by decide) rfl) (dq 63 4 rfl (dZ A_3 Z_3 (Ht rfl)) (dq 64 5 rfl (op_sub (Ht rfl) cJ (r := ((q1 : Nat) : Int)) ((w64 (z := (jat js k).1 - 1) (by omega)).trans (by omega))) ?_)))))))))))
   refine dp 14 rfl (dZ A_98 Z_98 (Ht rfl)) (dp 13 rfl (cQ (Ht rfl)) (dp 1 rfl (cQ (Ht rfl)) (dp 16 rfl (cQ (Ht rfl)) (dqq 68 9 69 10 rfl (dX U_59 Z_120 (Ht rfl) (Ht rfl) rfl (dU (dK (d := (0, 0)) hkn))) (dq 70 11 rfl (op_idxA U_120 Z_3 (Ht rfl) cJ rfl (by decide) rfl) (dq 71 12 rfl (dZ A_3 Z_3 (Ht rfl)) (dq 72 13 rfl (op_sub (Ht rfl) cJ (r := ((q1 : Nat) : Int)) ((w64 (z := (jat js k).1 - 1) (by omega)).trans (by omega))) ?_)))))))
   refine dqq 67 8 73 14 rfl (op_idxO U_31 Z_98 (Ht rfl) (Ht rfl) rfl (i := 1) rfl (by rw [List.length_map]; omega) rfl) ?_
   refine dq 74 15 rfl (op_ldO A_98 Z_98 (Ht rfl) (i := 1) rfl rfl (dU (dK (d := Qi.zero) (by omega)))) (dqq 66 7 75 16 rfl (cX K_99 (c_rMul (x := hlf) (y := gv Zk q1) (L := 2) (M := 4096 * (L + 8)) (by omega)) ⟨(Ht rfl), (Ht rfl), trivial⟩) (C.D_done mixed rfl (by kernel_rfl) (aJ (aJ (aJ (aJ (aJ (aJ (aJ (aJ (aJ (aJ (aJ (aJ (aJ (aJ (aJ (aJ (aJ (aJ (aV (ro rfl (op_idxO U_31 Z_98 (Ht rfl) (Ht rfl) rfl (i := 1) rfl (by rw [List.length_map]; omega) rfl) ?_))))))))))))))))))))))
   refine R_stO Z_98 (Ht rfl) (Ht rfl) (El.ag rfl) (i := 1) rfl rfl (by rw [List.length_map]; omega) rfl ?_
   refine R_nil (T_conv 1 rfl (rowO_of (set_mapF ..) : ∀ S m V, _ → (rowO 98 5 vZ ((Zk.set q1 (hlf * gv Zk q1)).map QT)).h S m V) (C.D_start (m := 18) (dp 13 rfl (cQ (Ht rfl)) (dp 1 rfl (cQ (Ht rfl)) (dp 16 rfl (cQ (Ht rfl)) (dqq 79 1 80 2 rfl (dX U_59 Z_120 (Ht rfl) (Ht rfl) rfl (dU (dK (d := (0, 0)) hkn))) (dq 81 3 rfl (op_idxA U_120 Z_3 (Ht rfl) cJ rfl (by decide) rfl) (dq 82 4 rfl (dZ A_3 Z_3 (Ht rfl)) (dq 83 5 rfl (op_sub (Ht rfl) cJ (r := ((q2 : Nat) : Int)) ((w64 (z := (jat js k).2 - 1) (by omega)).trans (by omega))) ?_)))))))))
   refine d0 rfl (cX K_117 (c_rWhole (n := 2) (by decide) (by decide)) ⟨(cZ 2), trivial⟩) (dp 13 rfl (cQ (Ht rfl)) (dp 1 rfl (cQ (Ht rfl)) (dp 16 rfl (cQ (Ht rfl)) (dqq 87 9 88 10 rfl (dX U_59 Z_120 (Ht rfl) (Ht rfl) rfl (dU (dK (d := (0, 0)) hkn))) (dq 89 11 rfl (op_idxA U_120 Z_3 (Ht rfl) cJ rfl (by decide) rfl) (dq 90 12 rfl (dZ A_3 Z_3 (Ht rfl)) (dq 91 13 rfl (op_sub (Ht rfl) cJ (r := ((q2 : Nat) : Int)) ((w64 (z := (jat js k).2 - 1) (by omega)).trans (by omega))) ?_)))))))
   refine dqq 86 8 92 14 rfl (op_idxO U_31 Z_98 (Ht rfl) (Ht rfl) rfl (i := 1) rfl (by rw [List.length_map, hZs]; omega) rfl) ?_
   refine dq 93 15 rfl (op_ldO A_98 Z_98 (Ht rfl) (i := 1) rfl rfl (dU (dK (d := Qi.zero) (by omega)))) (dqq 85 7 94 16 rfl (cX K_99 (c_rMul (x := Qi.ofInt 2) (y := gv (Zk.set q1 (hlf * gv Zk q1)) q2) (L := 2) (M := 4096 * (L + 8)) (by omega)) ⟨(Ht rfl), (Ht rfl), trivial⟩) (C.D_done mixed rfl (by kernel_rfl) (aJ (aJ (aJ (aJ (aJ (aJ (aJ (aJ (aJ (aJ (aJ (aJ (aJ (aJ (aJ (aJ (aJ (aJ (aV (ro rfl (op_idxO U_31 Z_98 (Ht rfl) (Ht rfl) rfl (i := 1) rfl (by rw [List.length_map, hZs]; omega) rfl) ?_))))))))))))))))))))))
   refine R_stO Z_98 (Ht rfl) (Ht rfl) (El.ag rfl) (i := 1) rfl rfl (by rw [List.length_map, hZs]; omega) rfl ?_
   refine R_nil (T_blk (cU (rm rfl (ro rfl (dJ (Ht rfl) (cZ 1) (by show _ < 9223372036854775808; first | omega | (simp only [lim]; omega))) (ra rfl (R_nil (T_keep [0, 1] rfl (by decide) (T_again (k + 1, vZ) hkn (by dsimp only; omega) (aQ rfl (aQ rfl (aQ rfl (aQ rfl (aQ rfl (aQ rfl aX)))))) (aK (box_of rfl) (aK (rowO_of (by rw [hnx, List.map_set (l := Zk.set q1 (hlf * gv Zk q1))])) aU))))))))))
  ·obtain rfl : k = js.length := by simp only [decide_eq_false_iff_not] at hd; omega
   rw [sg_zf hE (Nat.le_refl _)]
   refine T_exit rfl (cG (T_freeze (i := 1) (tt := 13) rfl rfl frz_row (cU (rm rfl (rm rfl (ro rfl (bld_34_0_1 (Ht rfl) (Ht rfl)) (R_stA Z_34 (Ht rfl) (Ht rfl) rfl (i := 0) rfl (Nat.le_of_ble_eq_true rfl) rfl rfl (ro rfl (bY (cZ 0)) (R_nil (T_ret2 rfl (rv_to (rv_cell A_34 Z_34 rfl (i := 0) rfl rfl) ?_) (rv_to (rv_tmp rfl) ?_)))))))))))
   ·exact (fun v V h => by rw [xsZ, xsS, okL, okL, if_pos h3, if_pos h3, ← sg_prod hs hJ _ (Nat.le_refl _)]; exact h)
   ·exact (int_of h3.symm)
end
end Go.Proofs.YteimkhgiekndjaaGreat
