/- What functions of the program compute, proved by walks over their code, and the plain mathematics of it; a part of the proof in the last text. -/
import Derived.Test.YteimkhgiekndjaaGreatP05
set_option linter.unusedVariables false
set_option linter.unusedSimpArgs false
set_option maxRecDepth 100000
set_option maxHeartbeats 4000000
namespace Go.Proofs.YteimkhgiekndjaaGreat
section
open Go Go.RowKit
theorem tab_gv {n i : Nat} {f : Nat → Qi} (h : i < n) : (tab n f).getD i Qi.zero = f i := gv_tab h
theorem emD_fit {s f : List (List Qi)} {p L : Nat} (hs : FitM s L) (hf : FitM f L) (hL : 1 ≤ L) : FitC (emD s f p) (2 * L + 3) := by
 haveI := hs.get hL p p; haveI := hf.get hL 1 1; haveI := fit_one
 exact (inferInstance : FitC (Qi.ofInt 1 - gm f 1 1 * gm s p p) (1 + (L + L + 1) + 1)).le (by omega)
theorem rmD_fit {s f : List (List Qi)} {p L : Nat} (hs : FitM s L) (hf : FitM f L) (hL : 1 ≤ L) : FitC (rmD s f p) (5 * L + 5) := by
 haveI := hs.get hL p p; haveI := hf.get hL 1 1; haveI := hf.get hL 0 0; haveI := hf.get hL 0 1; haveI := hf.get hL 1 0
 exact (inferInstance : FitC (gm f 0 1 * gm f 1 0 + gm f 1 1 * (gm s p p - gm f 0 0)) ((L + L + 1) + (L + (L + L + 1) + 1) + 1)).le (by omega)
theorem embX_fit {s f : List (List Qi)} {p i j L : Nat} (hs : FitM s L) (hf : FitM f L) (hL : 1 ≤ L) (hd : emD s f p ≠ Qi.zero) : FitC (embX s f p i j) (20 * L + 20) := by
 haveI e := emD_fit (p := p) hs hf hL
 have q : ∀ a b, FitC (gm s a b / emD s f p) (7 * L + 11) := fun a b => (fit_div (hs.get hL a b) e hd).le (by omega)
 haveI q1 := q p p; haveI q2 := q i p; haveI q3 := q p j
 haveI := hs.get hL i j; haveI := hs.get hL p j; haveI := hf.get hL 1 1; haveI := hf.get hL 0 0; haveI := hf.get hL 0 1; haveI := hf.get hL 1 0
 rw [embX]
 split
 ·exact (inferInstance : FitC (_ + _ * (_ * _)) (L + (L + (L + (7 * L + 11) + 1) + 1) + 1)).le (by omega)
 ·split
  ·exact (inferInstance : FitC (_ * _) ((7 * L + 11) + L + 1)).le (by omega)
  ·split
   ·exact (inferInstance : FitC (_ * _) (L + (7 * L + 11) + 1)).le (by omega)
   ·exact (inferInstance : FitC (_ + _ * (_ * _)) (L + ((7 * L + 11) + (L + L + 1) + 1) + 1)).le (by omega)
theorem rmX_fit {s f : List (List Qi)} {p i j L : Nat} (hs : FitM s L) (hf : FitM f L) (hL : 1 ≤ L) (hd : rmD s f p ≠ Qi.zero) : FitC (rmX s f p i j) (40 * L + 40) := by
 haveI e := rmD_fit (p := p) hs hf hL
 have q : ∀ a b, FitC (gm s a b / rmD s f p) (16 * L + 17) := fun a b => (fit_div (hs.get hL a b) e hd).le (by omega)
 haveI q2 := q i p; haveI q3 := q p j
 haveI := hs.get hL i j; haveI := hs.get hL p j; haveI := hs.get hL p p; haveI := hf.get hL 1 1; haveI := hf.get hL 0 0; haveI := hf.get hL 0 1; haveI := hf.get hL 1 0
 rw [rmX]
 split
 ·exact (fit_div (inferInstance : FitC (gm s p p - gm f 0 0) (L + L + 1)) e hd).le (by omega)
 ·split
  ·exact (inferInstance : FitC (_ * _) ((16 * L + 17) + L + 1)).le (by omega)
  ·split
   ·exact (inferInstance : FitC (_ * _) (L + (16 * L + 17) + 1)).le (by omega)
   ·exact (inferInstance : FitC (_ - _ * (_ * _)) (L + ((16 * L + 17) + (L + L + 1) + 1) + 1)).le (by omega)
theorem embM_fit {s f : List (List Qi)} {p n L : Nat} (hs : FitM s L) (hf : FitM f L) (hL : 1 ≤ L) (hd : emD s f p ≠ Qi.zero) : FitM (embM s f p n) (20 * L + 20) := FitM.tab fun i j _ _ => embX_fit hs hf hL hd
theorem rmRM_fit {s f : List (List Qi)} {p n L : Nat} (hs : FitM s L) (hf : FitM f L) (hL : 1 ≤ L) (hd : rmD s f p ≠ Qi.zero) : FitM (rmRM s f p n) (40 * L + 40) := FitM.tab fun i j _ _ => rmX_fit hs hf hL hd
theorem tabq_get {n i : Nat} {f : Nat → Qi} (h : i < n) : ((tab n f).map NumT)[i]? = some (NumT (f i)) := by rw [List.getElem?_map, tab_get h]; rfl
theorem c_Embed1 {z : List Qi} {s f : List (List Qi)} {p i j L : Nat} (hs : Shp s z.length z.length) (hp : p < z.length) (hi : i < z.length) (hj : j < z.length) (hz : z.length ≤ 1000) (hfs : FitM s L) (hff : FitM f L) (hL : 1 ≤ L) (hLb : L ≤ 10000) (hd : emD s f p ≠ Qi.zero) : Fun Tryz.prog 152 [NT .i64 i, NT .i64 j, PT (NT .i64 p), PT (NumT (gm f 0 0)), PT (NumT (gm f 0 1)), PT (NumT (gm f 1 0)), PT (NumsT (tab z.length fun j => gm s p j / emD s f p)), PT (NumsT (tab z.length fun i => gm s i p / emD s f p)), PT (NetT z s), PT (NumT (gm f 1 1))] (NumT (embX s f p i j)) := by
 have hsl := hs.1
 have hsi := hs.row hi
 have hsp := hs.row hp
 haveI e := emD_fit (p := p) hfs hff hL
 have q : ∀ a b, FitC (gm s a b / emD s f p) (7 * L + 11) := fun a b => (fit_div (hfs.get hL a b) e hd).le (by omega)
 have hU : ∀ k, k < z.length → (tab z.length fun i => gm s i p / emD s f p).getD k Qi.zero = gm s k p / emD s f p := fun k h => tab_gv h
 have hV : ∀ k, k < z.length → (tab z.length fun j => gm s p j / emD s f p).getD k Qi.zero = gm s p k / emD s f p := fun k h => tab_gv h
 haveI := q p p; haveI := q i p; haveI := q p j
 haveI := hfs.get hL i j; haveI := hfs.get hL p j; haveI := hff.get hL 1 1; haveI := hff.get hL 0 0; haveI := hff.get hL 0 1; haveI := hff.get hL 1 0
 refine Fun.intro Tryz.func152 rfl Tryz.ntmps152 rfl (fun cx => (ts (rn rfl (eW (Ts := [Is (.bool false), Is (.slice none 0 0), Is (.bool false), Is (.slice none 0 0), Is (.slice none 0 0)]) O_45 rfl (fun V => aW ⟨rfl, trivial⟩ (aW ⟨rfl, trivial⟩ (aW ⟨rfl, trivial⟩ (aW ⟨rfl, trivial⟩ (aW ⟨rfl, trivial⟩ (aG))))))) fun B12 => (eX (cK (eG (ts (rm rfl (ro rfl (dJ A_3 Z_3 (Ht rfl)) (ro rfl (op_eqlN (Ht rfl) (Ht rfl)) (rm rfl (fQ rfl rfl (eK rfl rfl (Ht rfl) (fun h => cX (Ht rfl))) ?_))))))))))))
 refine fQ rfl rfl (eK rfl rfl (Ht rfl) (fun h => dJ A_3 Z_3 (Ht rfl))) (fQ rfl rfl (eK rfl rfl (Ht rfl) (fun h => op_eqlN (fJ rfl h) (fJ rfl h))) (ro rfl (op_and (Ht rfl) (fun h => (fJ rfl h))) (ra rfl (eX (dQ (Ht rfl) (fun hb1 => ?_) (fun hb1 => ?_))))))
 ·have h2 : i = p ∧ j = p := by simpa using hb1
  refine cK (fZ (m := 12) (dp 3 rfl (dJ A_45 Z_45 (Ht rfl)) (dq 22 0 rfl (op_iface mkif_45 (Ht rfl)) (dp 4 rfl (dJ A_45 Z_45 (Ht rfl)) (dq 24 2 rfl (op_iface mkif_45 (Ht rfl)) (dp 5 rfl (dJ A_45 Z_45 (Ht rfl)) (dq 26 4 rfl (op_iface mkif_45 (Ht rfl)) (dp 6 rfl (dJ A_27 Z_27 (Ht rfl)) (dp 2 rfl (dJ A_3 Z_3 (Ht rfl)) (dqq 28 6 29 7 rfl (dZ U_27 Z_45 (Ht rfl) (Ht rfl) rfl (tabq_get hp)) (dq 30 8 rfl (dJ A_45 Z_45 (Ht rfl)) (dqq 27 5 31 9 rfl (op_invoke meth_45_Mul K_67 (c_Mul (x := gm f 1 0) (y := gm s p p / emD s f p) (L := L) (M := (7 * L + 11)) (by omega)) (Ht rfl) ⟨(Ht rfl), trivial⟩) ?_))))))))))))
  refine dqq 25 3 32 10 rfl (op_invoke meth_45_Mul K_67 (c_Mul (x := gm f 0 1) (y := gm f 1 0 * (gm s p p / emD s f p)) (L := L) (M := L + (7 * L + 11) + 1) (by omega)) (Ht rfl) ⟨(Ht rfl), trivial⟩) (fV mixed rfl (by kernel_rfl) (aJ (aJ (aJ (aJ (aJ (aJ (aJ (aJ (aJ (aJ (aJ (aJ (aV (ro rfl (op_invoke meth_45_Add K_68 (c_Add (x := gm f 0 0) (y := gm f 0 1 * (gm f 1 0 * (gm s p p / emD s f p))) (L := L) (M := L + (L + (7 * L + 11) + 1) + 1) (by omega)) (Ht rfl) ⟨(Ht rfl), trivial⟩) (gQ Z_45 (Ht rfl) (Ht rfl) rfl (i := 0) rfl (aK rfl) rfl rfl ?_))))))))))))))))
  refine eX (fW rfl (fX (fK A_45 Z_45 rfl (i := 0) rfl rfl) ?_))
  exact (num_of (by rw [embX, if_pos h2]))
 ·have h2 : ¬ (i = p ∧ j = p) := by simpa using hb1
  refine ts (rm rfl (ro rfl (dJ A_3 Z_3 (Ht rfl)) (ro rfl (op_eqlN (Ht rfl) (Ht rfl)) (ra rfl (eX (dQ (Ht rfl) (fun hb2 => ?_) (fun hb2 => ?_)))))))
  ·have h3 : j = p := by simpa using hb2
   refine cK (fZ (m := 6) (dp 7 rfl (dJ A_27 Z_27 (Ht rfl)) (dp 0 rfl (cX (Ht rfl)) (dqq 39 0 40 1 rfl (dZ U_27 Z_45 (Ht rfl) (Ht rfl) rfl (tabq_get hi)) (dq 41 2 rfl (dJ A_45 Z_45 (Ht rfl)) (dq 42 3 rfl (op_iface mkif_45 (Ht rfl)) (dp 5 rfl (dJ A_45 Z_45 (Ht rfl)) (fV mixed rfl (by kernel_rfl) (aJ (aJ (aJ (aJ (aJ (aJ (aV (ro rfl (op_invoke meth_45_Mul K_67 (c_Mul (x := gm s i p / emD s f p) (y := gm f 1 0) (L := (7 * L + 11)) (M := L) (by omega)) (Ht rfl) ⟨(Ht rfl), trivial⟩) ?_))))))))))))))))
   refine gQ Z_45 (Ht rfl) (Ht rfl) rfl (i := 0) rfl (aK rfl) rfl rfl (eX (fW rfl (fX (fK A_45 Z_45 rfl (i := 0) rfl rfl) ?_)))
   exact (num_of (by rw [embX, if_neg h2, if_pos h3]))
  ·have h3 : ¬ j = p := by simpa using hb2
   refine ts (rm rfl (ro rfl (dJ A_3 Z_3 (Ht rfl)) (ro rfl (op_eqlN (Ht rfl) (Ht rfl)) (ra rfl (eX (dQ (Ht rfl) (fun hb3 => ?_) (fun hb3 => ?_)))))))
   ·have h4 : i = p := by simpa using hb3
    refine cK (fZ (m := 6) (dp 4 rfl (dJ A_45 Z_45 (Ht rfl)) (dq 50 0 rfl (op_iface mkif_45 (Ht rfl)) (dp 6 rfl (dJ A_27 Z_27 (Ht rfl)) (dp 1 rfl (cX (Ht rfl)) (dqq 52 2 53 3 rfl (dZ U_27 Z_45 (Ht rfl) (Ht rfl) rfl (tabq_get hj)) (dq 54 4 rfl (dJ A_45 Z_45 (Ht rfl)) (fV mixed rfl (by kernel_rfl) (aJ (aJ (aJ (aJ (aJ (aJ (aV (ro rfl (op_invoke meth_45_Mul K_67 (c_Mul (x := gm f 0 1) (y := gm s p j / emD s f p) (L := L) (M := (7 * L + 11)) (by omega)) (Ht rfl) ⟨(Ht rfl), trivial⟩) ?_))))))))))))))))
    refine gQ Z_45 (Ht rfl) (Ht rfl) rfl (i := 0) rfl (aK rfl) rfl rfl (eX (fW rfl (fX (fK A_45 Z_45 rfl (i := 0) rfl rfl) ?_)))
    exact (num_of (by rw [embX, if_neg h2, if_neg h3, if_pos h4]))
   ·have h4 : ¬ i = p := by simpa using hb3
    refine cU (T_blk (cK (fZ (m := 26) (dp 8 rfl (op_fld1 fa_30_1 (Ht rfl) rfl) (dq 57 0 rfl (dJ A_28 Z_28 (Ht rfl)) (dp 0 rfl (cX (Ht rfl)) (dqq 58 1 59 2 rfl (dZ U_28 Z_27 (Ht rfl) (Ht rfl) rfl (dY (dU (d := []) (by omega)))) (dq 60 3 rfl (dJ A_27 Z_27 (Ht rfl)) (dp 1 rfl (cX (Ht rfl)) (dqq 61 4 62 5 rfl (dZ U_27 Z_45 (Ht rfl) (Ht rfl) rfl (dY (dU (d := Qi.zero) (by omega)))) (dq 63 6 rfl (dJ A_45 Z_45 (Ht rfl)) (dq 64 7 rfl (op_iface mkif_45 (Ht rfl)) ?_))))))))))))
    refine dp 7 rfl (dJ A_27 Z_27 (Ht rfl)) (dp 0 rfl (cX (Ht rfl)) (dqq 66 9 67 10 rfl (dZ U_27 Z_45 (Ht rfl) (Ht rfl) rfl (tabq_get hi)) (dq 68 11 rfl (dJ A_45 Z_45 (Ht rfl)) (dq 69 12 rfl (op_iface mkif_45 (Ht rfl)) (dp 9 rfl (dJ A_45 Z_45 (Ht rfl)) (dq 71 14 rfl (op_iface mkif_45 (Ht rfl)) (dp 8 rfl (op_fld1 fa_30_1 (Ht rfl) rfl) (dq 73 16 rfl (dJ A_28 Z_28 (Ht rfl)) (dp 2 rfl (dJ A_3 Z_3 (Ht rfl)) (dqq 74 17 75 18 rfl (dZ U_28 Z_27 (Ht rfl) (Ht rfl) rfl (dY (dU (d := []) (by omega)))) ?_))))))))))
    refine dq 76 19 rfl (dJ A_27 Z_27 (Ht rfl)) (dp 1 rfl (cX (Ht rfl)) (dqq 77 20 78 21 rfl (dZ U_27 Z_45 (Ht rfl) (Ht rfl) rfl (dY (dU (d := Qi.zero) (by omega)))) (dq 79 22 rfl (dJ A_45 Z_45 (Ht rfl)) (dqq 72 15 80 23 rfl (op_invoke meth_45_Mul K_67 (c_Mul (x := gm f 1 1) (y := gm s p j) (L := L) (M := L) (by omega)) (Ht rfl) ⟨(Ht rfl), trivial⟩) (dqq 70 13 81 24 rfl (op_invoke meth_45_Mul K_67 (c_Mul (x := gm s i p / emD s f p) (y := gm f 1 1 * gm s p j) (L := (7 * L + 11)) (M := L + L + 1) (by omega)) (Ht rfl) ⟨(Ht rfl), trivial⟩) ?_)))))
    refine fV mixed rfl (by kernel_rfl) (aJ (aJ (aJ (aJ (aJ (aJ (aJ (aJ (aJ (aJ (aJ (aJ (aJ (aJ (aJ (aJ (aJ (aJ (aJ (aJ (aJ (aJ (aJ (aJ (aJ (aJ (aV (ro rfl (op_invoke meth_45_Add K_68 (c_Add (x := gm s i j) (y := gm s i p / emD s f p * (gm f 1 1 * gm s p j)) (L := L) (M := (7 * L + 11) + (L + L + 1) + 1) (by omega)) (Ht rfl) ⟨(Ht rfl), trivial⟩) (gQ Z_45 (Ht rfl) (Ht rfl) rfl (i := 0) rfl (aK rfl) rfl rfl ?_)))))))))))))))))))))))))))))
    refine eX (fW rfl (fX (fK A_45 Z_45 rfl (i := 0) rfl rfl) ?_))
    exact (num_of (by rw [embX, if_neg h2, if_neg h3, if_neg h4]))
theorem c_Remove1 {z : List Qi} {s f : List (List Qi)} {p i j L : Nat} (hs : Shp s z.length z.length) (hp : p < z.length) (hi : i < z.length) (hj : j < z.length) (hz : z.length ≤ 1000) (hfs : FitM s L) (hff : FitM f L) (hL : 1 ≤ L) (hLb : L ≤ 10000) (hd : rmD s f p ≠ Qi.zero) : Fun Tryz.prog 157 [NT .i64 i, NT .i64 j, PT (NT .i64 p), PT (NumT ((gm s p p - gm f 0 0) / rmD s f p)), PT (NumsT (tab z.length fun i => gm s i p / rmD s f p)), PT (NumT (gm f 0 1)), PT (NumT (gm f 1 0)), PT (NumsT (tab z.length fun j => gm s p j / rmD s f p)), PT (NetT z s), PT (NumT (gm f 1 1))] (NumT (rmX s f p i j)) := by
 have hsl := hs.1
 have hsi := hs.row hi
 have hsp := hs.row hp
 haveI e := rmD_fit (p := p) hfs hff hL
 have q : ∀ a b, FitC (gm s a b / rmD s f p) (16 * L + 17) := fun a b => (fit_div (hfs.get hL a b) e hd).le (by omega)
 have hU : ∀ k, k < z.length → (tab z.length fun i => gm s i p / rmD s f p).getD k Qi.zero = gm s k p / rmD s f p := fun k h => tab_gv h
 have hV : ∀ k, k < z.length → (tab z.length fun j => gm s p j / rmD s f p).getD k Qi.zero = gm s p k / rmD s f p := fun k h => tab_gv h
 haveI := q p p; haveI := q i p; haveI := q p j
 haveI := hfs.get hL i j; haveI := hfs.get hL p j; haveI := hff.get hL 1 1; haveI := hff.get hL 0 0; haveI := hff.get hL 0 1; haveI := hff.get hL 1 0
 refine Fun.intro Tryz.func157 rfl Tryz.ntmps157 rfl (fun cx => (ts (rn rfl (eW (Ts := [Is (.bool false), Is (.slice none 0 0), Is (.bool false), Is (.slice none 0 0), Is (.slice none 0 0)]) O_45 rfl (fun V => aW ⟨rfl, trivial⟩ (aW ⟨rfl, trivial⟩ (aW ⟨rfl, trivial⟩ (aW ⟨rfl, trivial⟩ (aW ⟨rfl, trivial⟩ (aG))))))) fun B12 => (eX (cK (eG (ts (rm rfl (ro rfl (dJ A_3 Z_3 (Ht rfl)) (ro rfl (op_eqlN (Ht rfl) (Ht rfl)) (rm rfl (fQ rfl rfl (eK rfl rfl (Ht rfl) (fun h => cX (Ht rfl))) ?_))))))))))))
 refine fQ rfl rfl (eK rfl rfl (Ht rfl) (fun h => dJ A_3 Z_3 (Ht rfl))) (fQ rfl rfl (eK rfl rfl (Ht rfl) (fun h => op_eqlN (fJ rfl h) (fJ rfl h))) (ro rfl (op_and (Ht rfl) (fun h => (fJ rfl h))) (ra rfl (eX (dQ (Ht rfl) (fun hb1 => ?_) (fun hb1 => ?_))))))
 ·have h2 : i = p ∧ j = p := by simpa using hb1
  refine ts (ro rfl (dJ A_45 Z_45 (Ht rfl)) (gQ Z_45 (Ht rfl) (Ht rfl) rfl (i := 0) rfl (aK rfl) rfl rfl (eX (fW rfl (fX (fK A_45 Z_45 rfl (i := 0) rfl rfl) ?_)))))
  exact (num_of (by rw [rmX, if_pos h2]))
 ·have h2 : ¬ (i = p ∧ j = p) := by simpa using hb1
  refine ts (rm rfl (ro rfl (dJ A_3 Z_3 (Ht rfl)) (ro rfl (op_eqlN (Ht rfl) (Ht rfl)) (ra rfl (eX (dQ (Ht rfl) (fun hb2 => ?_) (fun hb2 => ?_)))))))
  ·have h3 : j = p := by simpa using hb2
   refine cK (fZ (m := 6) (dp 4 rfl (dJ A_27 Z_27 (Ht rfl)) (dp 0 rfl (cX (Ht rfl)) (dqq 27 0 28 1 rfl (dZ U_27 Z_45 (Ht rfl) (Ht rfl) rfl (tabq_get hi)) (dq 29 2 rfl (dJ A_45 Z_45 (Ht rfl)) (dq 30 3 rfl (op_iface mkif_45 (Ht rfl)) (dp 5 rfl (dJ A_45 Z_45 (Ht rfl)) (fV mixed rfl (by kernel_rfl) (aJ (aJ (aJ (aJ (aJ (aJ (aV (ro rfl (op_invoke meth_45_Mul K_67 (c_Mul (x := gm s i p / rmD s f p) (y := gm f 0 1) (L := (16 * L + 17)) (M := L) (by omega)) (Ht rfl) ⟨(Ht rfl), trivial⟩) ?_))))))))))))))))
   refine gQ Z_45 (Ht rfl) (Ht rfl) rfl (i := 0) rfl (aK rfl) rfl rfl (eX (fW rfl (fX (fK A_45 Z_45 rfl (i := 0) rfl rfl) ?_)))
   exact (num_of (by rw [rmX, if_neg h2, if_pos h3]))
  ·have h3 : ¬ j = p := by simpa using hb2
   refine ts (rm rfl (ro rfl (dJ A_3 Z_3 (Ht rfl)) (ro rfl (op_eqlN (Ht rfl) (Ht rfl)) (ra rfl (eX (dQ (Ht rfl) (fun hb3 => ?_) (fun hb3 => ?_)))))))
   ·have h4 : i = p := by simpa using hb3
    refine cK (fZ (m := 6) (dp 6 rfl (dJ A_45 Z_45 (Ht rfl)) (dq 38 0 rfl (op_iface mkif_45 (Ht rfl)) (dp 7 rfl (dJ A_27 Z_27 (Ht rfl)) (dp 1 rfl (cX (Ht rfl)) (dqq 40 2 41 3 rfl (dZ U_27 Z_45 (Ht rfl) (Ht rfl) rfl (tabq_get hj)) (dq 42 4 rfl (dJ A_45 Z_45 (Ht rfl)) (fV mixed rfl (by kernel_rfl) (aJ (aJ (aJ (aJ (aJ (aJ (aV (ro rfl (op_invoke meth_45_Mul K_67 (c_Mul (x := gm f 1 0) (y := gm s p j / rmD s f p) (L := L) (M := (16 * L + 17)) (by omega)) (Ht rfl) ⟨(Ht rfl), trivial⟩) ?_))))))))))))))))
    refine gQ Z_45 (Ht rfl) (Ht rfl) rfl (i := 0) rfl (aK rfl) rfl rfl (eX (fW rfl (fX (fK A_45 Z_45 rfl (i := 0) rfl rfl) ?_)))
    exact (num_of (by rw [rmX, if_neg h2, if_neg h3, if_pos h4]))
   ·have h4 : ¬ i = p := by simpa using hb3
    refine cU (T_blk (cK (fZ (m := 26) (dp 8 rfl (op_fld1 fa_30_1 (Ht rfl) rfl) (dq 45 0 rfl (dJ A_28 Z_28 (Ht rfl)) (dp 0 rfl (cX (Ht rfl)) (dqq 46 1 47 2 rfl (dZ U_28 Z_27 (Ht rfl) (Ht rfl) rfl (dY (dU (d := []) (by omega)))) (dq 48 3 rfl (dJ A_27 Z_27 (Ht rfl)) (dp 1 rfl (cX (Ht rfl)) (dqq 49 4 50 5 rfl (dZ U_27 Z_45 (Ht rfl) (Ht rfl) rfl (dY (dU (d := Qi.zero) (by omega)))) (dq 51 6 rfl (dJ A_45 Z_45 (Ht rfl)) (dq 52 7 rfl (op_iface mkif_45 (Ht rfl)) ?_))))))))))))
    refine dp 4 rfl (dJ A_27 Z_27 (Ht rfl)) (dp 0 rfl (cX (Ht rfl)) (dqq 54 9 55 10 rfl (dZ U_27 Z_45 (Ht rfl) (Ht rfl) rfl (tabq_get hi)) (dq 56 11 rfl (dJ A_45 Z_45 (Ht rfl)) (dq 57 12 rfl (op_iface mkif_45 (Ht rfl)) (dp 9 rfl (dJ A_45 Z_45 (Ht rfl)) (dq 59 14 rfl (op_iface mkif_45 (Ht rfl)) (dp 8 rfl (op_fld1 fa_30_1 (Ht rfl) rfl) (dq 61 16 rfl (dJ A_28 Z_28 (Ht rfl)) (dp 2 rfl (dJ A_3 Z_3 (Ht rfl)) (dqq 62 17 63 18 rfl (dZ U_28 Z_27 (Ht rfl) (Ht rfl) rfl (dY (dU (d := []) (by omega)))) ?_))))))))))
    refine dq 64 19 rfl (dJ A_27 Z_27 (Ht rfl)) (dp 1 rfl (cX (Ht rfl)) (dqq 65 20 66 21 rfl (dZ U_27 Z_45 (Ht rfl) (Ht rfl) rfl (dY (dU (d := Qi.zero) (by omega)))) (dq 67 22 rfl (dJ A_45 Z_45 (Ht rfl)) (dqq 60 15 68 23 rfl (op_invoke meth_45_Mul K_67 (c_Mul (x := gm f 1 1) (y := gm s p j) (L := L) (M := L) (by omega)) (Ht rfl) ⟨(Ht rfl), trivial⟩) (dqq 58 13 69 24 rfl (op_invoke meth_45_Mul K_67 (c_Mul (x := gm s i p / rmD s f p) (y := gm f 1 1 * gm s p j) (L := (16 * L + 17)) (M := L + L + 1) (by omega)) (Ht rfl) ⟨(Ht rfl), trivial⟩) ?_)))))
    refine fV mixed rfl (by kernel_rfl) (aJ (aJ (aJ (aJ (aJ (aJ (aJ (aJ (aJ (aJ (aJ (aJ (aJ (aJ (aJ (aJ (aJ (aJ (aJ (aJ (aJ (aJ (aJ (aJ (aJ (aJ (aV (ro rfl (op_invoke meth_45_Sub K_66 (c_Sub (x := gm s i j) (y := gm s i p / rmD s f p * (gm f 1 1 * gm s p j)) (L := L) (M := (16 * L + 17) + (L + L + 1) + 1) (by omega)) (Ht rfl) ⟨(Ht rfl), trivial⟩) (gQ Z_45 (Ht rfl) (Ht rfl) rfl (i := 0) rfl (aK rfl) rfl rfl ?_)))))))))))))))))))))))))))))
    refine eX (fW rfl (fX (fK A_45 Z_45 rfl (i := 0) rfl rfl) ?_))
    exact (num_of (by rw [rmX, if_neg h2, if_neg h3, if_neg h4]))
theorem c_Embed0 {z fz : List Qi} {s f : List (List Qi)} {port : Int} {L : Nat} (hs : Shp s z.length z.length) (hz1 : 1 ≤ z.length) (hz : z.length ≤ 1000) (hfs : FitM s L) (hff : FitM f L) (hfz : FitL z L) (hfg : FitL fz L) (hL : 1 ≤ L) (hLb : L ≤ 10000) (h2 : fz.length ≠ 2) : Fun Tryz.prog 53 [NetT z s, IntT .i64 port, NetT fz f] (TupT [NetT (emZ z s fz f port) (emR z s fz f port), IntT .i64 (emE z s fz f port)]) := by
 have hfx : fxE z fz port 2 = 4 := fx_4 h2
 have he : emE z s fz f port = 4 := (em_fx (by rw [hfx]; decide)).trans hfx
 have hne : emE z s fz f port ≠ 0 := by rw [he]; decide
 refine Fun.intro Tryz.func53 rfl Tryz.ntmps53 rfl (fun cx => (ts (rn rfl (fG (Ht rfl)) fun B3 => (rn rfl (fG (Ht rfl)) fun B5 => (rn rfl (eW (Ts := [Is (.slice none 0 0), Is (.slice none 0 0)]) O_30 rfl (fun V => aW ⟨rfl, trivial⟩ (aW ⟨rfl, trivial⟩ (aG)))) fun B6 => (ro rfl (cQ (cJ 0)) (eX (ts (ro rfl (eJ A_30 Z_30 (Ht rfl) (i := 0) rfl rfl rfl) (rm rfl (ro rfl (eJ A_30 Z_30 (Ht rfl) (i := 1) rfl rfl rfl) (ro rfl (cZ Tryz.call149 (c_attach0 (x := 2) h2) ⟨(Ht rfl), (Ht rfl), (Ht rfl), (cJ 2), trivial⟩) ?_))))))))))))
 refine rm rfl (ro rfl (dK (Ht rfl) rfl) (ro rfl (dK (Ht rfl) rfl) (rn rfl (eW (Ts := [Is (.bool false), Is (.slice none 0 0), Is (.bool false), Is (.slice none 0 0), Is (.slice none 0 0), Is (.bool false), Is (.slice none 0 0), Is (.bool false), Is (.slice none 0 0), Is (.slice none 0 0), Is (.bool false), Is (.slice none 0 0), Is (.bool false), Is (.slice none 0 0), Is (.slice none 0 0), Is (.bool false), Is (.slice none 0 0), Is (.bool false), Is (.slice none 0 0), Is (.slice none 0 0)]) O_192 rfl (fun V => aW ⟨rfl, trivial⟩ (aW ⟨rfl, trivial⟩ (aW ⟨rfl, trivial⟩ (aW ⟨rfl, trivial⟩ (aW ⟨rfl, trivial⟩ (aW ⟨rfl, trivial⟩ (aW ⟨rfl, trivial⟩ (aW ⟨rfl, trivial⟩ (aW ⟨rfl, trivial⟩ (aW ⟨rfl, trivial⟩ (aW ⟨rfl, trivial⟩ (aW ⟨rfl, trivial⟩ (aW ⟨rfl, trivial⟩ (aW ⟨rfl, trivial⟩ (aW ⟨rfl, trivial⟩ (aW ⟨rfl, trivial⟩ (aW ⟨rfl, trivial⟩ (aW ⟨rfl, trivial⟩ (aW ⟨rfl, trivial⟩ (aW ⟨rfl, trivial⟩ (aG)))))))))))))))))))))) fun B8 => ?_)))
 refine gQ Z_192 (Ht rfl) (Ht rfl) rfl (i := 3) rfl (aK rfl) rfl rfl (ra rfl (eX (cK (ts (rm rfl (ro rfl (op_neq (Ht rfl) cV) (eX (T_condT (Ht rfl) (by rfl) ?_))))))))
 refine ts (ro rfl (OpTy.imp (bld_30_ ) net_nil) (rm rfl (gQ Z_30 (Ht rfl) (Ht rfl) rfl (i := 2) rfl (aK rfl) rfl rfl (ra rfl (eX (T_ret2 rfl (fX (fK A_30 Z_30 rfl (i := 2) rfl rfl) ?_) (fX (eU rfl) ?_)))))))
 ·exact (fun v V h => by rw [emZ, emR, okL, okL, if_neg hne, if_neg hne]; exact h)
 ·exact (int_of he.symm)
theorem c_Embed2 {z fz : List Qi} {s f : List (List Qi)} {port : Int} {L : Nat} (hs : Shp s z.length z.length) (hz1 : 1 ≤ z.length) (hz : z.length ≤ 1000) (hfs : FitM s L) (hff : FitM f L) (hfz : FitL z L) (hfg : FitL fz L) (hL : 1 ≤ L) (hLb : L ≤ 10000) (h2 : fz.length = 2) (hf : Shp f 2 2) : Fun Tryz.prog 53 [NetT z s, IntT .i64 port, NetT fz f] (TupT [NetT (emZ z s fz f port) (emR z s fz f port), IntT .i64 (emE z s fz f port)]) := by
 have hsl := hs.1
 haveI h1f := fit_one
 refine Fun.intro Tryz.func53 rfl Tryz.ntmps53 rfl (fun cx => (ts (rn rfl (fG (Ht rfl)) fun B3 => (rn rfl (fG (Ht rfl)) fun B5 => (rn rfl (eW (Ts := [Is (.slice none 0 0), Is (.slice none 0 0)]) O_30 rfl (fun V => aW ⟨rfl, trivial⟩ (aW ⟨rfl, trivial⟩ (aG)))) fun B6 => (ro rfl (cQ (cJ 0)) (eX (ts (ro rfl (eJ A_30 Z_30 (Ht rfl) (i := 0) rfl rfl rfl) (rm rfl (ro rfl (eJ A_30 Z_30 (Ht rfl) (i := 1) rfl rfl rfl) (ro rfl (cZ Tryz.call149 (c_attach2 (x := 2) (L := L) h2 hf (by decide) hfz hfg hL (by omega) hz) ⟨(Ht rfl), (Ht rfl), (Ht rfl), (cJ 2), trivial⟩) ?_))))))))))))
 refine rm rfl (ro rfl (dK (Ht rfl) rfl) (ro rfl (dK (Ht rfl) rfl) (rn rfl (eW (Ts := [Is (.bool false), Is (.slice none 0 0), Is (.bool false), Is (.slice none 0 0), Is (.slice none 0 0), Is (.bool false), Is (.slice none 0 0), Is (.bool false), Is (.slice none 0 0), Is (.slice none 0 0), Is (.bool false), Is (.slice none 0 0), Is (.bool false), Is (.slice none 0 0), Is (.slice none 0 0), Is (.bool false), Is (.slice none 0 0), Is (.bool false), Is (.slice none 0 0), Is (.slice none 0 0)]) O_192 rfl (fun V => aW ⟨rfl, trivial⟩ (aW ⟨rfl, trivial⟩ (aW ⟨rfl, trivial⟩ (aW ⟨rfl, trivial⟩ (aW ⟨rfl, trivial⟩ (aW ⟨rfl, trivial⟩ (aW ⟨rfl, trivial⟩ (aW ⟨rfl, trivial⟩ (aW ⟨rfl, trivial⟩ (aW ⟨rfl, trivial⟩ (aW ⟨rfl, trivial⟩ (aW ⟨rfl, trivial⟩ (aW ⟨rfl, trivial⟩ (aW ⟨rfl, trivial⟩ (aW ⟨rfl, trivial⟩ (aW ⟨rfl, trivial⟩ (aW ⟨rfl, trivial⟩ (aW ⟨rfl, trivial⟩ (aW ⟨rfl, trivial⟩ (aW ⟨rfl, trivial⟩ (aG)))))))))))))))))))))) fun B8 => ?_)))
 refine gQ Z_192 (Ht rfl) (Ht rfl) rfl (i := 3) rfl (aK rfl) rfl rfl (ra rfl (eX (cK (ts (rm rfl (ro rfl (op_neq (Ht rfl) cV) (eX (dQ (Ht rfl) (fun hc => ?_) (fun hc => ?_)))))))))
 ·have hfx : fxE z fz port 2 ≠ 0 := by simpa using hc
  have he : emE z s fz f port = fxE z fz port 2 := em_fx hfx
  have hne : emE z s fz f port ≠ 0 := by rw [he]; exact hfx
  refine ts (ro rfl (OpTy.imp (bld_30_ ) net_nil) (rm rfl (gQ Z_30 (Ht rfl) (Ht rfl) rfl (i := 2) rfl (aK rfl) rfl rfl (ra rfl (eX (T_ret2 rfl (fX (fK A_30 Z_30 rfl (i := 2) rfl rfl) ?_) (fX (eU rfl) ?_)))))))
  ·exact (fun v V h => by rw [emZ, emR, okL, okL, if_neg hne, if_neg hne]; exact h)
  ·exact (int_of he.symm)
 ·have hfx : fxE z fz port 2 = 0 := by simpa using hc
  obtain ⟨_, hb2, hzz⟩ := fx_ok hfx
  obtain ⟨p, hp⟩ : ∃ p, p = (port - 1).toNat := ⟨_, rfl⟩
  have hpe : port - 1 = (p : Int) := by omega
  have hpl : p < z.length := by omega
  have hspr := hs.row hpl
  haveI := hfs.get hL p p; haveI := hff.get hL 1 1; haveI := hff.get hL 0 0; haveI := hff.get hL 0 1; haveI := hff.get hL 1 0
  refine cU (cK (Y.D_start (m := 23) [] (bY (Ei := [(8, _)]) rfl rfl (bQ (bJ rfl rfl) bX) rfl rfl (dX rfl (op_idxAB U_192 Z_191 (Ht rfl) (cJ 0) rfl (by decide) rfl)) (bY (Ei := [(28, _)]) rfl rfl (bQ (bZ 0 rfl rfl) bX) rfl rfl (dX rfl (op_idxAB U_191 Z_45 (Ht rfl) (cJ 0) rfl (by decide) rfl)) (bY (Ei := [(29, _)]) rfl rfl (bQ (bZ 1 rfl rfl) bX) rfl rfl (dX rfl (eJ A_45 Z_45 (Ht rfl) (i := 3) rfl rfl rfl)) ?_)))))
  refine bY (Ei := [(8, _)]) rfl rfl (bQ (bJ rfl rfl) bX) rfl rfl (dX rfl (op_idxAB U_192 Z_191 (Ht rfl) (cJ 0) rfl (by decide) rfl)) (bY (Ei := [(31, _)]) rfl rfl (bQ (bZ 3 rfl rfl) bX) rfl rfl (dX rfl (op_idxAB U_191 Z_45 (Ht rfl) (cJ 1) rfl (by decide) rfl)) (bY (Ei := [(32, _)]) rfl rfl (bQ (bZ 4 rfl rfl) bX) rfl rfl (dX rfl (eJ A_45 Z_45 (Ht rfl) (i := 3) rfl rfl rfl)) (bY (Ei := [(8, _)]) rfl rfl (bQ (bJ rfl rfl) bX) rfl rfl (dX rfl (op_idxAB U_192 Z_191 (Ht rfl) (cJ 1) rfl (by decide) rfl)) ?_)))
  refine bY (Ei := [(34, _)]) rfl rfl (bQ (bZ 6 rfl rfl) bX) rfl rfl (dX rfl (op_idxAB U_191 Z_45 (Ht rfl) (cJ 0) rfl (by decide) rfl)) (bY (Ei := [(35, _)]) rfl rfl (bQ (bZ 7 rfl rfl) bX) rfl rfl (dX rfl (eJ A_45 Z_45 (Ht rfl) (i := 3) rfl rfl rfl)) (bY (Ei := [(8, _)]) rfl rfl (bQ (bJ rfl rfl) bX) rfl rfl (dX rfl (op_idxAB U_192 Z_191 (Ht rfl) (cJ 1) rfl (by decide) rfl)) (bY (Ei := [(37, _)]) rfl rfl (bQ (bZ 9 rfl rfl) bX) rfl rfl (dX rfl (op_idxAB U_191 Z_45 (Ht rfl) (cJ 1) rfl (by decide) rfl)) ?_)))
  refine bY (Ei := [(38, _)]) rfl rfl (bQ (bZ 10 rfl rfl) bX) rfl rfl (dX rfl (eJ A_45 Z_45 (Ht rfl) (i := 3) rfl rfl rfl)) (bY (Ei := [(1, _)]) rfl rfl (bQ (bJ rfl rfl) bX) rfl rfl (dX rfl (cX (Ht rfl))) (bY (Ei := [(40, _)]) rfl rfl (bQ (bZ 12 rfl rfl) bX) rfl rfl (dX rfl (op_sub (Ht rfl) cV (r := ((p : Nat) : Int)) ((w64 (z := port - 1) (by omega)).trans (by omega)))) ?_))
  refine Y.D_newp (Ei := []) (fun bb => box bb 45 (nb (gm f 0 0))) 19 rfl rfl rfl bX rfl rfl (by kernel_rfl) (eW (Ts := [Is (.bool false), Is (.slice none 0 0), Is (.bool false), Is (.slice none 0 0), Is (.slice none 0 0)]) O_45 rfl (fun V => aW ⟨rfl, trivial⟩ (aW ⟨rfl, trivial⟩ (aW ⟨rfl, trivial⟩ (aW ⟨rfl, trivial⟩ (aW ⟨rfl, trivial⟩ (aG))))))) (Y.D_newp (Ei := []) (fun bb => box bb 45 (nb (gm f 0 1))) 20 rfl rfl rfl bX rfl rfl (by kernel_rfl) (eW (Ts := [Is (.bool false), Is (.slice none 0 0), Is (.bool false), Is (.slice none 0 0), Is (.slice none 0 0)]) O_45 rfl (fun V => aW ⟨rfl, trivial⟩ (aW ⟨rfl, trivial⟩ (aW ⟨rfl, trivial⟩ (aW ⟨rfl, trivial⟩ (aW ⟨rfl, trivial⟩ (aG))))))) ?_)
  refine Y.D_newp (Ei := []) (fun bb => box bb 45 (nb (gm f 1 0))) 21 rfl rfl rfl bX rfl rfl (by kernel_rfl) (eW (Ts := [Is (.bool false), Is (.slice none 0 0), Is (.bool false), Is (.slice none 0 0), Is (.slice none 0 0)]) O_45 rfl (fun V => aW ⟨rfl, trivial⟩ (aW ⟨rfl, trivial⟩ (aW ⟨rfl, trivial⟩ (aW ⟨rfl, trivial⟩ (aW ⟨rfl, trivial⟩ (aG))))))) (Y.D_newp (Ei := []) (fun bb => box bb 45 (nb (gm f 1 1))) 22 rfl rfl rfl bX rfl rfl (by kernel_rfl) (eW (Ts := [Is (.bool false), Is (.slice none 0 0), Is (.bool false), Is (.slice none 0 0), Is (.slice none 0 0)]) O_45 rfl (fun V => aW ⟨rfl, trivial⟩ (aW ⟨rfl, trivial⟩ (aW ⟨rfl, trivial⟩ (aW ⟨rfl, trivial⟩ (aW ⟨rfl, trivial⟩ (aG))))))) ?_)
  refine Y.D_new (Ei := []) rfl rfl rfl bX rfl rfl (eW (Ts := [Is (.int .i64 0)]) O_3 rfl (fun V => aW ⟨rfl, trivial⟩ (aG))) (Y.D_putN (Ei := [(30, _)]) 14 rfl rfl rfl rfl rfl rfl (bQ (bZ 2 rfl rfl) bX) (fun bb => P_stA Z_45 (Ht rfl) (Ht rfl) rfl (i := 0) rfl (aK rfl) rfl rfl) (Y.D_putN (Ei := [(33, _)]) 15 rfl rfl rfl rfl rfl rfl (bQ (bZ 5 rfl rfl) bX) (fun bb => P_stA Z_45 (Ht rfl) (Ht rfl) rfl (i := 0) rfl (aK rfl) rfl rfl) (Y.D_putN (Ei := [(36, _)]) 16 rfl rfl rfl rfl rfl rfl (bQ (bZ 8 rfl rfl) bX) (fun bb => P_stA Z_45 (Ht rfl) (Ht rfl) rfl (i := 0) rfl (aK rfl) rfl rfl) ?_)))
  refine Y.D_putN (Ei := [(39, _)]) 17 rfl rfl rfl rfl rfl rfl (bQ (bZ 11 rfl rfl) bX) (fun bb => P_stA Z_45 (Ht rfl) (Ht rfl) rfl (i := 0) rfl (aK rfl) rfl rfl) (Y.D_done mixed rfl (by kernel_rfl) rfl (by simp [Y.okP]) rfl rfl (bU (bU (bU (bU (bU (bU (bU (bU (bU (bU (bU (bU (bU (bU (Y.F_newp (fun B10 => Y.F_newp (fun B11 => Y.F_newp (fun B12 => Y.F_newp (fun B13 => Y.F_new (fun B14 => Y.F_putN (Y.F_putN (Y.F_putN (Y.F_putN (Y.F_nil ?_)))))))))))))))))))))))))
  refine R_st Z_3 (Ht rfl) (Ht rfl) (i := 8) rfl (aK rfl) rfl (eX (cK (gJ (i := 4) (tt := 10) rfl rfl frz_ptr (gJ (i := 5) (tt := 11) rfl rfl frz_ptr (gJ (i := 6) (tt := 12) rfl rfl frz_ptr (gJ (i := 7) (tt := 13) rfl rfl frz_ptr (gJ (i := 8) (tt := 14) rfl rfl frz_ptr1 (gJ (i := 0) (tt := 3) rfl rfl frz_ptr (T_keep [1, 2] rfl (by decide) ?_)))))))))
  have hDf := emD_fit (p := p) hfs hff hL
  by_cases hD : emD s f p = Qi.zero
  ·refine Y.D_start (m := 25) [] (bY (Ei := [(3, _)]) rfl rfl (bQ (bJ rfl rfl) bX) rfl rfl (dX rfl (dJ A_30 Z_30 (Ht rfl))) (bY (Ei := [(14, _)]) rfl rfl (bQ (bJ rfl rfl) bX) rfl rfl (dX rfl (dJ A_3 Z_3 (Ht rfl))) (bY (Ei := []) rfl rfl bX rfl rfl (dX rfl (cZ Tryz.call121 (c_whole (n := 1) (by decide) (by decide)) ⟨(cJ 1), trivial⟩)) (bY (Ei := [(45, _)]) rfl rfl (bQ (bZ 2 rfl rfl) bX) rfl rfl (dX rfl (op_iface mkif_45 (Ht rfl))) ?_))))
   refine bY (Ei := [(13, _)]) rfl rfl (bQ (bJ rfl rfl) bX) rfl rfl (dX rfl (dJ A_45 Z_45 (Ht rfl))) (bY (Ei := [(47, _)]) rfl rfl (bQ (bZ 4 rfl rfl) bX) rfl rfl (dX rfl (op_iface mkif_45 (Ht rfl))) (bY (Ei := [(3, _)]) rfl rfl (bQ (bJ rfl rfl) bX) rfl rfl (dX rfl (op_fld1 fa_30_1 (Ht rfl) rfl)) (bY (Ei := [(49, _)]) rfl rfl (bQ (bZ 6 rfl rfl) bX) rfl rfl (dX rfl (dJ A_28 Z_28 (Ht rfl))) (bY (Ei := [(14, _)]) rfl rfl (bQ (bJ rfl rfl) bX) rfl rfl (dX rfl (dJ A_3 Z_3 (Ht rfl))) ?_))))
   refine bY (Ei := [(50, _), (51, _)]) rfl rfl (bQ (bZ 7 rfl rfl) (bQ (bZ 8 rfl rfl) bX)) rfl rfl (dX rfl (dZ U_28 Z_27 (Ht rfl) (Ht rfl) rfl (dY (dU (d := []) (by omega))))) (bY (Ei := [(52, _)]) rfl rfl (bQ (bZ 9 rfl rfl) bX) rfl rfl (dX rfl (dJ A_27 Z_27 (Ht rfl))) (bY (Ei := [(14, _)]) rfl rfl (bQ (bJ rfl rfl) bX) rfl rfl (dX rfl (dJ A_3 Z_3 (Ht rfl))) (bY (Ei := [(53, _), (54, _)]) rfl rfl (bQ (bZ 10 rfl rfl) (bQ (bZ 11 rfl rfl) bX)) rfl rfl (dX rfl (dZ U_27 Z_45 (Ht rfl) (Ht rfl) rfl (dY (dU (d := Qi.zero) (by omega))))) ?_)))
   refine bY (Ei := [(55, _)]) rfl rfl (bQ (bZ 12 rfl rfl) bX) rfl rfl (dX rfl (dJ A_45 Z_45 (Ht rfl))) (bY (Ei := [(48, _), (56, _)]) rfl rfl (bQ (bZ 5 rfl rfl) (bQ (bZ 13 rfl rfl) bX)) rfl rfl (dX rfl (op_invoke meth_45_Mul K_67 (c_Mul (x := gm f 1 1) (y := gm s p p) (L := L) (M := L) (by omega)) (Ht rfl) ⟨(Ht rfl), trivial⟩)) (bY (Ei := [(46, _), (57, _)]) rfl rfl (bQ (bZ 3 rfl rfl) (bQ (bZ 14 rfl rfl) bX)) rfl rfl (dX rfl (op_invoke meth_45_Sub K_66 (c_Sub (x := Qi.ofInt 1) (y := gm f 1 1 * gm s p p) (L := 1) (M := L + L + 1) (by omega)) (Ht rfl) ⟨(Ht rfl), trivial⟩)) ?_))
   refine bY (Ei := [(43, _), (44, _), (58, _)]) rfl rfl (bQ (bZ 0 rfl rfl) (bQ (bZ 1 rfl rfl) (bQ (bZ 15 rfl rfl) bX))) rfl rfl (dX rfl (cZ Tryz.call150 (c_ratios0 (z := z) (s := s) (p := p) (e := emD s f p) (L := L) (M := 2 * L + 3) hs hpl hz hfs hDf hL (by omega) hD) ⟨(Ht rfl), (Ht rfl), (Ht rfl), trivial⟩)) (bY (Ei := [(59, _)]) rfl rfl (bQ (bZ 16 rfl rfl) bX) rfl rfl (dX rfl (cX (Ht rfl))) (bY (Ei := [(42, _)]) rfl rfl (bQ (bZ 17 rfl rfl) bX) rfl rfl (dX rfl (dK (Ht rfl) rfl)) ?_))
   refine bY (Ei := [(42, _)]) rfl rfl (bQ (bZ 17 rfl rfl) bX) rfl rfl (dX rfl (dK (Ht rfl) rfl)) (bY (Ei := [(42, _)]) rfl rfl (bQ (bZ 17 rfl rfl) bX) rfl rfl (dX rfl (dK (Ht rfl) rfl)) (Y.D_newp (Ei := []) (fun bb => box bb 27 [NumsT []]) 23 rfl rfl rfl bX rfl rfl (by kernel_rfl) (eW (Ts := [Is (.slice none 0 0)]) O_27 rfl (fun V => aW ⟨rfl, trivial⟩ (aG))) (Y.D_newp (Ei := []) (fun bb => box bb 27 [NumsT []]) 24 rfl rfl rfl bX rfl rfl (by kernel_rfl) (eW (Ts := [Is (.slice none 0 0)]) O_27 rfl (fun V => aW ⟨rfl, trivial⟩ (aG))) ?_)))
   refine Y.D_putN (Ei := [(60, _)]) 21 rfl rfl rfl rfl rfl rfl (bQ (bZ 18 rfl rfl) bX) (fun bb => P_stB Z_27 (Ht rfl) (Ht rfl) (i := 0) rfl (aK rfl) rfl rfl) (Y.D_putN (Ei := [(61, _)]) 22 rfl rfl rfl rfl rfl rfl (bQ (bZ 19 rfl rfl) bX) (fun bb => P_stB Z_27 (Ht rfl) (Ht rfl) (i := 0) rfl (aK rfl) rfl rfl) (Y.D_done mixed rfl (by kernel_rfl) rfl (by simp [Y.okP]) rfl rfl (bU (bU (bU (bU (bU (bU (bU (bU (bU (bU (bU (bU (bU (bU (bU (bU (bU (bU (bU (bU (bU (Y.F_newp (fun B15 => Y.F_newp (fun B16 => Y.F_putN (Y.F_putN (Y.F_nil ?_))))))))))))))))))))))))))))
   refine ra rfl (eX (cK (cK ?_)))
   have he : emE z s fz f port = 6 := em_no hfx (by rw [← hp]; exact hD)
   have hne : emE z s fz f port ≠ 0 := by rw [he]; decide
   refine cY (rm rfl (ro rfl (op_neq (Ht rfl) cV) (eX (T_condT (Ht rfl) (by rfl) ?_))))
   refine ts (ro rfl (OpTy.imp (bld_30_ ) net_nil) (rm rfl (gQ Z_30 (Ht rfl) (Ht rfl) rfl (i := 1) rfl (aK rfl) rfl rfl (ra rfl (eX (T_ret2 rfl (fX (fK A_30 Z_30 rfl (i := 1) rfl rfl) ?_) (fX (eU rfl) ?_)))))))
   ·exact (fun v V h => by rw [emZ, emR, okL, okL, if_neg hne, if_neg hne]; exact h)
   ·exact (int_of he.symm)
  ·refine Y.D_start (m := 25) [] (bY (Ei := [(3, _)]) rfl rfl (bQ (bJ rfl rfl) bX) rfl rfl (dX rfl (dJ A_30 Z_30 (Ht rfl))) (bY (Ei := [(14, _)]) rfl rfl (bQ (bJ rfl rfl) bX) rfl rfl (dX rfl (dJ A_3 Z_3 (Ht rfl))) (bY (Ei := []) rfl rfl bX rfl rfl (dX rfl (cZ Tryz.call121 (c_whole (n := 1) (by decide) (by decide)) ⟨(cJ 1), trivial⟩)) (bY (Ei := [(45, _)]) rfl rfl (bQ (bZ 2 rfl rfl) bX) rfl rfl (dX rfl (op_iface mkif_45 (Ht rfl))) ?_))))
   refine bY (Ei := [(13, _)]) rfl rfl (bQ (bJ rfl rfl) bX) rfl rfl (dX rfl (dJ A_45 Z_45 (Ht rfl))) (bY (Ei := [(47, _)]) rfl rfl (bQ (bZ 4 rfl rfl) bX) rfl rfl (dX rfl (op_iface mkif_45 (Ht rfl))) (bY (Ei := [(3, _)]) rfl rfl (bQ (bJ rfl rfl) bX) rfl rfl (dX rfl (op_fld1 fa_30_1 (Ht rfl) rfl)) (bY (Ei := [(49, _)]) rfl rfl (bQ (bZ 6 rfl rfl) bX) rfl rfl (dX rfl (dJ A_28 Z_28 (Ht rfl))) (bY (Ei := [(14, _)]) rfl rfl (bQ (bJ rfl rfl) bX) rfl rfl (dX rfl (dJ A_3 Z_3 (Ht rfl))) ?_))))
   refine bY (Ei := [(50, _), (51, _)]) rfl rfl (bQ (bZ 7 rfl rfl) (bQ (bZ 8 rfl rfl) bX)) rfl rfl (dX rfl (dZ U_28 Z_27 (Ht rfl) (Ht rfl) rfl (dY (dU (d := []) (by omega))))) (bY (Ei := [(52, _)]) rfl rfl (bQ (bZ 9 rfl rfl) bX) rfl rfl (dX rfl (dJ A_27 Z_27 (Ht rfl))) (bY (Ei := [(14, _)]) rfl rfl (bQ (bJ rfl rfl) bX) rfl rfl (dX rfl (dJ A_3 Z_3 (Ht rfl))) (bY (Ei := [(53, _), (54, _)]) rfl rfl (bQ (bZ 10 rfl rfl) (bQ (bZ 11 rfl rfl) bX)) rfl rfl (dX rfl (dZ U_27 Z_45 (Ht rfl) (Ht rfl) rfl (dY (dU (d := Qi.zero) (by omega))))) ?_)))
   refine bY (Ei := [(55, _)]) rfl rfl (bQ (bZ 12 rfl rfl) bX) rfl rfl (dX rfl (dJ A_45 Z_45 (Ht rfl))) (bY (Ei := [(48, _), (56, _)]) rfl rfl (bQ (bZ 5 rfl rfl) (bQ (bZ 13 rfl rfl) bX)) rfl rfl (dX rfl (op_invoke meth_45_Mul K_67 (c_Mul (x := gm f 1 1) (y := gm s p p) (L := L) (M := L) (by omega)) (Ht rfl) ⟨(Ht rfl), trivial⟩)) (bY (Ei := [(46, _), (57, _)]) rfl rfl (bQ (bZ 3 rfl rfl) (bQ (bZ 14 rfl rfl) bX)) rfl rfl (dX rfl (op_invoke meth_45_Sub K_66 (c_Sub (x := Qi.ofInt 1) (y := gm f 1 1 * gm s p p) (L := 1) (M := L + L + 1) (by omega)) (Ht rfl) ⟨(Ht rfl), trivial⟩)) ?_))
   refine bY (Ei := [(43, _), (44, _), (58, _)]) rfl rfl (bQ (bZ 0 rfl rfl) (bQ (bZ 1 rfl rfl) (bQ (bZ 15 rfl rfl) bX))) rfl rfl (dX rfl (cZ Tryz.call150 (c_ratios1 (z := z) (s := s) (p := p) (e := emD s f p) (L := L) (M := 2 * L + 3) hs hpl hz hfs hDf hL (by omega) hD) ⟨(Ht rfl), (Ht rfl), (Ht rfl), trivial⟩)) (bY (Ei := [(59, _)]) rfl rfl (bQ (bZ 16 rfl rfl) bX) rfl rfl (dX rfl (cX (Ht rfl))) (bY (Ei := [(42, _)]) rfl rfl (bQ (bZ 17 rfl rfl) bX) rfl rfl (dX rfl (dK (Ht rfl) rfl)) ?_))
   refine bY (Ei := [(42, _)]) rfl rfl (bQ (bZ 17 rfl rfl) bX) rfl rfl (dX rfl (dK (Ht rfl) rfl)) (bY (Ei := [(42, _)]) rfl rfl (bQ (bZ 17 rfl rfl) bX) rfl rfl (dX rfl (dK (Ht rfl) rfl)) (Y.D_newp (Ei := []) (fun bb => box bb 27 [NumsT (tab z.length fun i => gm s i p / emD s f p)]) 23 rfl rfl rfl bX rfl rfl (by kernel_rfl) (eW (Ts := [Is (.slice none 0 0)]) O_27 rfl (fun V => aW ⟨rfl, trivial⟩ (aG))) (Y.D_newp (Ei := []) (fun bb => box bb 27 [NumsT (tab z.length fun j => gm s p j / emD s f p)]) 24 rfl rfl rfl bX rfl rfl (by kernel_rfl) (eW (Ts := [Is (.slice none 0 0)]) O_27 rfl (fun V => aW ⟨rfl, trivial⟩ (aG))) ?_)))
   refine Y.D_putN (Ei := [(60, _)]) 21 rfl rfl rfl rfl rfl rfl (bQ (bZ 18 rfl rfl) bX) (fun bb => P_stB Z_27 (Ht rfl) (Ht rfl) (i := 0) rfl (aK rfl) rfl rfl) (Y.D_putN (Ei := [(61, _)]) 22 rfl rfl rfl rfl rfl rfl (bQ (bZ 19 rfl rfl) bX) (fun bb => P_stB Z_27 (Ht rfl) (Ht rfl) (i := 0) rfl (aK rfl) rfl rfl) (Y.D_done mixed rfl (by kernel_rfl) rfl (by simp [Y.okP]) rfl rfl (bU (bU (bU (bU (bU (bU (bU (bU (bU (bU (bU (bU (bU (bU (bU (bU (bU (bU (bU (bU (bU (Y.F_newp (fun B15 => Y.F_newp (fun B16 => Y.F_putN (Y.F_putN (Y.F_nil ?_))))))))))))))))))))))))))))
   refine ra rfl (eX (cK (cK ?_)))
   have he : emE z s fz f port = 0 := em_yes hfx (by rw [← hp]; exact hD)
   refine gJ (i := 2) (tt := 15) rfl rfl frz_ptr1 (gJ (i := 3) (tt := 16) rfl rfl frz_ptr1 (cY (rm rfl (ro rfl (op_neq (Ht rfl) cV) (eX (T_condF (Ht rfl) (by rfl) ?_))))))
   refine cU (cK (fZ (m := 7) (dp 3 rfl (dJ A_30 Z_30 (Ht rfl)) (dp 14 rfl (dJ A_3 Z_3 (Ht rfl)) (dp 5 rfl (eZ fa_30_0 (Ht rfl) rfl) (dq 69 2 rfl (eY A_27 Z_27 (Ht rfl) (i := 0) rfl rfl) (dq 70 3 rfl (dZ U_27 Z_45 (Ht rfl) (cJ 0) rfl (dY (dU (d := Qi.zero) (by omega)))) (dq 71 4 rfl (dJ A_45 Z_45 (Ht rfl)) (C.D_step (Ei := [(14, _), (10, _), (11, _), (12, _), (16, _), (15, _), (3, _), (13, _)]) rfl rfl (bV (bK rfl rfl) (bV (bK rfl rfl) (bV (bK rfl rfl) (bV (bK rfl rfl) (bV (bK rfl rfl) (bV (bK rfl rfl) (bV (bK rfl rfl) (bV (bK rfl rfl) bW)))))))) (dX rfl (op_clos (γ := Fin z.length × Fin z.length) (Ts := fun x => [NT .i64 x.1.1, NT .i64 x.2.1]) (U := fun x => NumT (embX s f p x.1.1 x.2.1)) Tryz.call152 (fun x => c_Embed1 (z := z) (s := s) (f := f) (p := p) (L := L) hs hpl x.1.2 x.2.2 hz hfs hff hL hLb hD) ⟨(Ht rfl), (Ht rfl), (Ht rfl), (Ht rfl), (Ht rfl), (Ht rfl), (Ht rfl), (Ht rfl), trivial⟩)) ?_)))))))))
   refine fV mixed rfl (by kernel_rfl) (aJ (aJ (aJ (aJ (aJ (aJ (aJ (aV (ro rfl (cZ Tryz.call151 (c_with (z := z) (s := s) (p := p) (x := gv fz 0) (F := fun i j => embX s f p i j) hs hpl hz) ⟨(Ht rfl), (Ht rfl), (Ht rfl), (Ht rfl), trivial⟩) (gQ Z_30 (Ht rfl) (Ht rfl) rfl (i := 1) rfl (aK rfl) rfl rfl (ro rfl (cQ (cJ 0)) (eX (T_ret2 rfl (fX (fK A_30 Z_30 rfl (i := 1) rfl rfl) ?_) (fX (eU rfl) ?_))))))))))))))
   ·exact (fun v V h => by rw [emZ, emR, okL, okL, if_pos he, if_pos he, ← hp]; exact h)
   ·exact (int_of he.symm)
theorem c_Embed {z fz : List Qi} {s f : List (List Qi)} {port : Int} {L : Nat} (hs : Shp s z.length z.length) (hz1 : 1 ≤ z.length) (hz : z.length ≤ 1000) (hfs : FitM s L) (hff : FitM f L) (hfz : FitL z L) (hfg : FitL fz L) (hL : 1 ≤ L) (hLb : L ≤ 10000) (hf : fz.length = 2 → Shp f 2 2) : Fun Tryz.prog 53 [NetT z s, IntT .i64 port, NetT fz f] (TupT [NetT (emZ z s fz f port) (emR z s fz f port), IntT .i64 (emE z s fz f port)]) := by
 by_cases h2 : fz.length = 2
 ·exact c_Embed2 hs hz1 hz hfs hff hfz hfg hL hLb h2 (hf h2)
 ·exact c_Embed0 hs hz1 hz hfs hff hfz hfg hL hLb h2
theorem c_Remove0 {z fz : List Qi} {s f : List (List Qi)} {port : Int} {L : Nat} (hs : Shp s z.length z.length) (hz1 : 1 ≤ z.length) (hz : z.length ≤ 1000) (hfs : FitM s L) (hff : FitM f L) (hfz : FitL z L) (hfg : FitL fz L) (hL : 1 ≤ L) (hLb : L ≤ 10000) (h2 : fz.length ≠ 2) : Fun Tryz.prog 55 [NetT z s, IntT .i64 port, NetT fz f] (TupT [NetT (rmZ' z s fz f port) (rmR z s fz f port), IntT .i64 (rmE z s fz f port)]) := by
 have hfx : fxE z fz port 1 = 4 := fx_4 h2
 have he : rmE z s fz f port = 4 := (rm_fx (by rw [hfx]; decide)).trans hfx
 have hne : rmE z s fz f port ≠ 0 := by rw [he]; decide
 refine Fun.intro Tryz.func55 rfl Tryz.ntmps55 rfl (fun cx => (ts (rn rfl (fG (Ht rfl)) fun B3 => (rn rfl (fG (Ht rfl)) fun B5 => (rn rfl (eW (Ts := [Is (.slice none 0 0), Is (.slice none 0 0)]) O_30 rfl (fun V => aW ⟨rfl, trivial⟩ (aW ⟨rfl, trivial⟩ (aG)))) fun B6 => (ro rfl (cQ (cJ 0)) (eX (ts (ro rfl (eJ A_30 Z_30 (Ht rfl) (i := 0) rfl rfl rfl) (rm rfl (ro rfl (eJ A_30 Z_30 (Ht rfl) (i := 1) rfl rfl rfl) (ro rfl (cZ Tryz.call149 (c_attach0 (x := 1) h2) ⟨(Ht rfl), (Ht rfl), (Ht rfl), (cJ 1), trivial⟩) ?_))))))))))))
 refine rm rfl (ro rfl (dK (Ht rfl) rfl) (ro rfl (dK (Ht rfl) rfl) (rn rfl (eW (Ts := [Is (.bool false), Is (.slice none 0 0), Is (.bool false), Is (.slice none 0 0), Is (.slice none 0 0), Is (.bool false), Is (.slice none 0 0), Is (.bool false), Is (.slice none 0 0), Is (.slice none 0 0), Is (.bool false), Is (.slice none 0 0), Is (.bool false), Is (.slice none 0 0), Is (.slice none 0 0), Is (.bool false), Is (.slice none 0 0), Is (.bool false), Is (.slice none 0 0), Is (.slice none 0 0)]) O_192 rfl (fun V => aW ⟨rfl, trivial⟩ (aW ⟨rfl, trivial⟩ (aW ⟨rfl, trivial⟩ (aW ⟨rfl, trivial⟩ (aW ⟨rfl, trivial⟩ (aW ⟨rfl, trivial⟩ (aW ⟨rfl, trivial⟩ (aW ⟨rfl, trivial⟩ (aW ⟨rfl, trivial⟩ (aW ⟨rfl, trivial⟩ (aW ⟨rfl, trivial⟩ (aW ⟨rfl, trivial⟩ (aW ⟨rfl, trivial⟩ (aW ⟨rfl, trivial⟩ (aW ⟨rfl, trivial⟩ (aW ⟨rfl, trivial⟩ (aW ⟨rfl, trivial⟩ (aW ⟨rfl, trivial⟩ (aW ⟨rfl, trivial⟩ (aW ⟨rfl, trivial⟩ (aG)))))))))))))))))))))) fun B8 => ?_)))
 refine gQ Z_192 (Ht rfl) (Ht rfl) rfl (i := 3) rfl (aK rfl) rfl rfl (ra rfl (eX (cK (ts (rm rfl (ro rfl (op_neq (Ht rfl) cV) (eX (T_condT (Ht rfl) (by rfl) ?_))))))))
 refine ts (ro rfl (OpTy.imp (bld_30_ ) net_nil) (rm rfl (gQ Z_30 (Ht rfl) (Ht rfl) rfl (i := 2) rfl (aK rfl) rfl rfl (ra rfl (eX (T_ret2 rfl (fX (fK A_30 Z_30 rfl (i := 2) rfl rfl) ?_) (fX (eU rfl) ?_)))))))
 ·exact (fun v V h => by rw [rmZ', rmR, okL, okL, if_neg hne, if_neg hne]; exact h)
 ·exact (int_of he.symm)
theorem c_Remove2 {z fz : List Qi} {s f : List (List Qi)} {port : Int} {L : Nat} (hs : Shp s z.length z.length) (hz1 : 1 ≤ z.length) (hz : z.length ≤ 1000) (hfs : FitM s L) (hff : FitM f L) (hfz : FitL z L) (hfg : FitL fz L) (hL : 1 ≤ L) (hLb : L ≤ 10000) (h2 : fz.length = 2) (hf : Shp f 2 2) : Fun Tryz.prog 55 [NetT z s, IntT .i64 port, NetT fz f] (TupT [NetT (rmZ' z s fz f port) (rmR z s fz f port), IntT .i64 (rmE z s fz f port)]) := by
 have hsl := hs.1
 haveI h1f := fit_one
 refine Fun.intro Tryz.func55 rfl Tryz.ntmps55 rfl (fun cx => (ts (rn rfl (fG (Ht rfl)) fun B3 => (rn rfl (fG (Ht rfl)) fun B5 => (rn rfl (eW (Ts := [Is (.slice none 0 0), Is (.slice none 0 0)]) O_30 rfl (fun V => aW ⟨rfl, trivial⟩ (aW ⟨rfl, trivial⟩ (aG)))) fun B6 => (ro rfl (cQ (cJ 0)) (eX (ts (ro rfl (eJ A_30 Z_30 (Ht rfl) (i := 0) rfl rfl rfl) (rm rfl (ro rfl (eJ A_30 Z_30 (Ht rfl) (i := 1) rfl rfl rfl) (ro rfl (cZ Tryz.call149 (c_attach2 (x := 1) (L := L) h2 hf (by decide) hfz hfg hL (by omega) hz) ⟨(Ht rfl), (Ht rfl), (Ht rfl), (cJ 1), trivial⟩) ?_))))))))))))
 refine rm rfl (ro rfl (dK (Ht rfl) rfl) (ro rfl (dK (Ht rfl) rfl) (rn rfl (eW (Ts := [Is (.bool false), Is (.slice none 0 0), Is (.bool false), Is (.slice none 0 0), Is (.slice none 0 0), Is (.bool false), Is (.slice none 0 0), Is (.bool false), Is (.slice none 0 0), Is (.slice none 0 0), Is (.bool false), Is (.slice none 0 0), Is (.bool false), Is (.slice none 0 0), Is (.slice none 0 0), Is (.bool false), Is (.slice none 0 0), Is (.bool false), Is (.slice none 0 0), Is (.slice none 0 0)]) O_192 rfl (fun V => aW ⟨rfl, trivial⟩ (aW ⟨rfl, trivial⟩ (aW ⟨rfl, trivial⟩ (aW ⟨rfl, trivial⟩ (aW ⟨rfl, trivial⟩ (aW ⟨rfl, trivial⟩ (aW ⟨rfl, trivial⟩ (aW ⟨rfl, trivial⟩ (aW ⟨rfl, trivial⟩ (aW ⟨rfl, trivial⟩ (aW ⟨rfl, trivial⟩ (aW ⟨rfl, trivial⟩ (aW ⟨rfl, trivial⟩ (aW ⟨rfl, trivial⟩ (aW ⟨rfl, trivial⟩ (aW ⟨rfl, trivial⟩ (aW ⟨rfl, trivial⟩ (aW ⟨rfl, trivial⟩ (aW ⟨rfl, trivial⟩ (aW ⟨rfl, trivial⟩ (aG)))))))))))))))))))))) fun B8 => ?_)))
 refine gQ Z_192 (Ht rfl) (Ht rfl) rfl (i := 3) rfl (aK rfl) rfl rfl (ra rfl (eX (cK (ts (rm rfl (ro rfl (op_neq (Ht rfl) cV) (eX (dQ (Ht rfl) (fun hc => ?_) (fun hc => ?_)))))))))
 ·have hfx : fxE z fz port 1 ≠ 0 := by simpa using hc
  have he : rmE z s fz f port = fxE z fz port 1 := rm_fx hfx
  have hne : rmE z s fz f port ≠ 0 := by rw [he]; exact hfx
  refine ts (ro rfl (OpTy.imp (bld_30_ ) net_nil) (rm rfl (gQ Z_30 (Ht rfl) (Ht rfl) rfl (i := 2) rfl (aK rfl) rfl rfl (ra rfl (eX (T_ret2 rfl (fX (fK A_30 Z_30 rfl (i := 2) rfl rfl) ?_) (fX (eU rfl) ?_)))))))
  ·exact (fun v V h => by rw [rmZ', rmR, okL, okL, if_neg hne, if_neg hne]; exact h)
  ·exact (int_of he.symm)
 ·have hfx : fxE z fz port 1 = 0 := by simpa using hc
  obtain ⟨_, hb2, hzz⟩ := fx_ok hfx
  obtain ⟨p, hp⟩ : ∃ p, p = (port - 1).toNat := ⟨_, rfl⟩
  have hpe : port - 1 = (p : Int) := by omega
  have hpl : p < z.length := by omega
  have hspr := hs.row hpl
  haveI := hfs.get hL p p; haveI := hff.get hL 1 1; haveI := hff.get hL 0 0; haveI := hff.get hL 0 1; haveI := hff.get hL 1 0
  refine cU (cK (Y.D_start (m := 23) [] (bY (Ei := [(8, _)]) rfl rfl (bQ (bJ rfl rfl) bX) rfl rfl (dX rfl (op_idxAB U_192 Z_191 (Ht rfl) (cJ 0) rfl (by decide) rfl)) (bY (Ei := [(31, _)]) rfl rfl (bQ (bZ 0 rfl rfl) bX) rfl rfl (dX rfl (op_idxAB U_191 Z_45 (Ht rfl) (cJ 0) rfl (by decide) rfl)) (bY (Ei := [(32, _)]) rfl rfl (bQ (bZ 1 rfl rfl) bX) rfl rfl (dX rfl (eJ A_45 Z_45 (Ht rfl) (i := 3) rfl rfl rfl)) ?_)))))
  refine bY (Ei := [(8, _)]) rfl rfl (bQ (bJ rfl rfl) bX) rfl rfl (dX rfl (op_idxAB U_192 Z_191 (Ht rfl) (cJ 0) rfl (by decide) rfl)) (bY (Ei := [(34, _)]) rfl rfl (bQ (bZ 3 rfl rfl) bX) rfl rfl (dX rfl (op_idxAB U_191 Z_45 (Ht rfl) (cJ 1) rfl (by decide) rfl)) (bY (Ei := [(35, _)]) rfl rfl (bQ (bZ 4 rfl rfl) bX) rfl rfl (dX rfl (eJ A_45 Z_45 (Ht rfl) (i := 3) rfl rfl rfl)) (bY (Ei := [(8, _)]) rfl rfl (bQ (bJ rfl rfl) bX) rfl rfl (dX rfl (op_idxAB U_192 Z_191 (Ht rfl) (cJ 1) rfl (by decide) rfl)) ?_)))
  refine bY (Ei := [(37, _)]) rfl rfl (bQ (bZ 6 rfl rfl) bX) rfl rfl (dX rfl (op_idxAB U_191 Z_45 (Ht rfl) (cJ 0) rfl (by decide) rfl)) (bY (Ei := [(38, _)]) rfl rfl (bQ (bZ 7 rfl rfl) bX) rfl rfl (dX rfl (eJ A_45 Z_45 (Ht rfl) (i := 3) rfl rfl rfl)) (bY (Ei := [(8, _)]) rfl rfl (bQ (bJ rfl rfl) bX) rfl rfl (dX rfl (op_idxAB U_192 Z_191 (Ht rfl) (cJ 1) rfl (by decide) rfl)) (bY (Ei := [(40, _)]) rfl rfl (bQ (bZ 9 rfl rfl) bX) rfl rfl (dX rfl (op_idxAB U_191 Z_45 (Ht rfl) (cJ 1) rfl (by decide) rfl)) ?_)))
  refine bY (Ei := [(41, _)]) rfl rfl (bQ (bZ 10 rfl rfl) bX) rfl rfl (dX rfl (eJ A_45 Z_45 (Ht rfl) (i := 3) rfl rfl rfl)) (bY (Ei := [(1, _)]) rfl rfl (bQ (bJ rfl rfl) bX) rfl rfl (dX rfl (cX (Ht rfl))) (bY (Ei := [(43, _)]) rfl rfl (bQ (bZ 12 rfl rfl) bX) rfl rfl (dX rfl (op_sub (Ht rfl) cV (r := ((p : Nat) : Int)) ((w64 (z := port - 1) (by omega)).trans (by omega)))) ?_))
  refine Y.D_newp (Ei := []) (fun bb => box bb 45 (nb (gm f 0 0))) 19 rfl rfl rfl bX rfl rfl (by kernel_rfl) (eW (Ts := [Is (.bool false), Is (.slice none 0 0), Is (.bool false), Is (.slice none 0 0), Is (.slice none 0 0)]) O_45 rfl (fun V => aW ⟨rfl, trivial⟩ (aW ⟨rfl, trivial⟩ (aW ⟨rfl, trivial⟩ (aW ⟨rfl, trivial⟩ (aW ⟨rfl, trivial⟩ (aG))))))) (Y.D_newp (Ei := []) (fun bb => box bb 45 (nb (gm f 0 1))) 20 rfl rfl rfl bX rfl rfl (by kernel_rfl) (eW (Ts := [Is (.bool false), Is (.slice none 0 0), Is (.bool false), Is (.slice none 0 0), Is (.slice none 0 0)]) O_45 rfl (fun V => aW ⟨rfl, trivial⟩ (aW ⟨rfl, trivial⟩ (aW ⟨rfl, trivial⟩ (aW ⟨rfl, trivial⟩ (aW ⟨rfl, trivial⟩ (aG))))))) ?_)
  refine Y.D_newp (Ei := []) (fun bb => box bb 45 (nb (gm f 1 0))) 21 rfl rfl rfl bX rfl rfl (by kernel_rfl) (eW (Ts := [Is (.bool false), Is (.slice none 0 0), Is (.bool false), Is (.slice none 0 0), Is (.slice none 0 0)]) O_45 rfl (fun V => aW ⟨rfl, trivial⟩ (aW ⟨rfl, trivial⟩ (aW ⟨rfl, trivial⟩ (aW ⟨rfl, trivial⟩ (aW ⟨rfl, trivial⟩ (aG))))))) (Y.D_newp (Ei := []) (fun bb => box bb 45 (nb (gm f 1 1))) 22 rfl rfl rfl bX rfl rfl (by kernel_rfl) (eW (Ts := [Is (.bool false), Is (.slice none 0 0), Is (.bool false), Is (.slice none 0 0), Is (.slice none 0 0)]) O_45 rfl (fun V => aW ⟨rfl, trivial⟩ (aW ⟨rfl, trivial⟩ (aW ⟨rfl, trivial⟩ (aW ⟨rfl, trivial⟩ (aW ⟨rfl, trivial⟩ (aG))))))) ?_)
  refine Y.D_new (Ei := []) rfl rfl rfl bX rfl rfl (eW (Ts := [Is (.int .i64 0)]) O_3 rfl (fun V => aW ⟨rfl, trivial⟩ (aG))) (Y.D_putN (Ei := [(33, _)]) 14 rfl rfl rfl rfl rfl rfl (bQ (bZ 2 rfl rfl) bX) (fun bb => P_stA Z_45 (Ht rfl) (Ht rfl) rfl (i := 0) rfl (aK rfl) rfl rfl) (Y.D_putN (Ei := [(36, _)]) 15 rfl rfl rfl rfl rfl rfl (bQ (bZ 5 rfl rfl) bX) (fun bb => P_stA Z_45 (Ht rfl) (Ht rfl) rfl (i := 0) rfl (aK rfl) rfl rfl) (Y.D_putN (Ei := [(39, _)]) 16 rfl rfl rfl rfl rfl rfl (bQ (bZ 8 rfl rfl) bX) (fun bb => P_stA Z_45 (Ht rfl) (Ht rfl) rfl (i := 0) rfl (aK rfl) rfl rfl) ?_)))
  refine Y.D_putN (Ei := [(42, _)]) 17 rfl rfl rfl rfl rfl rfl (bQ (bZ 11 rfl rfl) bX) (fun bb => P_stA Z_45 (Ht rfl) (Ht rfl) rfl (i := 0) rfl (aK rfl) rfl rfl) (Y.D_done mixed rfl (by kernel_rfl) rfl (by simp [Y.okP]) rfl rfl (bU (bU (bU (bU (bU (bU (bU (bU (bU (bU (bU (bU (bU (bU (Y.F_newp (fun B10 => Y.F_newp (fun B11 => Y.F_newp (fun B12 => Y.F_newp (fun B13 => Y.F_new (fun B14 => Y.F_putN (Y.F_putN (Y.F_putN (Y.F_putN (Y.F_nil ?_)))))))))))))))))))))))))
  refine R_st Z_3 (Ht rfl) (Ht rfl) (i := 8) rfl (aK rfl) rfl (eX (cK (cK (gJ (i := 4) (tt := 10) rfl rfl frz_ptr (gJ (i := 5) (tt := 11) rfl rfl frz_ptr (gJ (i := 6) (tt := 12) rfl rfl frz_ptr (gJ (i := 7) (tt := 13) rfl rfl frz_ptr (gJ (i := 8) (tt := 14) rfl rfl frz_ptr1 (gJ (i := 0) (tt := 3) rfl rfl frz_ptr (T_keep [1, 2] rfl (by decide) (cY (ro rfl (dJ A_45 Z_45 (Ht rfl)) (ro rfl (op_iface mkif_45 (Ht rfl)) (ro rfl (op_invoke meth_45_Clear Tryz.call163 (c_Clear (x := gm f 0 1) (L := L) (by omega)) (Ht rfl) trivial) ?_))))))))))))))
  refine ro rfl (op_not (Ht rfl)) (rm rfl (fQ rfl rfl (eK rfl rfl (Ht rfl) (fun h => dJ A_45 Z_45 (Ht rfl))) (fQ rfl rfl (eK rfl rfl (Ht rfl) (fun h => op_iface mkif_45 (fJ rfl h))) (fQ rfl rfl (eK rfl rfl (Ht rfl) (fun h => op_invoke meth_45_Clear Tryz.call163 (c_Clear (x := gm f 1 0) (L := L) (by omega)) (fJ rfl h) trivial)) (fQ rfl rfl (eK rfl rfl (Ht rfl) (fun h => op_not (fJ rfl h))) (ro rfl (op_or (Ht rfl) (fun h => (fJ rfl h))) (eX (dQ (Ht rfl) (fun hcl => ?_) (fun hcl => ?_)))))))))
  ·have h3 : gm f 0 1 = Qi.zero ∨ gm f 1 0 = Qi.zero := by simpa using hcl
   have he : rmE z s fz f port = 6 := rm_no hfx (h3.elim .inl (fun k => .inr (.inl k)))
   have hne : rmE z s fz f port ≠ 0 := by rw [he]; decide
   refine ts (ro rfl (OpTy.imp (bld_30_ ) net_nil) (gQ Z_30 (Ht rfl) (Ht rfl) rfl (i := 1) rfl (aK rfl) rfl rfl (ro rfl (cQ (cJ 6)) (eX (T_ret2 rfl (fX (fK A_30 Z_30 rfl (i := 1) rfl rfl) ?_) (fX (eU rfl) ?_))))))
   ·exact (fun v V h => by rw [rmZ', rmR, okL, okL, if_neg hne, if_neg hne]; exact h)
   ·exact (int_of he.symm)
  ·have h3 : ¬ (gm f 0 1 = Qi.zero ∨ gm f 1 0 = Qi.zero) := by simpa using hcl
   refine cU (cK (fZ (m := 12) (dp 3 rfl (op_fld1 fa_30_1 (Ht rfl) rfl) (dq 56 0 rfl (dJ A_28 Z_28 (Ht rfl)) (dp 14 rfl (dJ A_3 Z_3 (Ht rfl)) (dqq 57 1 58 2 rfl (dZ U_28 Z_27 (Ht rfl) (Ht rfl) rfl (dY (dU (d := []) (by omega)))) (dq 59 3 rfl (dJ A_27 Z_27 (Ht rfl)) (dp 14 rfl (dJ A_3 Z_3 (Ht rfl)) (dqq 60 4 61 5 rfl (dZ U_27 Z_45 (Ht rfl) (Ht rfl) rfl (dY (dU (d := Qi.zero) (by omega)))) (dq 62 6 rfl (dJ A_45 Z_45 (Ht rfl)) ?_))))))))))
   refine dq 63 7 rfl (op_iface mkif_45 (Ht rfl)) (dp 10 rfl (dJ A_45 Z_45 (Ht rfl)) (dqq 64 8 65 9 rfl (op_invoke meth_45_Sub K_66 (c_Sub (x := gm s p p) (y := gm f 0 0) (L := L) (M := L) (by omega)) (Ht rfl) ⟨(Ht rfl), trivial⟩) (C.D_new (Ei := []) rfl rfl rfl bW (eW (Ts := [Is (.bool false), Is (.slice none 0 0), Is (.bool false), Is (.slice none 0 0), Is (.slice none 0 0)]) O_45 rfl (fun V => aW ⟨rfl, trivial⟩ (aW ⟨rfl, trivial⟩ (aW ⟨rfl, trivial⟩ (aW ⟨rfl, trivial⟩ (aW ⟨rfl, trivial⟩ (aG))))))) ?_)))
   refine fV mixed rfl (by kernel_rfl) (aJ (aJ (aJ (aJ (aJ (aJ (aJ (aJ (aJ (aJ (aJ (C.F_new (fun B15 => aV (gQ Z_45 (Ht rfl) (Ht rfl) rfl (i := 2) rfl (aK rfl) rfl rfl (eX (cK (gJ (i := 2) (tt := 15) rfl rfl frz_ptr (T_keep [0, 1] rfl (by decide) (fZ (m := 11) (dp 11 rfl (dJ A_45 Z_45 (Ht rfl)) (dq 67 0 rfl (op_iface mkif_45 (Ht rfl)) (dp 12 rfl (dJ A_45 Z_45 (Ht rfl)) (dqq 68 1 69 2 rfl (op_invoke meth_45_Mul K_67 (c_Mul (x := gm f 0 1) (y := gm f 1 0) (L := L) (M := L) (by omega)) (Ht rfl) ⟨(Ht rfl), trivial⟩) ?_)))))))))))))))))))))))
   refine dq 70 3 rfl (op_iface mkif_45 (Ht rfl)) (dp 13 rfl (dJ A_45 Z_45 (Ht rfl)) (dq 72 5 rfl (op_iface mkif_45 (Ht rfl)) (dp 15 rfl (dJ A_45 Z_45 (Ht rfl)) (dqq 73 6 74 7 rfl (op_invoke meth_45_Mul K_67 (c_Mul (x := gm f 1 1) (y := (gm s p p - gm f 0 0)) (L := L) (M := L + L + 1) (by omega)) (Ht rfl) ⟨(Ht rfl), trivial⟩) (dqq 71 4 75 8 rfl (op_invoke meth_45_Add K_68 (c_Add (x := gm f 0 1 * gm f 1 0) (y := gm f 1 1 * (gm s p p - gm f 0 0)) (L := L + L + 1) (M := L + (L + L + 1) + 1) (by omega)) (Ht rfl) ⟨(Ht rfl), trivial⟩) (C.D_new (Ei := []) rfl rfl rfl bW (eW (Ts := [Is (.bool false), Is (.slice none 0 0), Is (.bool false), Is (.slice none 0 0), Is (.slice none 0 0)]) O_45 rfl (fun V => aW ⟨rfl, trivial⟩ (aW ⟨rfl, trivial⟩ (aW ⟨rfl, trivial⟩ (aW ⟨rfl, trivial⟩ (aW ⟨rfl, trivial⟩ (aG))))))) ?_))))))
   refine fV mixed rfl (by kernel_rfl) (aJ (aJ (aJ (aJ (aJ (aJ (aJ (aJ (aJ (aJ (C.F_new (fun B16 => aV (gQ Z_45 (Ht rfl) (Ht rfl) rfl (i := 2) rfl (aK rfl) rfl rfl (eX (cK (gJ (i := 2) (tt := 16) rfl rfl frz_ptr (T_keep [0, 1] rfl (by decide) ?_)))))))))))))))))
   have hDf := rmD_fit (p := p) hfs hff hL
   haveI := hDf
   haveI : FitC (gm s p p - gm f 0 0) (L + L + 1) := inferInstance
   by_cases hD : rmD s f p = Qi.zero
   ·refine cY (ro rfl (dJ A_30 Z_30 (Ht rfl)) (ro rfl (dJ A_3 Z_3 (Ht rfl)) (ro rfl (dJ A_45 Z_45 (Ht rfl)) (ro rfl (cZ Tryz.call150 (c_ratios0 (z := z) (s := s) (p := p) (e := rmD s f p) (L := L) (M := 5 * L + 5) hs hpl hz hfs hDf hL (by omega) hD) ⟨(Ht rfl), (Ht rfl), (Ht rfl), trivial⟩) (rm rfl (ro rfl (dK (Ht rfl) rfl) (ro rfl (dK (Ht rfl) rfl) (ro rfl (dK (Ht rfl) rfl) (rn rfl (eW (Ts := [Is (.slice none 0 0)]) O_27 rfl (fun V => aW ⟨rfl, trivial⟩ (aG))) fun B17 => ?_)))))))))
    refine rn rfl (eW (Ts := [Is (.slice none 0 0)]) O_27 rfl (fun V => aW ⟨rfl, trivial⟩ (aG))) fun B18 => R_st Z_27 (Ht rfl) (Ht rfl) (i := 2) rfl (aK rfl) rfl (R_st Z_27 (Ht rfl) (Ht rfl) (i := 3) rfl (aK rfl) rfl (ra rfl (eX (cK (cK ?_)))))
    have he : rmE z s fz f port = 6 := rm_no hfx (.inr (.inr (by rw [← hp]; exact hD)))
    have hne : rmE z s fz f port ≠ 0 := by rw [he]; decide
    refine cY (rm rfl (ro rfl (op_neq (Ht rfl) cV) (eX (T_condT (Ht rfl) (by rfl) ?_))))
    refine ts (ro rfl (OpTy.imp (bld_30_ ) net_nil) (rm rfl (gQ Z_30 (Ht rfl) (Ht rfl) rfl (i := 1) rfl (aK rfl) rfl rfl (ra rfl (eX (T_ret2 rfl (fX (fK A_30 Z_30 rfl (i := 1) rfl rfl) ?_) (fX (eU rfl) ?_)))))))
    ·exact (fun v V h => by rw [rmZ', rmR, okL, okL, if_neg hne, if_neg hne]; exact h)
    ·exact (int_of he.symm)
   ·refine cY (ro rfl (dJ A_30 Z_30 (Ht rfl)) (ro rfl (dJ A_3 Z_3 (Ht rfl)) (ro rfl (dJ A_45 Z_45 (Ht rfl)) (ro rfl (cZ Tryz.call150 (c_ratios1 (z := z) (s := s) (p := p) (e := rmD s f p) (L := L) (M := 5 * L + 5) hs hpl hz hfs hDf hL (by omega) hD) ⟨(Ht rfl), (Ht rfl), (Ht rfl), trivial⟩) (rm rfl (ro rfl (dK (Ht rfl) rfl) (ro rfl (dK (Ht rfl) rfl) (ro rfl (dK (Ht rfl) rfl) (rn rfl (eW (Ts := [Is (.slice none 0 0)]) O_27 rfl (fun V => aW ⟨rfl, trivial⟩ (aG))) fun B17 => ?_)))))))))
    refine rn rfl (eW (Ts := [Is (.slice none 0 0)]) O_27 rfl (fun V => aW ⟨rfl, trivial⟩ (aG))) fun B18 => R_st Z_27 (Ht rfl) (Ht rfl) (i := 2) rfl (aK rfl) rfl (R_st Z_27 (Ht rfl) (Ht rfl) (i := 3) rfl (aK rfl) rfl (ra rfl (eX (cK (cK ?_)))))
    have he : rmE z s fz f port = 0 := rm_yes hfx (by rw [← hp]; exact fun k => k.elim (fun k => h3 (.inl k)) (fun k => k.elim (fun k => h3 (.inr k)) hD))
    refine gJ (i := 2) (tt := 17) rfl rfl frz_ptr1 (gJ (i := 3) (tt := 18) rfl rfl frz_ptr1 (cY (rm rfl (ro rfl (op_neq (Ht rfl) cV) (eX (T_condF (Ht rfl) (by rfl) ?_))))))
    refine T_keep [0, 1] rfl (by decide) (cU (ts (ro rfl (dJ A_45 Z_45 (Ht rfl)) (ro rfl (op_iface mkif_45 (Ht rfl)) (ro rfl (dJ A_45 Z_45 (Ht rfl)) (ro rfl (op_invoke meth_45_Div K_59 (c_Div (x := gm s p p - gm f 0 0) (y := rmD s f p) (L := L + L + 1) (M := 5 * L + 5) (by omega)) (Ht rfl) ⟨(Ht rfl), trivial⟩) (rm rfl (ro rfl (dK (Ht rfl) rfl) (ro rfl (dK (Ht rfl) rfl) (rn rfl (eW (Ts := [Is (.bool false), Is (.slice none 0 0), Is (.bool false), Is (.slice none 0 0), Is (.slice none 0 0)]) O_45 rfl (fun V => aW ⟨rfl, trivial⟩ (aW ⟨rfl, trivial⟩ (aW ⟨rfl, trivial⟩ (aW ⟨rfl, trivial⟩ (aW ⟨rfl, trivial⟩ (aG))))))) fun B19 => ?_))))))))))
    refine gQ Z_45 (Ht rfl) (Ht rfl) rfl (i := 2) rfl (aK rfl) rfl rfl (ra rfl (eX (cK (cK (gJ (i := 2) (tt := 19) rfl rfl frz_ptr (cY (rm rfl (ro rfl (op_neq (Ht rfl) cV) (eX (T_condF (Ht rfl) (by simp [hD]) ?_))))))))))
    refine T_keep [0, 1] rfl (by decide) (cU (cK (fZ (m := 7) (dp 3 rfl (dJ A_30 Z_30 (Ht rfl)) (dp 14 rfl (dJ A_3 Z_3 (Ht rfl)) (dp 5 rfl (eZ fa_30_0 (Ht rfl) rfl) (dq 101 2 rfl (eY A_27 Z_27 (Ht rfl) (i := 0) rfl rfl) (dq 102 3 rfl (dZ U_27 Z_45 (Ht rfl) (cJ 1) rfl (dY (dU (d := Qi.zero) (by omega)))) (dq 103 4 rfl (dJ A_45 Z_45 (Ht rfl)) (C.D_step (Ei := [(14, _), (19, _), (17, _), (11, _), (12, _), (18, _), (3, _), (13, _)]) rfl rfl (bV (bK rfl rfl) (bV (bK rfl rfl) (bV (bK rfl rfl) (bV (bK rfl rfl) (bV (bK rfl rfl) (bV (bK rfl rfl) (bV (bK rfl rfl) (bV (bK rfl rfl) bW)))))))) (dX rfl (op_clos (γ := Fin z.length × Fin z.length) (Ts := fun x => [NT .i64 x.1.1, NT .i64 x.2.1]) (U := fun x => NumT (rmX s f p x.1.1 x.2.1)) Tryz.call157 (fun x => c_Remove1 (z := z) (s := s) (f := f) (p := p) (L := L) hs hpl x.1.2 x.2.2 hz hfs hff hL hLb hD) ⟨(Ht rfl), (Ht rfl), (Ht rfl), (Ht rfl), (Ht rfl), (Ht rfl), (Ht rfl), (Ht rfl), trivial⟩)) ?_))))))))))
    refine fV mixed rfl (by kernel_rfl) (aJ (aJ (aJ (aJ (aJ (aJ (aJ (aV (ro rfl (cZ Tryz.call151 (c_with (z := z) (s := s) (p := p) (x := gv fz 1) (F := fun i j => rmX s f p i j) hs hpl hz) ⟨(Ht rfl), (Ht rfl), (Ht rfl), (Ht rfl), trivial⟩) (gQ Z_30 (Ht rfl) (Ht rfl) rfl (i := 1) rfl (aK rfl) rfl rfl (ro rfl (cQ (cJ 0)) (eX (T_ret2 rfl (fX (fK A_30 Z_30 rfl (i := 1) rfl rfl) ?_) (fX (eU rfl) ?_))))))))))))))
    ·exact (fun v V h => by rw [rmZ', rmR, okL, okL, if_pos he, if_pos he, ← hp]; exact h)
    ·exact (int_of he.symm)
theorem c_Remove {z fz : List Qi} {s f : List (List Qi)} {port : Int} {L : Nat} (hs : Shp s z.length z.length) (hz1 : 1 ≤ z.length) (hz : z.length ≤ 1000) (hfs : FitM s L) (hff : FitM f L) (hfz : FitL z L) (hfg : FitL fz L) (hL : 1 ≤ L) (hLb : L ≤ 10000) (hf : fz.length = 2 → Shp f 2 2) : Fun Tryz.prog 55 [NetT z s, IntT .i64 port, NetT fz f] (TupT [NetT (rmZ' z s fz f port) (rmR z s fz f port), IntT .i64 (rmE z s fz f port)]) := by
 by_cases h2 : fz.length = 2
 ·exact c_Remove2 hs hz1 hz hfs hff hfz hfg hL hLb h2 (hf h2)
 ·exact c_Remove0 hs hz1 hz hfs hff hfz hfg hL hLb h2
end
section
open Go Go.RowKit
theorem c_rPick {z : List Qi} {s : List (List Qi)} {Q : List Nat} (hs : Shp s z.length z.length) (hQ : ∀ x, x ∈ Q → x < z.length) (hm : Q.length ≤ 1000) : Fun Tryz.prog 156 [RNetT z s, IntsT Q] (RNetT (subZ z Q) (subM s Q)) := by
 have hsl := hs.1
 refine Fun.intro Tryz.func156 rfl Tryz.ntmps156 rfl (fun cx => (ts (rn rfl (fG (Ht rfl)) fun B2 => (rn rfl (eW (Ts := [Is (.slice none 0 0), Is (.slice none 0 0)]) O_34 rfl (fun V => aW ⟨rfl, trivial⟩ (aW ⟨rfl, trivial⟩ (aG)))) fun B4 => (eX (cK (fZ (m := 10) (dp 1 rfl (cX (Ht rfl)) (dq 8 0 rfl (dG U_69 (Ht rfl) len_map) (C.D_new (Ei := [(9, _)]) rfl rfl rfl (bV (bG 1 rfl rfl) bW) (new_makeS (T := ZQ) (i := Tryz.t98) und_31 info_98 rfl rfl (Ht rfl) rfl zq_p (El.ag rfl) (by show 88 * _ ≤ _; omega) (by omega)) ?_))))))))))
 refine dp 1 rfl (cX (Ht rfl)) (dq 11 3 rfl (dG U_69 (Ht rfl) len_map) (dp 1 rfl (cX (Ht rfl)) (dq 13 5 rfl (dG U_69 (Ht rfl) len_map) (C.D_new (Ei := [(12, _), (14, _)]) rfl rfl rfl (bV (bG 4 rfl rfl) (bV (bG 6 rfl rfl) bW)) (new_call0 Tryz.call138 (c_ZerosO (n := Q.length) (m := Q.length) (by omega) (by omega)) ⟨(Ht rfl), (Ht rfl), trivial⟩) (C.D_dep (fun T U => AggT [T, U]) 2 7 rfl rfl rfl rfl rfl rfl (fun T U hT hU => by obtain ⟨x, rfl⟩ := hT; obtain ⟨y, rfl⟩ := hU; (try dsimp only); exact dX rfl (bld_34_0_1 (Ht rfl) (Ht rfl))) ?_)))))
 refine C.D_new (Ei := []) rfl rfl rfl bW (eW (Ts := [Is (.slice none 0 0), Is (.slice none 0 0)]) O_34 rfl (fun V => aW ⟨rfl, trivial⟩ (aW ⟨rfl, trivial⟩ (aG)))) (fV mixed rfl (by kernel_rfl) (aJ (aJ (C.F_new (fun B10 => aJ (aJ (aJ (aJ (C.F_new (fun B15 => C.F_dep rfl rfl (C.F_new (fun B5 => aV (gQ Z_34 (Ht rfl) (Ht rfl) rfl (i := 4) rfl (aK rfl) rfl rfl (eX (cK (ts (ro rfl (cQ (cJ 0)) (eX (eG ?_)))))))))))))))))))
 refine T_loop (fun (i : Nat) => i ≤ Q.length) (fun (i : Nat) => Q.length - i) (fun (i : Nat) => [(1, IntsT Q), (2, PtrB B2 0), (4, PtrB B4 0), (5, PtrB B5 0), (6, NT .i64 i)]) (fun (i : Nat) => [box B2 34 [QsT z, QM s], box B4 34 [Is (.slice none 0 0), Is (.slice none 0 0)], rowO 98 5 (.slice (some ⟨B10, 0, none⟩) Q.length Q.length) (mixT (fun i => QT (gv z (qat Q i))) ZQ Q.length i), matP exactH B15 31 98 5 (FRow QT (mixT (fun i => tab Q.length fun j => gm s (qat Q i) (qat Q j)) (tab Q.length fun _ => Qi.zero) Q.length i)), box B5 34 [Is (.slice (some ⟨B10, 0, none⟩) Q.length Q.length), Is (.slice (some ⟨B15, 0, none⟩) Q.length Q.length)]]) 0 (Nat.zero_le _)
  (aQ rfl (aQ rfl (aQ rfl (aQ rfl (aQ rfl aX))))) (aU (box_of rfl) (aU (box_of rfl) (aU (rowO_of (by rw [← mix_zero]; exact rep_tab _ _)) (aU (matO_of (by rw [zeroM, mix_zero])) (aU (box_of rfl) aY))))) (fun i hi => ?_)
 refine cK (ts (rm rfl (rm rfl (ro rfl (dG U_69 (Ht rfl) len_map) (ro rfl (gX (Ht rfl) (Ht rfl)) (eX (dQ (Ht rfl) (fun hd => ?_) (fun hd => ?_))))))))
 ·have hin : i < Q.length := by simp only [decide_eq_true_eq] at hd; omega
  have hki := qat_lt hQ hin
  have hsr := hs.row hki
  refine T_focusE 3 (i) rfl (frow_mix hin) (fun v0 hv0 => (cU (cK (eG (cK (fZ (m := 11) (dp 5 rfl (eZ fa_34_0 (Ht rfl) rfl) (dq 23 0 rfl (op_ldBp A_31 Z_31 (Ht rfl) (i := 4) rfl rfl) (dp 6 rfl (cX (Ht rfl)) (dp 2 rfl (eZ fa_34_0 (Ht rfl) rfl) (dq 26 3 rfl (eY A_31 Z_31 (Ht rfl) (i := 0) rfl rfl) (dp 1 rfl (cX (Ht rfl)) (dp 6 rfl (cX (Ht rfl)) (dqq 28 5 29 6 rfl (dZ U_69 Z_3 (Ht rfl) (Ht rfl) rfl (dY (dU (d := 0) (by omega)))) (dq 30 7 rfl (dJ A_3 Z_3 (Ht rfl)) ?_)))))))))))))))
  refine dqq 27 4 31 8 rfl (dZ U_31 Z_98 (Ht rfl) (Ht rfl) rfl (dY (dU (d := Qi.zero) (by omega)))) (dq 32 9 rfl (dJ A_98 Z_98 (Ht rfl)) (fV mixed rfl (by kernel_rfl) (aJ (aJ (aJ (aJ (aJ (aJ (aJ (aJ (aJ (aJ (aJ (aV (ro rfl (op_idxO U_31 Z_98 (Ht rfl) (Ht rfl) rfl (i := 2) rfl (by rw [mix_len]; omega) rfl) ?_)))))))))))))))
  refine R_stO Z_98 (Ht rfl) (Ht rfl) (El.ag rfl) (i := 2) rfl rfl (by rw [mix_len]; omega) rfl ?_
  refine eX (ts (ro rfl (cQ (cJ 0)) (eX (eG ?_))))
  refine T_loop (fun (j : Nat) => j ≤ Q.length) (fun (j : Nat) => Q.length - j) (fun (j : Nat) => [(1, IntsT Q), (2, PtrB B2 0), (4, PtrB B4 0), (5, PtrB B5 0), (6, NT .i64 i), (7, NT .i64 j)]) (fun (j : Nat) => [box B2 34 [QsT z, QM s], box B4 34 [Is (.slice none 0 0), Is (.slice none 0 0)], rowO 98 5 (.slice (some ⟨B10, 0, none⟩) Q.length Q.length) (mixT (fun i => QT (gv z (qat Q i))) ZQ Q.length (i + 1)), matQ exactH B15 31 98 5 (FRow QT (mixT (fun i => tab Q.length fun j => gm s (qat Q i) (qat Q j)) (tab Q.length fun _ => Qi.zero) Q.length i)) i v0, box B5 34 [Is (.slice (some ⟨B10, 0, none⟩) Q.length Q.length), Is (.slice (some ⟨B15, 0, none⟩) Q.length Q.length)], rowO 98 5 v0 ((mixT (fun j => gm s (qat Q i) (qat Q j)) Qi.zero Q.length j).map QT)]) 0 (Nat.zero_le _)
   (aQ rfl (aQ rfl (aQ rfl (aQ rfl (aQ rfl (aQ rfl aX)))))) (aU (box_of rfl) (aU (box_of rfl) (aU (rowO_of (mix_set (f := (fun i => QT (gv z (qat Q i)))))) (aU (fun _ _ _ h => h) (aU (box_of rfl) (aU (rowO_of (by rw [← mix_zero])) aY)))))) (fun j hj => ?_)
  refine cK (ts (rm rfl (rm rfl (ro rfl (dG U_69 (Ht rfl) len_map) (ro rfl (gX (Ht rfl) (Ht rfl)) (eX (dQ (Ht rfl) (fun he => ?_) (fun he => ?_))))))))
  ·have hjn : j < Q.length := by simp only [decide_eq_true_eq] at he; omega
   have hkj := qat_lt hQ hjn
   have hrl := mix_len (fun j => gm s (qat Q i) (qat Q j)) Qi.zero Q.length j
   refine cU (cK (eG (fZ (m := 20) (dp 5 rfl (eZ fa_34_1 (Ht rfl) rfl) (dq 41 0 rfl (eY A_32 Z_32 (Ht rfl) (i := 4) rfl rfl) (dp 6 rfl (cX (Ht rfl)) (dqq 42 1 43 2 rfl (fY U_32 Z_31 (Ht rfl) (Ht rfl) rfl (by omega) (by rw [Nat.mul_one, Nat.zero_add])) ?_)))))))
   refine dq 44 3 rfl (op_ldH A_31 Z_31 (Ht rfl) (j := 3) rfl) (dp 7 rfl (cX (Ht rfl)) (dp 2 rfl (eZ fa_34_1 (Ht rfl) rfl) (dq 47 6 rfl (eY A_32 Z_32 (Ht rfl) (i := 0) rfl rfl) (dp 1 rfl (cX (Ht rfl)) (dp 6 rfl (cX (Ht rfl)) (dqq 49 8 50 9 rfl (dZ U_69 Z_3 (Ht rfl) (Ht rfl) rfl (dY (dU (d := 0) (by omega)))) (dq 51 10 rfl (dJ A_3 Z_3 (Ht rfl)) (dqq 48 7 52 11 rfl (dZ U_32 Z_31 (Ht rfl) (Ht rfl) rfl (dY (dU (d := []) (show qat Q i < s.length by omega)))) ?_))))))))
   refine dq 53 12 rfl (dJ A_31 Z_31 (Ht rfl)) (dp 1 rfl (cX (Ht rfl)) (dp 7 rfl (cX (Ht rfl)) (dqq 55 14 56 15 rfl (dZ U_69 Z_3 (Ht rfl) (Ht rfl) rfl (dY (dU (d := 0) (by omega)))) (dq 57 16 rfl (dJ A_3 Z_3 (Ht rfl)) (dqq 54 13 58 17 rfl (dZ U_31 Z_98 (Ht rfl) (Ht rfl) rfl (dY (dU (d := Qi.zero) (show qat Q j < (s.getD (qat Q i) []).length by omega)))) (dq 59 18 rfl (dJ A_98 Z_98 (Ht rfl)) (fV mixed rfl (by kernel_rfl) (aJ (aJ (aJ (aJ (aJ (aJ (aJ (aJ (aJ (aJ (aJ (aJ (aJ (aJ (aJ (aJ (aJ (aJ (aJ (aJ (aV ?_))))))))))))))))))))))))))))
   refine ro rfl (op_idxO U_31 Z_98 (Ht rfl) (Ht rfl) rfl (i := 5) rfl (by rw [List.length_map, hrl]; exact hjn) rfl) ?_
   refine R_stO Z_98 (Ht rfl) (Ht rfl) (El.ag rfl) (i := 5) rfl rfl (by rw [List.length_map, hrl]; exact hjn) rfl ?_
   refine eX (T_blk (cY (rm rfl (ro rfl (dV (Ht rfl) (cJ 1) (by show _ < 9223372036854775808; first | omega | (simp only [lim]; omega))) (ra rfl (eX (fU (j + 1) hjn (by omega) (aQ rfl (aQ rfl (aQ rfl (aQ rfl (aQ rfl (aQ rfl aX)))))) (aU (box_of rfl) (aU (box_of rfl) (aU (fun _ _ _ h => h) (aU (fun _ _ _ h => h) (aU (box_of rfl) (aU (rowO_of (by rw [set_mapF]; exact congrArg _ (mix_set (f := (fun j => gm s (qat Q i) (qat Q j)))))) aY)))))))))))))
  ·have hjn : j = Q.length := by simp only [decide_eq_false_iff_not] at he; omega
   rw [hjn, mix_fin (fun j => gm s (qat Q i) (qat Q j))]
   refine gV rfl (T_blk (T_unfocus 3 5 rfl rfl (by decide) (by simp only [FRow, List.length_map, mix_len]; omega) ?_))
   refine cY (rm rfl (ro rfl (dV (Ht rfl) (cJ 1) (by show _ < 9223372036854775808; first | omega | (simp only [lim]; omega))) (ra rfl (eX (T_keep [0, 1, 2, 3, 4] rfl (by decide) (fU (i + 1) hin (by omega) (aQ rfl (aQ rfl (aQ rfl (aQ rfl (aQ rfl aX))))) (aU (box_of rfl) (aU (box_of rfl) (aU (fun _ _ _ h => h) (aU (matO_of (by rw [set_FRow]; exact congrArg _ (mix_set (f := (fun i => tab Q.length fun j => gm s (qat Q i) (qat Q j)))))) (aU (box_of rfl) aY)))))))))))
 ·have hin : i = Q.length := by simp only [decide_eq_false_iff_not] at hd; omega
  rw [hin, mix_fin, mix_fin]
  refine gV rfl (cK (T_frzcell 4 2 0 rfl rfl rfl (by decide) (T_frzcellG 4 3 1 rfl rfl rfl (by decide) (frzM (q := exactH) (M := subM s Q) (tab_len _ _).symm) (cY (ro rfl (eJ A_34 Z_34 (Ht rfl) (i := 4) rfl rfl rfl) (gQ Z_34 (Ht rfl) (Ht rfl) rfl (i := 1) rfl (aK rfl) rfl rfl (eX (fW rfl (fX (fK A_34 Z_34 rfl (i := 1) rfl rfl) ?_)))))))))
  exact (rn_of (by rw [subZ, tab_map]))
end
section
open Go Go.RowKit
def updM (V S : Nat → Nat → Qi) (P : Nat → Nat → Bool) (n : Nat) : List (List Qi) := tab n fun a => tab n fun b => if P a b = true then V a b else S a b
theorem upd_shp {V S : Nat → Nat → Qi} {P : Nat → Nat → Bool} {n : Nat} : Shp (updM V S P n) n n := Shp.tab
theorem upd_gm {V S : Nat → Nat → Qi} {P : Nat → Nat → Bool} {n a b : Nat} (ha : a < n) (hb : b < n) : gm (updM V S P n) a b = if P a b = true then V a b else S a b := gm_tab ha hb
theorem upd_set {V S : Nat → Nat → Qi} {P P' : Nat → Nat → Bool} {n i j : Nat} (hi : i < n) (hj : j < n) (h : ∀ a b, P' a b = true ↔ P a b = true ∨ (a = i ∧ b = j)) : setM (updM V S P n) i j (V i j) = updM V S P' n :=
 mat_ext (setM_shp upd_shp) upd_shp fun a ha b hb => by
  rw [setM_gm upd_shp hi hj, upd_gm ha hb, upd_gm ha hb]
  by_cases e : a = i ∧ b = j
  ·rw [if_pos e, if_pos ((h a b).2 (.inr e)), e.1, e.2]
  ·rw [if_neg e]
   by_cases c : P a b = true
   ·rw [if_pos c, if_pos ((h a b).2 (.inl c))]
   ·rw [if_neg c, if_neg fun k => ((h a b).1 k).elim c e]
def pAt (i j a b : Nat) : Bool := decide (a < i ∨ (a = i ∧ b < j))
theorem pAt_next {i j a b : Nat} : pAt i (j + 1) a b = true ↔ pAt i j a b = true ∨ (a = i ∧ b = j) := by simp only [pAt, decide_eq_true_eq]; omega
theorem upd_row {V S : Nat → Nat → Qi} {n i : Nat} : updM V S (pAt i n) n = updM V S (pAt (i + 1) 0) n := tab_congr fun a _ => tab_congr fun b hb => by
 have : pAt i n a b = pAt (i + 1) 0 a b := by rw [Bool.eq_iff_iff]; simp only [pAt, decide_eq_true_eq]; omega
 rw [this]
theorem upd_zero {V : Nat → Nat → Qi} {M : List (List Qi)} {n : Nat} (h : Shp M n n) : M = updM V (gm M) (pAt 0 0) n := mat_ext h upd_shp fun a ha b hb => by
 rw [upd_gm ha hb, if_neg (by simp [pAt])]
theorem upd_fin {V S : Nat → Nat → Qi} {n : Nat} : updM V S (pAt n 0) n = tab n fun a => tab n fun b => V a b := tab_congr fun a ha => tab_congr fun b _ => by
 rw [if_pos (by simp [pAt]; omega)]
abbrev rmK (s f : List (List Qi)) (p : Nat) : Qi := Qi.ofInt 1 / rmD s f p
abbrev rm1 (s f : List (List Qi)) (p a b : Nat) : Qi := gm s a b - gm f 1 1 * (rmK s f p * (gm s a p * gm s p b))
def rm2 (T s f : List (List Qi)) (p : Nat) : Nat → List (List Qi)
 | 0 => T
 | i + 1 => setM (setM (rm2 T s f p i) i p (rmK s f p * (gm f 0 1 * gm s i p))) p i (rmK s f p * (gm f 1 0 * gm s p i))
theorem rm2_shp {T s f : List (List Qi)} {p n : Nat} (h : Shp T n n) : ∀ i, Shp (rm2 T s f p i) n n
 | 0 => h
 | i + 1 => setM_shp (setM_shp (rm2_shp h i))
theorem rm2_gm {T s f : List (List Qi)} {p n : Nat} (h : Shp T n n) (hp : p < n) {a b : Nat} (hn : ¬ (a = p ∧ b = p)) : ∀ i, i ≤ n → gm (rm2 T s f p i) a b = if b = p ∧ a < i then rmK s f p * (gm f 0 1 * gm s a p) else if a = p ∧ b < i then rmK s f p * (gm f 1 0 * gm s p b) else gm T a b
 | 0, _ => by rw [rm2, if_neg (by omega), if_neg (by omega)]
 | i + 1, hi => by
  rw [rm2, setM_gm (setM_shp (rm2_shp h i)) hp (by omega), setM_gm (rm2_shp h i) (by omega) hp, rm2_gm h hp hn i (by omega)]
  by_cases e1 : a = p ∧ b = i
  ·rw [if_pos e1, if_neg (by omega), if_pos (by omega), e1.2]
  ·rw [if_neg e1]
   by_cases e2 : a = i ∧ b = p
   ·rw [if_pos e2, if_pos (by omega), e2.1]
   ·rw [if_neg e2]
    by_cases e3 : b = p ∧ a < i
    ·rw [if_pos e3, if_pos (by omega)]
    ·rw [if_neg e3]
     by_cases e4 : a = p ∧ b < i
     ·rw [if_pos e4, if_neg (by omega), if_pos (by omega)]
     ·rw [if_neg e4, if_neg (by omega), if_neg (by omega)]
theorem rm_eq {s f : List (List Qi)} {p n : Nat} (hp : p < n) : setM (rm2 (tab n fun a => tab n fun b => rm1 s f p a b) s f p n) p p (rmK s f p * (gm s p p - gm f 0 0)) = rmRM s f p n :=
 mat_ext (setM_shp (rm2_shp Shp.tab n)) Shp.tab fun a ha b hb => by
  rw [setM_gm (rm2_shp Shp.tab n) hp hp, rmRM, gm_tab ha hb, rmX]
  by_cases e : a = p ∧ b = p
  ·rw [if_pos e, if_pos e, rmK, Qi.div_def, Qi.div_def, q1]; grind
  ·rw [if_neg e, if_neg e, rm2_gm Shp.tab hp e n (Nat.le_refl n), gm_tab ha hb]
   by_cases c : b = p
   ·rw [if_pos ⟨c, ha⟩, if_pos c, rmK, Qi.div_def, Qi.div_def, q1]; grind
   ·rw [if_neg (fun k => c k.1), if_neg c]
    by_cases d : a = p
    ·rw [if_pos ⟨d, hb⟩, if_pos d, rmK, Qi.div_def, Qi.div_def, q1]; grind
    ·rw [if_neg (fun k => d k.1), if_neg d, rm1, rmK, Qi.div_def, Qi.div_def, q1]; grind
end
section
open Go Go.RowKit
theorem rfx_4 {z fz : List Qi} {port : Int} {x : Nat} (h : fz.length ≠ 2) : fxE z fz port x = 4 := if_pos h
theorem rfx_1 {z fz : List Qi} {port : Int} {x : Nat} (h : fz.length = 2) (h2 : ¬ (1 ≤ port ∧ port ≤ (z.length : Int))) : fxE z fz port x = 1 := by rw [fxE, if_neg (fun k => k h), if_pos h2]
theorem rfx_d {z fz : List Qi} {port : Int} {x : Nat} (h : fz.length = 2) (h2 : 1 ≤ port ∧ port ≤ (z.length : Int)) : fxE z fz port x = if gv fz (x - 1) = gv z (port - 1).toNat then 0 else 40 := by rw [fxE, if_neg (fun k => k h), if_neg (fun k => k h2)]
theorem rmD_fit2 {s f : List (List Qi)} {p L : Nat} (hs : FitM s L) (hf : FitM f L) (hL : 1 ≤ L) : FitC (rmD s f p) (5 * L + 5) := by
 haveI := hs.get hL p p; haveI := hf.get hL 1 1; haveI := hf.get hL 0 0; haveI := hf.get hL 0 1; haveI := hf.get hL 1 0
 exact (inferInstance : FitC (gm f 0 1 * gm f 1 0 + gm f 1 1 * (gm s p p - gm f 0 0)) ((L + L + 1) + (L + (L + L + 1) + 1) + 1)).le (by omega)
abbrev qb (x : Qi) : List Ty := [BoolT (decide (x.a < 0)), NatT x.a.natAbs, BoolT (decide (x.b < 0)), NatT x.b.natAbs, NatT x.den]
theorem mapQ_ne2 {l : List Qi} (h : 1 ≤ l.length) : l.map QT ≠ [] := fun e => by
 have h2 := congrArg List.length e
 rw [List.length_map, List.length_nil] at h2; omega
theorem c_rFixture {z fz : List Qi} {s f : List (List Qi)} {port : Int} {x L : Nat} (hx : x = 1 ∨ x = 2) (hfz : FitL z L) (hff : FitL fz L) (hL : 1 ≤ L) (hLb : L ≤ 1000000) (hl : z.length ≤ 1000) (hl2 : fz.length ≤ 1000) : Fun Tryz.prog 153 [RNetT z s, IntT .i64 port, RNetT fz f, NT .i64 x] (IntT .i64 (fxE z fz port x)) := by
 refine Fun.intro Tryz.func153 rfl Tryz.ntmps153 rfl (fun cx => (ts (rn rfl (fG (Ht rfl)) fun B4 => (rn rfl (fG (Ht rfl)) fun B6 => (ro rfl (cQ (cJ 0)) (eX (cK (ts (ro rfl (eZ fa_34_0 (Ht rfl) rfl) (ro rfl (eY A_31 Z_31 (Ht rfl) (i := 1) rfl rfl) (ro rfl (dG U_31 (Ht rfl) len_map) (ro rfl (op_neqN (Ht rfl) (cJ 2)) (eX (dQ (Ht rfl) (fun ha => ?_) (fun ha => ?_)))))))))))))))
 ·have he := rfx_4 (z := z) (fz := fz) (port := port) (x := x) (by simpa using ha)
  refine ts (ro rfl (cQ (cJ 4)) (eX (fW rfl (fX (eU rfl) ?_))))
  exact (int_of he.symm)
 ·have h2 : fz.length = 2 := by simpa using ha
  refine cU (cK (ts (ro rfl (eJ A_34 Z_34 (Ht rfl) (i := 0) rfl rfl rfl) (rm rfl (ro rfl (cZ Tryz.call227 c_rHas ⟨(Ht rfl), (Ht rfl), trivial⟩) (ro rfl (op_not (Ht rfl)) (eX (dQ (Ht rfl) (fun hb => ?_) (fun hb => ?_)))))))))
  ·have he := rfx_1 (x := x) h2 (by simpa only [Bool.not_eq_true', decide_eq_false_iff_not] using hb : ¬ (1 ≤ port ∧ port ≤ (z.length : Int)))
   refine ts (ro rfl (cQ (cJ 1)) (eX (fW rfl (fX (eU rfl) ?_))))
   exact (int_of he.symm)
  ·have hb2 : 1 ≤ port ∧ port ≤ (z.length : Int) := by simpa using hb
   have hd := rfx_d (x := x) h2 hb2
   haveI g1 : FitC (gv fz (x - 1)) L := hff.get hL _
   haveI g2 : FitC (gv z (port - 1).toNat) L := hfz.get hL _
   refine cU (cK (cK (fZ (m := 12) (dp 6 rfl (eZ fa_34_0 (Ht rfl) rfl) (dq 17 0 rfl (eY A_31 Z_31 (Ht rfl) (i := 1) rfl rfl) (dp 3 rfl (cX (Ht rfl)) (dq 19 2 rfl (dW (Ht rfl) (cJ 1) (by omega) (by show _ < 9223372036854775808; first | omega | (simp only [lim]; omega))) (dqq 18 1 20 3 rfl (dZ U_31 Z_98 (Ht rfl) (Ht rfl) rfl (dY (dU (d := Qi.zero) (by omega)))) (dq 21 4 rfl (dJ A_98 Z_98 (Ht rfl)) (dp 4 rfl (eZ fa_34_0 (Ht rfl) rfl) (dq 23 6 rfl (eY A_31 Z_31 (Ht rfl) (i := 0) rfl rfl) ?_)))))))))))
   refine dp 1 rfl (cX (Ht rfl)) (dq 25 8 rfl (op_sub (Ht rfl) cV (r := (((port - 1).toNat : Nat) : Int)) ((w64 (z := port - 1) (by omega)).trans (by omega))) ?_)
   refine dqq 24 7 26 9 rfl (dZ U_31 Z_98 (Ht rfl) (Ht rfl) rfl (dY (dU (d := Qi.zero) (by omega)))) (dq 27 10 rfl (dJ A_98 Z_98 (Ht rfl)) (fV mixed rfl (by kernel_rfl) (aJ (aJ (aJ (aJ (aJ (aJ (aJ (aJ (aJ (aJ (aJ (aJ (aV (ro rfl (cZ Tryz.call212 (c_rSame (x := gv fz (x - 1)) (y := gv z (port - 1).toNat) (L := L) (M := L) (by omega) (by omega)) ⟨(Ht rfl), (Ht rfl), trivial⟩) (ro rfl (op_not (Ht rfl)) (eX (dQ (Ht rfl) (fun hc => ?_) (fun hc => ?_))))))))))))))))))))
   ·have he : fxE z fz port x = 40 := by rw [hd, if_neg (by simpa using hc)]
    refine ts (ro rfl (cQ (cJ 40)) (eX (fW rfl (fX (eU rfl) ?_))))
    exact (int_of he.symm)
   ·have he : fxE z fz port x = 0 := by rw [hd, if_pos (by simpa using hc)]
    refine cU (ts (ro rfl (cQ (cJ 0)) (eX (fW rfl (fX (eU rfl) ?_)))))
    exact (int_of he.symm)
theorem c_rEmbed {z fz : List Qi} {s f : List (List Qi)} {port : Int} {L : Nat} (hs : Shp s z.length z.length) (hz1 : 1 ≤ z.length) (hz : z.length ≤ 7) (hfs : FitM s L) (hff : FitM f L) (hfz : FitL z L) (hfg : FitL fz L) (hL : 1 ≤ L) (hLb : L ≤ 1000) (hl2 : fz.length ≤ 1000) (hf : fz.length = 2 → Shp f 2 2) : Fun Tryz.prog 54 [RNetT z s, IntT .i64 port, RNetT fz f] (TupT [RNetT (emZ z s fz f port) (emR z s fz f port), IntT .i64 (emE z s fz f port)]) := by
 have hsl := hs.1
 refine Fun.intro Tryz.func54 rfl Tryz.ntmps54 rfl (fun cx => (ts (rn rfl (fG (Ht rfl)) fun B3 => (rn rfl (fG (Ht rfl)) fun B5 => (rn rfl (eW (Ts := [Is (.slice none 0 0), Is (.slice none 0 0)]) O_34 rfl (fun V => aW ⟨rfl, trivial⟩ (aW ⟨rfl, trivial⟩ (aG)))) fun B6 => (ro rfl (cQ (cJ 0)) (eX (cK (ts (ro rfl (eJ A_34 Z_34 (Ht rfl) (i := 0) rfl rfl rfl) (rm rfl (ro rfl (eJ A_34 Z_34 (Ht rfl) (i := 1) rfl rfl rfl) (ro rfl (cZ Tryz.call153 (c_rFixture (x := 2) (L := L) (by decide) hfz hfg hL (by omega) (by omega) hl2) ⟨(Ht rfl), (Ht rfl), (Ht rfl), (cJ 2), trivial⟩) ?_)))))))))))))
 refine ra rfl (eX (ts (rm rfl (ro rfl (op_neq (Ht rfl) cV) (eX (dQ (Ht rfl) (fun hc => ?_) (fun hc => ?_)))))))
 ·have hfx : fxE z fz port 2 ≠ 0 := by simpa using hc
  have he : emE z s fz f port = fxE z fz port 2 := em_fx hfx
  have hne : emE z s fz f port ≠ 0 := by rw [he]; exact hfx
  refine ts (ro rfl (OpTy.imp (bld_34_ ) rnet_nil) (rm rfl (gQ Z_34 (Ht rfl) (Ht rfl) rfl (i := 2) rfl (aK rfl) rfl rfl (ra rfl (eX (T_ret2 rfl (fX (fK A_34 Z_34 rfl (i := 2) rfl rfl) ?_) (fX (eU rfl) ?_)))))))
  ·exact (fun v V h => by rw [emZ, emR, okL, okL, if_neg hne, if_neg hne]; exact h)
  ·exact (int_of he.symm)
 ·have hfx : fxE z fz port 2 = 0 := by simpa using hc
  obtain ⟨h2, hb2, hzz⟩ := fx_ok hfx
  have hfs2 := hf h2
  obtain ⟨p, hp⟩ : ∃ p, p = (port - 1).toNat := ⟨_, rfl⟩
  have hpe : port - 1 = (p : Int) := by omega
  have hpl : p < z.length := by omega
  have hcc := c_connect (z := z ++ fz) (S := emS s f z.length) (n := z.length + 2) (L := L) (ps := [(p, z.length + 1)]) (sidM_shp _ _ _ _) (by rw [List.length_append, h2]) (sidM_fit hfs hff hL) hL hLb (by omega) (by omega) (fun j hj => by
   obtain rfl : j = 0 := by simp at hj; exact hj
   exact ⟨show p < z.length + 2 by omega, show z.length + 1 < z.length + 2 by omega⟩) (by simp)
  obtain ⟨ZC, hZC⟩ : ∃ ZC, ZC = (lfL (emT z.length p) (z.length + 2)).map fun l => gv (z ++ fz) l := ⟨_, rfl⟩
  obtain ⟨SC, hSC⟩ : ∃ SC, SC = tab z.length fun x => tab z.length fun y => cnV (emS s f z.length) (emT z.length p) (z.length + 2) (lfL (emT z.length p) (z.length + 2)) x y := ⟨_, rfl⟩
  have hll : (lfL (emT z.length p) (z.length + 2)).length = z.length := by rw [em_lf2 hpl, tab_len]
  have hZl : ZC.length = z.length := by rw [hZC, List.length_map, hll]
  have hSs : Shp SC z.length z.length := by rw [hSC]; exact Shp.tab
  have hlen1 : [(p, z.length + 1)].length = 1 := rfl
  rw [hlen1, hll] at hcc
  by_cases hD : emD s f p = Qi.zero
  ·have hc0 := em_bad (s := s) (f := f) hpl hD
   rw [show toL (z.length + 2) [(p, z.length + 1)] 1 = emT z.length p from rfl, hc0] at hcc
   have he : emE z s fz f port = 6 := em_no hfx (by rw [← hp]; exact hD)
   have hne : emE z s fz f port ≠ 0 := by rw [he]; decide
   have hc2 : Fun Tryz.prog 154 [RNetT (z ++ fz) (emS s f z.length), SlT 2 [AggT [NT .i64 p, NT .i64 (z.length + 1)]]] (TupT [RNetT [] [], BoolT false]) := hcc
   refine cU (ts (ro rfl (eZ fa_34_0 (Ht rfl) rfl) (ro rfl (eY A_31 Z_31 (Ht rfl) (i := 0) rfl rfl) (ro rfl (dG U_31 (Ht rfl) len_map) (ra rfl (eX (ts (ro rfl (eJ A_34 Z_34 (Ht rfl) (i := 0) rfl rfl rfl) (ro rfl (eJ A_34 Z_34 (Ht rfl) (i := 1) rfl rfl rfl) (ro rfl (cZ Tryz.call155 (c_side (z := z) (zb := fz) (a := s) (b := f) (x := z.length) (y := 2) hs hfs2 rfl h2 hz1 (by omega) (by omega) (by omega)) ⟨(Ht rfl), (Ht rfl), trivial⟩) (rm rfl (ro rfl (op_sub (Ht rfl) cV (r := ((p : Nat) : Int)) ((w64 (z := port - 1) (by omega)).trans (by omega))) ?_))))))))))))
   refine rm rfl (ro rfl (dV (Ht rfl) (cJ 1) (by show _ < 9223372036854775808; first | omega | (simp only [lim]; omega))) (ro rfl (bld_120_0_1 (Ht rfl) (Ht rfl)) (ro rfl (op_bslice (xs := [.tmp 33]) U_59 Z_120 Tryz.zeroValue120 (cW (Ht rfl) cG) rfl rfl rfl) (ro rfl (cZ Tryz.call154 hc2 ⟨(Ht rfl), (Ht rfl), trivial⟩) (rm rfl (ro rfl (dK (Ht rfl) rfl) (ro rfl (dK (Ht rfl) rfl) (rn rfl (eW (Ts := [Is (.slice none 0 0), Is (.slice none 0 0)]) O_34 rfl (fun V => aW ⟨rfl, trivial⟩ (aW ⟨rfl, trivial⟩ (aG)))) fun B10 => ?_))))))))
   refine gQ Z_34 (Ht rfl) (Ht rfl) rfl (i := 3) rfl (aK rfl) rfl rfl (ra rfl (eX (cK (ts (rm rfl (ro rfl (op_not (Ht rfl)) (eX (T_condT (Ht rfl) (by rfl) ?_))))))))
   refine ts (ro rfl (OpTy.imp (bld_34_ ) rnet_nil) (gQ Z_34 (Ht rfl) (Ht rfl) rfl (i := 2) rfl (aK rfl) rfl rfl (ro rfl (cQ (cJ 6)) (eX (T_ret2 rfl (fX (fK A_34 Z_34 rfl (i := 2) rfl rfl) ?_) (fX (eU rfl) ?_))))))
   ·exact (fun v V h => by rw [emZ, emR, okL, okL, if_neg hne, if_neg hne]; exact h)
   ·exact (int_of he.symm)
  ·have hc0 := (em_ok (s := s) (f := f) hpl hD).1
   rw [show toL (z.length + 2) [(p, z.length + 1)] 1 = emT z.length p from rfl, hc0] at hcc
   have he : emE z s fz f port = 0 := em_yes hfx (by rw [← hp]; exact hD)
   have hc2 : Fun Tryz.prog 154 [RNetT (z ++ fz) (emS s f z.length), SlT 2 [AggT [NT .i64 p, NT .i64 (z.length + 1)]]] (TupT [RNetT ZC SC, BoolT true]) := by rw [hZC, hSC]; exact hcc
   refine cU (ts (ro rfl (eZ fa_34_0 (Ht rfl) rfl) (ro rfl (eY A_31 Z_31 (Ht rfl) (i := 0) rfl rfl) (ro rfl (dG U_31 (Ht rfl) len_map) (ra rfl (eX (ts (ro rfl (eJ A_34 Z_34 (Ht rfl) (i := 0) rfl rfl rfl) (ro rfl (eJ A_34 Z_34 (Ht rfl) (i := 1) rfl rfl rfl) (ro rfl (cZ Tryz.call155 (c_side (z := z) (zb := fz) (a := s) (b := f) (x := z.length) (y := 2) hs hfs2 rfl h2 hz1 (by omega) (by omega) (by omega)) ⟨(Ht rfl), (Ht rfl), trivial⟩) (rm rfl (ro rfl (op_sub (Ht rfl) cV (r := ((p : Nat) : Int)) ((w64 (z := port - 1) (by omega)).trans (by omega))) ?_))))))))))))
   refine rm rfl (ro rfl (dV (Ht rfl) (cJ 1) (by show _ < 9223372036854775808; first | omega | (simp only [lim]; omega))) (ro rfl (bld_120_0_1 (Ht rfl) (Ht rfl)) (ro rfl (op_bslice (xs := [.tmp 33]) U_59 Z_120 Tryz.zeroValue120 (cW (Ht rfl) cG) rfl rfl rfl) (ro rfl (cZ Tryz.call154 hc2 ⟨(Ht rfl), (Ht rfl), trivial⟩) (rm rfl (ro rfl (dK (Ht rfl) rfl) (ro rfl (dK (Ht rfl) rfl) (rn rfl (eW (Ts := [Is (.slice none 0 0), Is (.slice none 0 0)]) O_34 rfl (fun V => aW ⟨rfl, trivial⟩ (aW ⟨rfl, trivial⟩ (aG)))) fun B10 => ?_))))))))
   refine gQ Z_34 (Ht rfl) (Ht rfl) rfl (i := 3) rfl (aK rfl) rfl rfl (ra rfl (eX (cK (ts (rm rfl (ro rfl (op_not (Ht rfl)) (eX (T_condF (Ht rfl) (by rfl) ?_))))))))
   refine cU (ts (rn rfl (new_bslice0 U_69 Z_3 O_3) fun B41 => (ra rfl (eX (cK (ts (ro rfl (cQ (cJ 0)) (eX (eG (T_keep [2, 3, 4] rfl (by decide) ?_))))))))))
   refine T_loop2 (fun (k : Nat) (vL : Value) => k ≤ z.length - 1) (fun (k : Nat) (vL : Value) => z.length - 1 - k) (fun (k : Nat) (vL : Value) => [(1, IntT .i64 port), (6, PtrB B6 0), (9, NT .i64 z.length), (10, PtrB B10 0), (12, Is vL), (13, NT .i64 k)]) (fun (k : Nat) (vL : Value) => [box B6 34 [Is (.slice none 0 0), Is (.slice none 0 0)], box B10 34 [QsT ZC, QM SC], rowO 3 1 vL ((emL z.length p k).map (NT .i64))]) 0 _ (Nat.zero_le _)
    (aQ rfl (aQ rfl (aQ rfl (aQ rfl (aQ rfl (aQ rfl aX)))))) (aU (box_of rfl) (aU (box_of rfl) (aU (rowO_of rfl) aY))) (fun k vL hk => ?_)
   refine cK (ts (rm rfl (rm rfl (ro rfl (dW (Ht rfl) (cJ 1) (by omega) (by show _ < 9223372036854775808; first | omega | (simp only [lim]; omega))) (ro rfl (gX (Ht rfl) (Ht rfl)) (eX (dQ (Ht rfl) (fun hd => ?_) (fun hd => ?_))))))))
   ·have hkn : k < z.length - 1 := by simp only [decide_eq_true_eq] at hd; omega
    have hel : (emL z.length p k).length ≤ 20 := by rw [emL_eq, tab_len]; split <;> omega
    refine cU (cK (eG (cK (ts (rm rfl (rm rfl (ro rfl (op_sub (Ht rfl) cV (r := ((p : Nat) : Int)) ((w64 (z := port - 1) (by omega)).trans (by omega))) ?_)))))))
    refine ro rfl (op_eqlN (Ht rfl) (Ht rfl)) (eX (dQ (Ht rfl) (fun he2 => ?_) (fun he2 => ?_)))
    ·have h3 : k = p := by simpa using he2
     have hnx : emL z.length p (k + 1) = emL z.length p k ++ [z.length - 1] ++ [k] := by rw [emL, if_pos h3, List.append_assoc]; rfl
     refine cY (rm rfl (rm rfl (ro rfl (dW (Ht rfl) (cJ 1) (by omega) (by show _ < 9223372036854775808; first | omega | (simp only [lim]; omega))) (ro rfl (op_bslice (xs := [.tmp 54]) U_69 Z_3 O_3 (cW (Ht rfl) cG) rfl rfl rfl) (R_append (inf := Tryz.t3) und_69 info_3 rfl rfl rfl (Ht rfl) (Ht rfl) (i := 2) rfl (by simp) (fun T hT => by simp at hT; subst hT; exact El.one) (by show _ * 8 ≤ _; simp only [List.length_map, List.length_append, List.length_cons, List.length_nil]; omega) (by simp only [List.length_map, List.length_append, List.length_cons, List.length_nil]; omega) rfl (fun v2 => ?_))))))
     refine ra rfl (eX (cY (rm rfl (rm rfl (ro rfl (op_bslice (xs := [.tmp 58]) U_69 Z_3 O_3 (cW (Ht rfl) cG) rfl rfl rfl) (R_append (inf := Tryz.t3) und_69 info_3 rfl rfl rfl (Ht rfl) (Ht rfl) (i := 2) rfl (by simp) (fun T hT => by simp at hT; subst hT; exact El.one) (by show _ * 8 ≤ _; simp only [List.length_map, List.length_append, List.length_cons, List.length_nil]; omega) (by simp only [List.length_map, List.length_append, List.length_cons, List.length_nil]; omega) rfl (fun v3 => ?_)))))))
     refine ra rfl (eX (T_blk (cY (rm rfl (ro rfl (dV (Ht rfl) (cJ 1) (by show _ < 9223372036854775808; first | omega | (simp only [lim]; omega))) (ra rfl (eX (fU (k + 1, v3) (by omega) (by dsimp only; omega) (aQ rfl (aQ rfl (aQ rfl (aQ rfl (aQ rfl (aQ rfl aX)))))) (aU (box_of rfl) (aU (box_of rfl) (aU (rowO_of (by rw [hnx, List.map_append, List.map_append]; rfl)) aY)))))))))))
    ·have h3 : ¬ k = p := by simpa using he2
     have hnx : emL z.length p (k + 1) = emL z.length p k ++ [k] := by rw [emL, if_neg h3]
     refine cU (cY (rm rfl (rm rfl (ro rfl (op_bslice (xs := [.tmp 58]) U_69 Z_3 O_3 (cW (Ht rfl) cG) rfl rfl rfl) (R_append (inf := Tryz.t3) und_69 info_3 rfl rfl rfl (Ht rfl) (Ht rfl) (i := 2) rfl (by simp) (fun T hT => by simp at hT; subst hT; exact El.one) (by show _ * 8 ≤ _; simp only [List.length_map, List.length_append, List.length_cons, List.length_nil]; omega) (by simp only [List.length_map, List.length_append, List.length_cons, List.length_nil]; omega) rfl (fun v2 => ?_))))))
     refine ra rfl (eX (T_blk (cY (rm rfl (ro rfl (dV (Ht rfl) (cJ 1) (by show _ < 9223372036854775808; first | omega | (simp only [lim]; omega))) (ra rfl (eX (fU (k + 1, v2) (by omega) (by dsimp only; omega) (aQ rfl (aQ rfl (aQ rfl (aQ rfl (aQ rfl (aQ rfl aX)))))) (aU (box_of rfl) (aU (box_of rfl) (aU (rowO_of (by rw [hnx, List.map_append]; rfl)) aY)))))))))))
   ·obtain rfl : k = z.length - 1 := by simp only [decide_eq_false_iff_not] at hd; omega
    have hel : (emL z.length p (z.length - 1)).length ≤ 20 := by rw [emL_eq, tab_len]; split <;> omega
    have hQ : ∀ y, y ∈ emQ z.length p → y < ZC.length := fun y hy => by
     rw [emQ_eq hpl] at hy
     obtain ⟨i, hi, rfl⟩ := tab_mem.1 hy
     rw [hZl]; exact emP_lt hi
    have hQl : (emQ z.length p).length ≤ 1000 := by rw [emQ_eq hpl, tab_len]; omega
    have hzz2 : subZ ZC (emQ z.length p) = z.set p (gv fz 0) := by rw [hZC]; exact em_pickZ hpl rfl
    have hss2 : subM SC (emQ z.length p) = embM s f p z.length := by rw [hSC]; exact em_pickS hpl hD
    have hpk := c_rPick (z := ZC) (s := SC) (Q := emQ z.length p) (by rw [hZl]; exact hSs) hQ hQl
    rw [hzz2, hss2] at hpk
    refine gV rfl (cK (ts (rm rfl (rm rfl (ro rfl (op_eql (Ht rfl) (Ht rfl)) (eX (dQ (Ht rfl) (fun he3 => ?_) (fun he3 => ?_))))))))
    ·have hpz : port = (z.length : Int) := by simpa using he3
     have h3 : p + 1 = z.length := by omega
     have hq : emQ z.length p = emL z.length p (z.length - 1) ++ [z.length - 1] := by rw [emQ, if_pos h3]
     refine cY (rm rfl (rm rfl (ro rfl (dW (Ht rfl) (cJ 1) (by omega) (by show _ < 9223372036854775808; first | omega | (simp only [lim]; omega))) (ro rfl (op_bslice (xs := [.tmp 66]) U_69 Z_3 O_3 (cW (Ht rfl) cG) rfl rfl rfl) (R_append (inf := Tryz.t3) und_69 info_3 rfl rfl rfl (Ht rfl) (Ht rfl) (i := 2) rfl (by simp) (fun T hT => by simp at hT; subst hT; exact El.one) (by show _ * 8 ≤ _; simp only [List.length_map, List.length_append, List.length_cons, List.length_nil]; omega) (by simp only [List.length_map, List.length_append, List.length_cons, List.length_nil]; omega) rfl (fun v2 => ?_))))))
     refine ra rfl (eX (cK (T_conv 2 rfl (rowO_of (e := 3) (s := 1) (by rw [hq, List.map_append]; rfl : _ = (emQ z.length p).map (NT .i64))) ?_)))
     refine gJ (i := 2) (tt := 12) rfl rfl frz_row (cY (ro rfl (eJ A_34 Z_34 (Ht rfl) (i := 1) rfl rfl rfl) (rm rfl (ro rfl (cZ Tryz.call156 hpk ⟨(Ht rfl), (Ht rfl), trivial⟩) (gQ Z_34 (Ht rfl) (Ht rfl) rfl (i := 0) rfl (aK rfl) rfl rfl (ro rfl (cQ (cJ 0)) (eX (T_ret2 rfl (fX (fK A_34 Z_34 rfl (i := 0) rfl rfl) ?_) (fX (eU rfl) ?_)))))))))
     ·exact (fun v V h => by rw [emZ, emR, okL, okL, if_pos he, if_pos he, ← hp]; exact h)
     ·exact (int_of he.symm)
    ·have hpz : ¬ port = (z.length : Int) := by simpa using he3
     have h3 : ¬ p + 1 = z.length := by omega
     have hq : emQ z.length p = emL z.length p (z.length - 1) := by rw [emQ, if_neg h3, List.append_nil]
     refine cU (cK (T_conv 2 rfl (rowO_of (e := 3) (s := 1) (by rw [hq] : _ = (emQ z.length p).map (NT .i64))) ?_))
     refine gJ (i := 2) (tt := 12) rfl rfl frz_row (cY (ro rfl (eJ A_34 Z_34 (Ht rfl) (i := 1) rfl rfl rfl) (rm rfl (ro rfl (cZ Tryz.call156 hpk ⟨(Ht rfl), (Ht rfl), trivial⟩) (gQ Z_34 (Ht rfl) (Ht rfl) rfl (i := 0) rfl (aK rfl) rfl rfl (ro rfl (cQ (cJ 0)) (eX (T_ret2 rfl (fX (fK A_34 Z_34 rfl (i := 0) rfl rfl) ?_) (fX (eU rfl) ?_)))))))))
     ·exact (fun v V h => by rw [emZ, emR, okL, okL, if_pos he, if_pos he, ← hp]; exact h)
     ·exact (int_of he.symm)
theorem c_rRemove {z fz : List Qi} {s f : List (List Qi)} {port : Int} {L : Nat} (hs : Shp s z.length z.length) (hz1 : 1 ≤ z.length) (hz : z.length ≤ 7) (hfs : FitM s L) (hff : FitM f L) (hfz : FitL z L) (hfg : FitL fz L) (hL : 1 ≤ L) (hLb : L ≤ 1000) (hl2 : fz.length ≤ 1000) (hf : fz.length = 2 → Shp f 2 2) : Fun Tryz.prog 56 [RNetT z s, IntT .i64 port, RNetT fz f] (TupT [RNetT (rmZ' z s fz f port) (rmR z s fz f port), IntT .i64 (rmE z s fz f port)]) := by
 have hsl := hs.1
 refine Fun.intro Tryz.func56 rfl Tryz.ntmps56 rfl (fun cx => (ts (rn rfl (fG (Ht rfl)) fun B3 => (rn rfl (fG (Ht rfl)) fun B5 => (rn rfl (eW (Ts := [Is (.slice none 0 0), Is (.slice none 0 0)]) O_34 rfl (fun V => aW ⟨rfl, trivial⟩ (aW ⟨rfl, trivial⟩ (aG)))) fun B6 => (ro rfl (cQ (cJ 0)) (eX (cK (ts (ro rfl (eJ A_34 Z_34 (Ht rfl) (i := 0) rfl rfl rfl) (rm rfl (ro rfl (eJ A_34 Z_34 (Ht rfl) (i := 1) rfl rfl rfl) (ro rfl (cZ Tryz.call153 (c_rFixture (x := 1) (L := L) (by decide) hfz hfg hL (by omega) (by omega) hl2) ⟨(Ht rfl), (Ht rfl), (Ht rfl), (cJ 1), trivial⟩) ?_)))))))))))))
 refine ra rfl (eX (ts (rm rfl (ro rfl (op_neq (Ht rfl) cV) (eX (dQ (Ht rfl) (fun hc => ?_) (fun hc => ?_)))))))
 ·have hfx : fxE z fz port 1 ≠ 0 := by simpa using hc
  have he : rmE z s fz f port = fxE z fz port 1 := rm_fx hfx
  have hne : rmE z s fz f port ≠ 0 := by rw [he]; exact hfx
  refine ts (ro rfl (OpTy.imp (bld_34_ ) rnet_nil) (rm rfl (gQ Z_34 (Ht rfl) (Ht rfl) rfl (i := 2) rfl (aK rfl) rfl rfl (ra rfl (eX (T_ret2 rfl (fX (fK A_34 Z_34 rfl (i := 2) rfl rfl) ?_) (fX (eU rfl) ?_)))))))
  ·exact (fun v V h => by rw [rmZ', rmR, okL, okL, if_neg hne, if_neg hne]; exact h)
  ·exact (int_of he.symm)
 ·have hfx : fxE z fz port 1 = 0 := by simpa using hc
  obtain ⟨h2, hb2, hzz⟩ := fx_ok hfx
  have hfs2 := hf h2
  have hfl := hfs2.1
  have hfr0 := hfs2.row (show 0 < 2 by decide)
  have hfr1 := hfs2.row (show 1 < 2 by decide)
  obtain ⟨p, hp⟩ : ∃ p, p = (port - 1).toNat := ⟨_, rfl⟩
  have hpe : port - 1 = (p : Int) := by omega
  have hpl : p < z.length := by omega
  have hspr := hs.row hpl
  haveI := hfs.get hL p p; haveI := hff.get hL 1 1; haveI := hff.get hL 0 0; haveI := hff.get hL 0 1; haveI := hff.get hL 1 0
  haveI hDf := rmD_fit2 (p := p) hfs hff hL
  refine cU (cK (Y.D_start (m := 31) [] (bY (Ei := [(5, _)]) rfl rfl (bQ (bJ rfl rfl) bX) rfl rfl (dX rfl (eZ fa_34_1 (Ht rfl) rfl)) (bY (Ei := [(31, _)]) rfl rfl (bQ (bZ 0 rfl rfl) bX) rfl rfl (dX rfl (eY A_32 Z_32 (Ht rfl) (i := 1) rfl rfl)) (bY (Ei := [(32, _)]) rfl rfl (bQ (bZ 1 rfl rfl) bX) rfl rfl (dX rfl (dZ U_32 Z_31 (Ht rfl) (cJ 0) rfl (dY (dU (d := []) (by omega))))) (bY (Ei := [(33, _)]) rfl rfl (bQ (bZ 2 rfl rfl) bX) rfl rfl (dX rfl (dJ A_31 Z_31 (Ht rfl))) ?_))))))
  refine bY (Ei := [(34, _)]) rfl rfl (bQ (bZ 3 rfl rfl) bX) rfl rfl (dX rfl (dZ U_31 Z_98 (Ht rfl) (cJ 0) rfl (dY (dU (d := Qi.zero) (by omega))))) (bY (Ei := [(35, _)]) rfl rfl (bQ (bZ 4 rfl rfl) bX) rfl rfl (dX rfl (dJ A_98 Z_98 (Ht rfl))) (bY (Ei := [(5, _)]) rfl rfl (bQ (bJ rfl rfl) bX) rfl rfl (dX rfl (eZ fa_34_1 (Ht rfl) rfl)) (bY (Ei := [(37, _)]) rfl rfl (bQ (bZ 6 rfl rfl) bX) rfl rfl (dX rfl (eY A_32 Z_32 (Ht rfl) (i := 1) rfl rfl)) ?_)))
  refine bY (Ei := [(38, _)]) rfl rfl (bQ (bZ 7 rfl rfl) bX) rfl rfl (dX rfl (dZ U_32 Z_31 (Ht rfl) (cJ 0) rfl (dY (dU (d := []) (by omega))))) (bY (Ei := [(39, _)]) rfl rfl (bQ (bZ 8 rfl rfl) bX) rfl rfl (dX rfl (dJ A_31 Z_31 (Ht rfl))) (bY (Ei := [(40, _)]) rfl rfl (bQ (bZ 9 rfl rfl) bX) rfl rfl (dX rfl (dZ U_31 Z_98 (Ht rfl) (cJ 1) rfl (dY (dU (d := Qi.zero) (by omega))))) (bY (Ei := [(41, _)]) rfl rfl (bQ (bZ 10 rfl rfl) bX) rfl rfl (dX rfl (dJ A_98 Z_98 (Ht rfl))) ?_)))
  refine bY (Ei := [(5, _)]) rfl rfl (bQ (bJ rfl rfl) bX) rfl rfl (dX rfl (eZ fa_34_1 (Ht rfl) rfl)) (bY (Ei := [(43, _)]) rfl rfl (bQ (bZ 12 rfl rfl) bX) rfl rfl (dX rfl (eY A_32 Z_32 (Ht rfl) (i := 1) rfl rfl)) (bY (Ei := [(44, _)]) rfl rfl (bQ (bZ 13 rfl rfl) bX) rfl rfl (dX rfl (dZ U_32 Z_31 (Ht rfl) (cJ 1) rfl (dY (dU (d := []) (by omega))))) (bY (Ei := [(45, _)]) rfl rfl (bQ (bZ 14 rfl rfl) bX) rfl rfl (dX rfl (dJ A_31 Z_31 (Ht rfl))) ?_)))
  refine bY (Ei := [(46, _)]) rfl rfl (bQ (bZ 15 rfl rfl) bX) rfl rfl (dX rfl (dZ U_31 Z_98 (Ht rfl) (cJ 0) rfl (dY (dU (d := Qi.zero) (by omega))))) (bY (Ei := [(47, _)]) rfl rfl (bQ (bZ 16 rfl rfl) bX) rfl rfl (dX rfl (dJ A_98 Z_98 (Ht rfl))) (bY (Ei := [(5, _)]) rfl rfl (bQ (bJ rfl rfl) bX) rfl rfl (dX rfl (eZ fa_34_1 (Ht rfl) rfl)) (bY (Ei := [(49, _)]) rfl rfl (bQ (bZ 18 rfl rfl) bX) rfl rfl (dX rfl (eY A_32 Z_32 (Ht rfl) (i := 1) rfl rfl)) ?_)))
  refine bY (Ei := [(50, _)]) rfl rfl (bQ (bZ 19 rfl rfl) bX) rfl rfl (dX rfl (dZ U_32 Z_31 (Ht rfl) (cJ 1) rfl (dY (dU (d := []) (by omega))))) (bY (Ei := [(51, _)]) rfl rfl (bQ (bZ 20 rfl rfl) bX) rfl rfl (dX rfl (dJ A_31 Z_31 (Ht rfl))) (bY (Ei := [(52, _)]) rfl rfl (bQ (bZ 21 rfl rfl) bX) rfl rfl (dX rfl (dZ U_31 Z_98 (Ht rfl) (cJ 1) rfl (dY (dU (d := Qi.zero) (by omega))))) (bY (Ei := [(53, _)]) rfl rfl (bQ (bZ 22 rfl rfl) bX) rfl rfl (dX rfl (dJ A_98 Z_98 (Ht rfl))) ?_)))
  refine Y.D_newp (Ei := []) (fun bb => box bb 98 (qb (gm f 0 0))) 28 rfl rfl rfl bX rfl rfl (by kernel_rfl) (eW (Ts := [Is (.bool false), Is (.slice none 0 0), Is (.bool false), Is (.slice none 0 0), Is (.slice none 0 0)]) O_98 rfl (fun V => aW ⟨rfl, trivial⟩ (aW ⟨rfl, trivial⟩ (aW ⟨rfl, trivial⟩ (aW ⟨rfl, trivial⟩ (aW ⟨rfl, trivial⟩ (aG))))))) (Y.D_newp (Ei := []) (fun bb => box bb 98 (qb (gm f 0 1))) 29 rfl rfl rfl bX rfl rfl (by kernel_rfl) (eW (Ts := [Is (.bool false), Is (.slice none 0 0), Is (.bool false), Is (.slice none 0 0), Is (.slice none 0 0)]) O_98 rfl (fun V => aW ⟨rfl, trivial⟩ (aW ⟨rfl, trivial⟩ (aW ⟨rfl, trivial⟩ (aW ⟨rfl, trivial⟩ (aW ⟨rfl, trivial⟩ (aG))))))) ?_)
  refine Y.D_newp (Ei := []) (fun bb => box bb 98 (qb (gm f 1 0))) 30 rfl rfl rfl bX rfl rfl (by kernel_rfl) (eW (Ts := [Is (.bool false), Is (.slice none 0 0), Is (.bool false), Is (.slice none 0 0), Is (.slice none 0 0)]) O_98 rfl (fun V => aW ⟨rfl, trivial⟩ (aW ⟨rfl, trivial⟩ (aW ⟨rfl, trivial⟩ (aW ⟨rfl, trivial⟩ (aW ⟨rfl, trivial⟩ (aG))))))) (Y.D_new (Ei := []) rfl rfl rfl bX rfl rfl (eW (Ts := [Is (.bool false), Is (.slice none 0 0), Is (.bool false), Is (.slice none 0 0), Is (.slice none 0 0)]) O_98 rfl (fun V => aW ⟨rfl, trivial⟩ (aW ⟨rfl, trivial⟩ (aW ⟨rfl, trivial⟩ (aW ⟨rfl, trivial⟩ (aW ⟨rfl, trivial⟩ (aG))))))) ?_)
  refine Y.D_putN (Ei := [(36, _)]) 24 rfl rfl rfl rfl rfl rfl (bQ (bZ 5 rfl rfl) bX) (fun bb => P_stA Z_98 (Ht rfl) (Ht rfl) rfl (i := 0) rfl (aK rfl) rfl rfl) (Y.D_putN (Ei := [(42, _)]) 25 rfl rfl rfl rfl rfl rfl (bQ (bZ 11 rfl rfl) bX) (fun bb => P_stA Z_98 (Ht rfl) (Ht rfl) rfl (i := 0) rfl (aK rfl) rfl rfl) (Y.D_putN (Ei := [(48, _)]) 26 rfl rfl rfl rfl rfl rfl (bQ (bZ 17 rfl rfl) bX) (fun bb => P_stA Z_98 (Ht rfl) (Ht rfl) rfl (i := 0) rfl (aK rfl) rfl rfl) ?_))
  refine Y.D_done mixed rfl (by kernel_rfl) rfl (by simp [Y.okP]) rfl rfl (bU (bU (bU (bU (bU (bU (bU (bU (bU (bU (bU (bU (bU (bU (bU (bU (bU (bU (bU (bU (bU (bU (bU (bU (Y.F_newp (fun B9 => Y.F_newp (fun B10 => Y.F_newp (fun B11 => Y.F_new (fun B12 => Y.F_putN (Y.F_putN (Y.F_putN (Y.F_nil ?_))))))))))))))))))))))))))))))))
  refine gQ Z_98 (Ht rfl) (Ht rfl) rfl (i := 6) rfl (aK rfl) rfl rfl (eX (cK (gJ (i := 3) (tt := 9) rfl rfl frz_ptr (gJ (i := 4) (tt := 10) rfl rfl frz_ptr (gJ (i := 5) (tt := 11) rfl rfl frz_ptr (gJ (i := 6) (tt := 12) rfl rfl frz_ptr (cY (rm rfl (ro rfl (op_sub (Ht rfl) cV (r := ((p : Nat) : Int)) ((w64 (z := port - 1) (by omega)).trans (by omega))) ?_)))))))))
  refine ra rfl (eX (cK (fZ (m := 11) (dp 3 rfl (eZ fa_34_1 (Ht rfl) rfl) (dq 57 0 rfl (eY A_32 Z_32 (Ht rfl) (i := 0) rfl rfl) (dp 13 rfl (cX (Ht rfl)) (dqq 58 1 59 2 rfl (dZ U_32 Z_31 (Ht rfl) (Ht rfl) rfl (dY (dU (d := []) (by omega)))) (dq 60 3 rfl (dJ A_31 Z_31 (Ht rfl)) (dp 13 rfl (cX (Ht rfl)) (dqq 61 4 62 5 rfl (dZ U_31 Z_98 (Ht rfl) (Ht rfl) rfl (dY (dU (d := Qi.zero) (by omega)))) (dq 63 6 rfl (dJ A_98 Z_98 (Ht rfl)) ?_)))))))))))
  refine dp 9 rfl (dJ A_98 Z_98 (Ht rfl)) (dqq 64 7 65 8 rfl (cZ Tryz.call158 (c_rSub (x := gm s p p) (y := gm f 0 0) (L := L) (M := L) (by omega)) ⟨(Ht rfl), (Ht rfl), trivial⟩) (C.D_new (Ei := []) rfl rfl rfl bW (eW (Ts := [Is (.bool false), Is (.slice none 0 0), Is (.bool false), Is (.slice none 0 0), Is (.slice none 0 0)]) O_98 rfl (fun V => aW ⟨rfl, trivial⟩ (aW ⟨rfl, trivial⟩ (aW ⟨rfl, trivial⟩ (aW ⟨rfl, trivial⟩ (aW ⟨rfl, trivial⟩ (aG))))))) (fV mixed rfl (by kernel_rfl) (aJ (aJ (aJ (aJ (aJ (aJ (aJ (aJ (aJ (aJ (C.F_new (fun B14 => aV ?_)))))))))))))))
  refine gQ Z_98 (Ht rfl) (Ht rfl) rfl (i := 7) rfl (aK rfl) rfl rfl (eX (cK (T_keep [0, 1, 2, 7] rfl (by decide) (gJ (i := 3) (tt := 14) rfl rfl frz_ptr (fZ (m := 8) (dp 10 rfl (dJ A_98 Z_98 (Ht rfl)) (dp 11 rfl (dJ A_98 Z_98 (Ht rfl)) (dqq 67 0 68 1 rfl (cZ K_99 (c_rMul (x := gm f 0 1) (y := gm f 1 0) (L := L) (M := L) (by omega)) ⟨(Ht rfl), (Ht rfl), trivial⟩) (dp 12 rfl (dJ A_98 Z_98 (Ht rfl)) (dp 14 rfl (dJ A_98 Z_98 (Ht rfl)) (dqq 70 3 71 4 rfl (cZ K_99 (c_rMul (x := gm f 1 1) (y := (gm s p p - gm f 0 0)) (L := L) (M := L + L + 1) (by omega)) ⟨(Ht rfl), (Ht rfl), trivial⟩) ?_)))))))))))
  refine dqq 69 2 72 5 rfl (cZ Tryz.call159 (c_rAdd (x := gm f 0 1 * gm f 1 0) (y := gm f 1 1 * (gm s p p - gm f 0 0)) (L := L + L + 1) (M := L + (L + L + 1) + 1) (by omega)) ⟨(Ht rfl), (Ht rfl), trivial⟩) (C.D_new (Ei := []) rfl rfl rfl bW (eW (Ts := [Is (.bool false), Is (.slice none 0 0), Is (.bool false), Is (.slice none 0 0), Is (.slice none 0 0)]) O_98 rfl (fun V => aW ⟨rfl, trivial⟩ (aW ⟨rfl, trivial⟩ (aW ⟨rfl, trivial⟩ (aW ⟨rfl, trivial⟩ (aW ⟨rfl, trivial⟩ (aG))))))) (fV mixed rfl (by kernel_rfl) (aJ (aJ (aJ (aJ (aJ (aJ (aJ (C.F_new (fun B15 => aV ?_)))))))))))
  refine gQ Z_98 (Ht rfl) (Ht rfl) rfl (i := 4) rfl (aK rfl) rfl rfl (eX (cK (cK (T_keep [0, 1, 2, 4] rfl (by decide) (gJ (i := 3) (tt := 15) rfl rfl frz_ptr (T_keep [0, 1, 2] rfl (by decide) (cY (ro rfl (dJ A_98 Z_98 (Ht rfl)) (ro rfl (cZ Tryz.call160 (c_rZero (x := gm f 0 1)) ⟨(Ht rfl), trivial⟩) (rm rfl (fQ rfl rfl (eK rfl rfl (Ht rfl) (fun h => dJ A_98 Z_98 (Ht rfl))) (fQ rfl rfl (eK rfl rfl (Ht rfl) (fun h => cZ Tryz.call160 (c_rZero (x := gm f 1 0)) ⟨(fJ rfl h), trivial⟩)) ?_))))))))))))
  refine ro rfl (op_or (Ht rfl) (fun h => (fJ rfl h))) (rm rfl (fQ rfl rfl (eK rfl rfl (Ht rfl) (fun h => dJ A_98 Z_98 (Ht rfl))) (fQ rfl rfl (eK rfl rfl (Ht rfl) (fun h => cZ Tryz.call160 (c_rZero (x := rmD s f p)) ⟨(fJ rfl h), trivial⟩)) (ro rfl (op_or (Ht rfl) (fun h => (fJ rfl h))) (eX (dQ (Ht rfl) (fun hcl => ?_) (fun hcl => ?_)))))))
  ·have h3 : gm f 0 1 = Qi.zero ∨ gm f 1 0 = Qi.zero ∨ rmD s f p = Qi.zero := by simpa [or_assoc] using hcl
   have he : rmE z s fz f port = 6 := rm_no hfx (by rw [← hp]; exact h3)
   have hne : rmE z s fz f port ≠ 0 := by rw [he]; decide
   refine ts (ro rfl (OpTy.imp (bld_34_ ) rnet_nil) (gQ Z_34 (Ht rfl) (Ht rfl) rfl (i := 2) rfl (aK rfl) rfl rfl (ro rfl (cQ (cJ 6)) (eX (T_ret2 rfl (fX (fK A_34 Z_34 rfl (i := 2) rfl rfl) ?_) (fX (eU rfl) ?_))))))
   ·exact (fun v V h => by rw [rmZ', rmR, okL, okL, if_neg hne, if_neg hne]; exact h)
   ·exact (int_of he.symm)
  ·have h3 : ¬ (gm f 0 1 = Qi.zero ∨ gm f 1 0 = Qi.zero ∨ rmD s f p = Qi.zero) := by simpa [or_assoc, and_assoc] using hcl
   have he : rmE z s fz f port = 0 := rm_yes hfx (by rw [← hp]; exact h3)
   have hD : rmD s f p ≠ Qi.zero := fun k => h3 (.inr (.inr k))
   haveI f1 := fit_one
   haveI hkf : FitC (rmK s f p) (15 * L + 18) := (fit_div f1 hDf hD).le (by omega)
   refine cU (cK (fZ (m := 9) (C.D_tmp (Ei := []) rfl rfl rfl bW (new_bslice0 U_31 Z_98 O_98) (dp 3 rfl (eZ fa_34_0 (Ht rfl) rfl) (dq 86 1 rfl (eY A_31 Z_31 (Ht rfl) (i := 0) rfl rfl) (C.D_app (Ei := [(87, _)]) 0 true rfl rfl rfl rfl rfl rfl (bV (bG 2 rfl rfl) bW) (fun x88 => A_appendS (inf := Tryz.t98) und_31 info_98 rfl rfl rfl (Ht rfl) (Ht rfl) (mapQ_ne2 (by omega)) (fun T hT => by obtain ⟨x, _, rfl⟩ := List.mem_map.1 hT; exact El.ag rfl) (by show _ * 88 ≤ _; simp only [List.length_map, List.length_append, List.length_nil]; omega) (by simp only [List.length_map, List.length_append, List.length_nil]; omega)) ?_))))))
   refine dp 3 rfl (eZ fa_34_1 (Ht rfl) rfl) (dq 89 4 rfl (eY A_32 Z_32 (Ht rfl) (i := 0) rfl rfl) (C.D_new (Ei := [(90, _)]) rfl rfl rfl (bV (bG 5 rfl rfl) bW) (new_call0 Tryz.call105 (c_rCopyO hs (by omega) hz1 (by omega)) ⟨(Ht rfl), trivial⟩) (C.D_dep (fun T U => AggT [T, U]) 3 6 rfl rfl rfl rfl rfl rfl (fun T U hT hU => by obtain ⟨x, rfl⟩ := hT; obtain ⟨y, rfl⟩ := hU; (try dsimp only); exact dX rfl (bld_34_0_1 (Ht rfl) (Ht rfl))) (C.D_new (Ei := []) rfl rfl rfl bW (eW (Ts := [Is (.slice none 0 0), Is (.slice none 0 0)]) O_34 rfl (fun V => aW ⟨rfl, trivial⟩ (aW ⟨rfl, trivial⟩ (aG)))) ?_))))
   refine fV mixed rfl (by kernel_rfl) (C.F_tmp (fun B85 => aJ (aJ (C.F_new (fun v88 => aJ (aJ (C.F_new (fun B91 => C.F_dep rfl rfl (C.F_new (fun B16 => aV (gQ Z_34 (Ht rfl) (Ht rfl) rfl (i := 5) rfl (aK rfl) rfl rfl (eX (cK ?_)))))))))))))
   generalize Value.slice (some ⟨v88.1, 0, none⟩) ([] ++ List.map QT z).length v88.2 = vz
   refine T_conv 3 rfl (rowO_of rfl : ∀ S m V, _ → (rowO 98 5 vz (z.map QT)).h S m V) (T_openW 4 rfl (fun vs hvs => ?_))
   have hvl : vs.length = z.length := by have h := hvs.len; rw [FRow, List.length_map, hs.1] at h; exact h
   refine fZ (m := 7) (dp 16 rfl (eZ fa_34_0 (Ht rfl) rfl) (dq 93 0 rfl (op_ldBp A_31 Z_31 (Ht rfl) (i := 5) rfl rfl) (dp 13 rfl (cX (Ht rfl)) (dp 5 rfl (eZ fa_34_0 (Ht rfl) rfl) (dq 96 3 rfl (eY A_31 Z_31 (Ht rfl) (i := 1) rfl rfl) (dq 97 4 rfl (dZ U_31 Z_98 (Ht rfl) (cJ 1) rfl (dY (dU (d := Qi.zero) (by omega)))) (dq 98 5 rfl (dJ A_98 Z_98 (Ht rfl)) (fV mixed rfl (by kernel_rfl) (aJ (aJ (aJ (aJ (aJ (aJ (aJ (aV ?_))))))))))))))))
   refine ro rfl (op_idxO U_31 Z_98 (Ht rfl) (Ht rfl) rfl (i := 3) rfl (by rw [List.length_map]; omega) rfl) ?_
   refine R_stO Z_98 (Ht rfl) (Ht rfl) (El.ag rfl) (i := 3) rfl rfl (by rw [List.length_map]; omega) rfl ?_
   refine eX (cK (T_conv 3 rfl (rowO_of (set_mapF QT z p (gv fz 1))) (Y.D_start (m := 8) [] (bY (Ei := []) rfl rfl bX rfl rfl (dX rfl (cZ Tryz.call117 (c_rWhole (n := 1) (by decide) (by decide)) ⟨(cJ 1), trivial⟩)) (bY (Ei := [(15, _)]) rfl rfl (bQ (bJ rfl rfl) bX) rfl rfl (dX rfl (dJ A_98 Z_98 (Ht rfl))) (bY (Ei := [(102, _), (103, _)]) rfl rfl (bQ (bZ 0 rfl rfl) (bQ (bZ 1 rfl rfl) bX)) rfl rfl (dX rfl (cZ Tryz.call102 (c_rQDiv (x := Qi.ofInt 1) (y := rmD s f p) (L := 1) (M := 5 * L + 5) (by omega)) ⟨(Ht rfl), (Ht rfl), trivial⟩)) ?_))))))
   refine bY (Ei := [(104, _)]) rfl rfl (bQ (bZ 2 rfl rfl) bX) rfl rfl (dX rfl (cX (Ht rfl))) (bY (Ei := [(101, _)]) rfl rfl (bQ (bZ 3 rfl rfl) bX) rfl rfl (dX rfl (dK (Ht rfl) rfl)) (bY (Ei := [(101, _)]) rfl rfl (bQ (bZ 3 rfl rfl) bX) rfl rfl (dX rfl (dK (Ht rfl) rfl)) (Y.D_newp (Ei := []) (fun bb => box bb 98 (qb (rmK s f p))) 7 rfl rfl rfl bX rfl rfl (by kernel_rfl) (eW (Ts := [Is (.bool false), Is (.slice none 0 0), Is (.bool false), Is (.slice none 0 0), Is (.slice none 0 0)]) O_98 rfl (fun V => aW ⟨rfl, trivial⟩ (aW ⟨rfl, trivial⟩ (aW ⟨rfl, trivial⟩ (aW ⟨rfl, trivial⟩ (aW ⟨rfl, trivial⟩ (aG))))))) ?_)))
   refine Y.D_putN (Ei := [(105, _)]) 6 rfl rfl rfl rfl rfl rfl (bQ (bZ 4 rfl rfl) bX) (fun bb => P_stA Z_98 (Ht rfl) (Ht rfl) rfl (i := 0) rfl (aK rfl) rfl rfl) (Y.D_done mixed rfl (by kernel_rfl) rfl (by simp [Y.okP]) rfl rfl (bU (bU (bU (bU (bU (bU (Y.F_newp (fun B17 => Y.F_putN (Y.F_nil ?_))))))))))
   refine ra rfl (eX (cK (cK (gJ (i := 6) (tt := 17) rfl rfl frz_ptr (cY (ro rfl (cQ (cJ 0)) (eX (eG (T_keep [0, 2, 3, 4, 5] rfl (by decide) ?_)))))))))
   refine T_loop (fun (i : Nat) => i ≤ z.length) (fun (i : Nat) => z.length - i) (fun (i : Nat) => [(3, PtrB B3 0), (6, PtrB B6 0), (10, PT (QT (gm f 0 1))), (11, PT (QT (gm f 1 0))), (12, PT (QT (gm f 1 1))), (13, NT .i64 p), (14, PT (QT (gm s p p - gm f 0 0))), (16, PtrB B16 0), (17, PT (QT (rmK s f p))), (19, NT .i64 i)]) (fun (i : Nat) => [box B3 34 [QsT z, QM s], box B6 34 [Is (.slice none 0 0), Is (.slice none 0 0)], rowO 98 5 vz ((z.set p (gv fz 1)).map QT), matW B91 31 98 5 vs vs (FRow QT (updM (rm1 s f p) (gm s) (pAt i 0) z.length)), box B16 34 [Is vz, Is (.slice (some ⟨B91, 0, none⟩) z.length z.length)]]) 0 (Nat.zero_le _)
    (aQ rfl (aQ rfl (aQ rfl (aQ rfl (aQ rfl (aQ rfl (aQ rfl (aQ rfl (aQ rfl (aQ rfl aX)))))))))) (aU (box_of rfl) (aU (box_of rfl) (aU (fun _ _ _ h => h) (aU (matW_of (congrArg (FRow QT) (upd_zero hs))) (aU (box_of rfl) aY))))) (fun i hi => ?_)
   refine cK (ts (rm rfl (ro rfl (eZ fa_34_0 (Ht rfl) rfl) (ro rfl (eY A_31 Z_31 (Ht rfl) (i := 0) rfl rfl) (ro rfl (dG U_31 (Ht rfl) len_map) (ro rfl (gX (Ht rfl) (Ht rfl)) (eX (dQ (Ht rfl) (fun hd => ?_) (fun hd => ?_)))))))))
   ·have hin : i < z.length := by simp only [decide_eq_true_eq] at hd; omega
    have hsi := hs.row hin
    refine cU (cK (eG (ts (ro rfl (cQ (cJ 0)) (eX (eG ?_))))))
    refine T_loop (fun (j : Nat) => j ≤ z.length) (fun (j : Nat) => z.length - j) (fun (j : Nat) => [(3, PtrB B3 0), (6, PtrB B6 0), (10, PT (QT (gm f 0 1))), (11, PT (QT (gm f 1 0))), (12, PT (QT (gm f 1 1))), (13, NT .i64 p), (14, PT (QT (gm s p p - gm f 0 0))), (16, PtrB B16 0), (17, PT (QT (rmK s f p))), (19, NT .i64 i), (20, NT .i64 j)]) (fun (j : Nat) => [box B3 34 [QsT z, QM s], box B6 34 [Is (.slice none 0 0), Is (.slice none 0 0)], rowO 98 5 vz ((z.set p (gv fz 1)).map QT), matW B91 31 98 5 vs vs (FRow QT (updM (rm1 s f p) (gm s) (pAt i j) z.length)), box B16 34 [Is vz, Is (.slice (some ⟨B91, 0, none⟩) z.length z.length)]]) 0 (Nat.zero_le _)
     (aQ rfl (aQ rfl (aQ rfl (aQ rfl (aQ rfl (aQ rfl (aQ rfl (aQ rfl (aQ rfl (aQ rfl (aQ rfl aX))))))))))) (aU (box_of rfl) (aU (box_of rfl) (aU (fun _ _ _ h => h) (aU (fun _ _ _ h => h) (aU (box_of rfl) aY))))) (fun j hj => ?_)
    refine cK (ts (rm rfl (ro rfl (eZ fa_34_0 (Ht rfl) rfl) (ro rfl (eY A_31 Z_31 (Ht rfl) (i := 0) rfl rfl) (ro rfl (dG U_31 (Ht rfl) len_map) (ro rfl (gX (Ht rfl) (Ht rfl)) (eX (dQ (Ht rfl) (fun he2 => ?_) (fun he2 => ?_)))))))))
    ·have hjn : j < z.length := by simp only [decide_eq_true_eq] at he2; omega
     haveI := hfs.get hL i j; haveI := hfs.get hL i p; haveI := hfs.get hL p j
     obtain ⟨X, hX⟩ : ∃ X, X = updM (rm1 s f p) (gm s) (pAt i j) z.length := ⟨_, rfl⟩
     have hXs : Shp X z.length z.length := by rw [hX]; exact upd_shp
     have hnx : setM X i j (rm1 s f p i j) = updM (rm1 s f p) (gm s) (pAt i (j + 1)) z.length := by rw [hX]; exact upd_set hin hjn fun a b => pAt_next
     rw [← hX]
     refine cU (cK (eG (cK (fZ (m := 20) (dp 17 rfl (dJ A_98 Z_98 (Ht rfl)) (dp 3 rfl (eZ fa_34_1 (Ht rfl) rfl) (dq 122 1 rfl (eY A_32 Z_32 (Ht rfl) (i := 0) rfl rfl) (dp 19 rfl (cX (Ht rfl)) (dqq 123 2 124 3 rfl (dZ U_32 Z_31 (Ht rfl) (Ht rfl) rfl (dY (dU (d := []) (by omega)))) (dq 125 4 rfl (dJ A_31 Z_31 (Ht rfl)) (dp 13 rfl (cX (Ht rfl)) (dqq 126 5 127 6 rfl (dZ U_31 Z_98 (Ht rfl) (Ht rfl) rfl (dY (dU (d := Qi.zero) (by omega)))) ?_))))))))))))
     refine dq 128 7 rfl (dJ A_98 Z_98 (Ht rfl)) (dp 3 rfl (eZ fa_34_1 (Ht rfl) rfl) (dq 130 9 rfl (eY A_32 Z_32 (Ht rfl) (i := 0) rfl rfl) (dp 13 rfl (cX (Ht rfl)) (dqq 131 10 132 11 rfl (dZ U_32 Z_31 (Ht rfl) (Ht rfl) rfl (dY (dU (d := []) (by omega)))) (dq 133 12 rfl (dJ A_31 Z_31 (Ht rfl)) (dp 20 rfl (cX (Ht rfl)) (dqq 134 13 135 14 rfl (dZ U_31 Z_98 (Ht rfl) (Ht rfl) rfl (dY (dU (d := Qi.zero) (by omega)))) (dq 136 15 rfl (dJ A_98 Z_98 (Ht rfl)) ?_))))))))
     refine dqq 129 8 137 16 rfl (cZ K_99 (c_rMul (x := gm s i p) (y := gm s p j) (L := L) (M := L) (by omega)) ⟨(Ht rfl), (Ht rfl), trivial⟩) (dqq 121 0 138 17 rfl (cZ K_99 (c_rMul (x := rmK s f p) (y := gm s i p * gm s p j) (L := 15 * L + 18) (M := L + L + 1) (by omega)) ⟨(Ht rfl), (Ht rfl), trivial⟩) (C.D_new (Ei := []) rfl rfl rfl bW (eW (Ts := [Is (.bool false), Is (.slice none 0 0), Is (.bool false), Is (.slice none 0 0), Is (.slice none 0 0)]) O_98 rfl (fun V => aW ⟨rfl, trivial⟩ (aW ⟨rfl, trivial⟩ (aW ⟨rfl, trivial⟩ (aW ⟨rfl, trivial⟩ (aW ⟨rfl, trivial⟩ (aG))))))) ?_))
     refine fV mixed rfl (by kernel_rfl) (aJ (aJ (aJ (aJ (aJ (aJ (aJ (aJ (aJ (aJ (aJ (aJ (aJ (aJ (aJ (aJ (aJ (aJ (aJ (C.F_new (fun B21 => aV (gQ Z_98 (Ht rfl) (Ht rfl) rfl (i := 5) rfl (aK rfl) rfl rfl (eX (gJ (i := 5) (tt := 21) rfl rfl frz_ptr (T_keep [0, 1, 2, 3, 4] rfl (by decide) (fZ (m := 18) (dp 16 rfl (eZ fa_34_1 (Ht rfl) rfl) (dq 140 0 rfl (eY A_32 Z_32 (Ht rfl) (i := 4) rfl rfl) (dp 19 rfl (cX (Ht rfl)) ?_)))))))))))))))))))))))))))))
     refine dqq 141 1 142 2 rfl (fY U_32 Z_31 (Ht rfl) (Ht rfl) rfl (by omega) (by rw [Nat.mul_one, Nat.zero_add])) ?_
     refine dq 143 3 rfl (op_ldHW A_31 Z_31 (Ht rfl) (j := 3) rfl (by omega)) (dp 20 rfl (cX (Ht rfl)) (dp 3 rfl (eZ fa_34_1 (Ht rfl) rfl) (dq 146 6 rfl (eY A_32 Z_32 (Ht rfl) (i := 0) rfl rfl) (dp 19 rfl (cX (Ht rfl)) (dqq 147 7 148 8 rfl (dZ U_32 Z_31 (Ht rfl) (Ht rfl) rfl (dY (dU (d := []) (by omega)))) (dq 149 9 rfl (dJ A_31 Z_31 (Ht rfl)) (dp 20 rfl (cX (Ht rfl)) (dqq 150 10 151 11 rfl (dZ U_31 Z_98 (Ht rfl) (Ht rfl) rfl (dY (dU (d := Qi.zero) (by omega)))) ?_))))))))
     refine dq 152 12 rfl (dJ A_98 Z_98 (Ht rfl)) (dp 12 rfl (dJ A_98 Z_98 (Ht rfl)) (dp 21 rfl (dJ A_98 Z_98 (Ht rfl)) (dqq 154 14 155 15 rfl (cZ K_99 (c_rMul (x := gm f 1 1) (y := rmK s f p * (gm s i p * gm s p j)) (L := L) (M := 15 * L + 18 + (L + L + 1) + 1) (by omega)) ⟨(Ht rfl), (Ht rfl), trivial⟩) (dqq 153 13 156 16 rfl (cZ Tryz.call158 (c_rSub (x := gm s i j) (y := gm f 1 1 * (rmK s f p * (gm s i p * gm s p j))) (L := L) (M := L + (15 * L + 18 + (L + L + 1) + 1) + 1) (by omega)) ⟨(Ht rfl), (Ht rfl), trivial⟩) ?_))))
     refine fV mixed rfl (by kernel_rfl) (aJ (aJ (aJ (aJ (aJ (aJ (aJ (aJ (aJ (aJ (aJ (aJ (aJ (aJ (aJ (aJ (aJ (aJ (aV (ro rfl (op_idxW U_31 Z_98 (Ht rfl) (Ht rfl) rfl (j := 3) rfl (w3a hvl hXs) (w3b hXs hin) (w3c hXs hin hjn)) (R_stW (F := QT) Z_98 (Ht rfl) (Ht rfl) (j := 3) rfl (El.ag rfl) (w3a hvl hXs) (w3b hXs hin) (w3c hXs hin hjn) rfl (eX (T_blk (cY (rm rfl (ro rfl (dV (Ht rfl) (cJ 1) (by show _ < 9223372036854775808; first | omega | (simp only [lim]; omega))) ?_))))))))))))))))))))))))))
     refine ra rfl (eX (T_keep [0, 1, 2, 3, 4] rfl (by decide) (fU (j + 1) hjn (by omega) (aQ rfl (aQ rfl (aQ rfl (aQ rfl (aQ rfl (aQ rfl (aQ rfl (aQ rfl (aQ rfl (aQ rfl (aQ rfl aX))))))))))) (aU (box_of rfl) (aU (box_of rfl) (aU (fun _ _ _ h => h) (aU (matW_of (congrArg (FRow QT) hnx)) (aU (box_of rfl) aY))))))))
    ·obtain rfl : j = z.length := by simp only [decide_eq_false_iff_not] at he2; omega
     refine gV rfl (T_blk (cY (rm rfl (ro rfl (dV (Ht rfl) (cJ 1) (by show _ < 9223372036854775808; first | omega | (simp only [lim]; omega))) (ra rfl (eX (T_keep [0, 1, 2, 3, 4] rfl (by decide) (fU (i + 1) hin (by omega) (aQ rfl (aQ rfl (aQ rfl (aQ rfl (aQ rfl (aQ rfl (aQ rfl (aQ rfl (aQ rfl (aQ rfl aX)))))))))) (aU (box_of rfl) (aU (box_of rfl) (aU (fun _ _ _ h => h) (aU (matW_of (congrArg (FRow QT) upd_row)) (aU (box_of rfl) aY)))))))))))))
   ·obtain rfl : i = z.length := by simp only [decide_eq_false_iff_not] at hd; omega
    obtain ⟨T1, hT1⟩ : ∃ T1, T1 = tab z.length fun a => tab z.length fun b => rm1 s f p a b := ⟨_, rfl⟩
    rw [upd_fin, ← hT1]
    have hTs : Shp T1 z.length z.length := by rw [hT1]; exact Shp.tab
    refine gV rfl (cK (ts (ro rfl (cQ (cJ 0)) (eX (eG (T_keep [0, 1, 2, 3, 4] rfl (by decide) ?_))))))
    refine T_loop (fun (i : Nat) => i ≤ z.length) (fun (i : Nat) => z.length - i) (fun (i : Nat) => [(3, PtrB B3 0), (6, PtrB B6 0), (10, PT (QT (gm f 0 1))), (11, PT (QT (gm f 1 0))), (12, PT (QT (gm f 1 1))), (13, NT .i64 p), (14, PT (QT (gm s p p - gm f 0 0))), (16, PtrB B16 0), (17, PT (QT (rmK s f p))), (22, NT .i64 i)]) (fun (i : Nat) => [box B3 34 [QsT z, QM s], box B6 34 [Is (.slice none 0 0), Is (.slice none 0 0)], rowO 98 5 vz ((z.set p (gv fz 1)).map QT), matW B91 31 98 5 vs vs (FRow QT (rm2 T1 s f p i)), box B16 34 [Is vz, Is (.slice (some ⟨B91, 0, none⟩) z.length z.length)]]) 0 (Nat.zero_le _)
     (aQ rfl (aQ rfl (aQ rfl (aQ rfl (aQ rfl (aQ rfl (aQ rfl (aQ rfl (aQ rfl (aQ rfl aX)))))))))) (aU (box_of rfl) (aU (box_of rfl) (aU (fun _ _ _ h => h) (aU (matW_of rfl) (aU (box_of rfl) aY))))) (fun i hi => ?_)
    refine cK (ts (rm rfl (ro rfl (eZ fa_34_0 (Ht rfl) rfl) (ro rfl (eY A_31 Z_31 (Ht rfl) (i := 0) rfl rfl) (ro rfl (dG U_31 (Ht rfl) len_map) (ro rfl (gX (Ht rfl) (Ht rfl)) (eX (dQ (Ht rfl) (fun hd3 => ?_) (fun hd3 => ?_)))))))))
    ·have hin : i < z.length := by simp only [decide_eq_true_eq] at hd3; omega
     have hsi := hs.row hin
     haveI := hfs.get hL i p; haveI := hfs.get hL p i
     obtain ⟨X, hX⟩ : ∃ X, X = rm2 T1 s f p i := ⟨_, rfl⟩
     have hXs : Shp X z.length z.length := by rw [hX]; exact rm2_shp hTs i
     have hYs : Shp (setM X i p (rmK s f p * (gm f 0 1 * gm s i p))) z.length z.length := setM_shp hXs
     have hnx : setM (setM X i p (rmK s f p * (gm f 0 1 * gm s i p))) p i (rmK s f p * (gm f 1 0 * gm s p i)) = rm2 T1 s f p (i + 1) := by rw [hX]; rfl
     rw [← hX]
     refine cU (cK (eG (cK (fZ (m := 18) (dp 16 rfl (eZ fa_34_1 (Ht rfl) rfl) (dq 166 0 rfl (eY A_32 Z_32 (Ht rfl) (i := 4) rfl rfl) (dp 22 rfl (cX (Ht rfl)) (dqq 167 1 168 2 rfl (fY U_32 Z_31 (Ht rfl) (Ht rfl) rfl (by omega) (by rw [Nat.mul_one, Nat.zero_add])) ?_))))))))
     refine dq 169 3 rfl (op_ldHW A_31 Z_31 (Ht rfl) (j := 3) rfl (by omega)) (dp 13 rfl (cX (Ht rfl)) (dp 17 rfl (dJ A_98 Z_98 (Ht rfl)) (dp 10 rfl (dJ A_98 Z_98 (Ht rfl)) (dp 3 rfl (eZ fa_34_1 (Ht rfl) rfl) (dq 174 8 rfl (eY A_32 Z_32 (Ht rfl) (i := 0) rfl rfl) (dp 22 rfl (cX (Ht rfl)) (dqq 175 9 176 10 rfl (dZ U_32 Z_31 (Ht rfl) (Ht rfl) rfl (dY (dU (d := []) (by omega)))) (dq 177 11 rfl (dJ A_31 Z_31 (Ht rfl)) (dp 13 rfl (cX (Ht rfl)) ?_)))))))))
     refine dqq 178 12 179 13 rfl (dZ U_31 Z_98 (Ht rfl) (Ht rfl) rfl (dY (dU (d := Qi.zero) (by omega)))) (dq 180 14 rfl (dJ A_98 Z_98 (Ht rfl)) (dqq 173 7 181 15 rfl (cZ K_99 (c_rMul (x := gm f 0 1) (y := gm s i p) (L := L) (M := L) (by omega)) ⟨(Ht rfl), (Ht rfl), trivial⟩) (dqq 172 6 182 16 rfl (cZ K_99 (c_rMul (x := rmK s f p) (y := gm f 0 1 * gm s i p) (L := 15 * L + 18) (M := L + L + 1) (by omega)) ⟨(Ht rfl), (Ht rfl), trivial⟩) (fV mixed rfl (by kernel_rfl) (aJ (aJ (aJ (aJ (aJ (aJ (aJ (aJ (aJ (aJ (aJ (aJ (aJ (aJ (aJ (aJ (aJ (aJ (aV ?_)))))))))))))))))))))))
     refine ro rfl (op_idxW U_31 Z_98 (Ht rfl) (Ht rfl) rfl (j := 3) rfl (w3a hvl hXs) (w3b hXs hin) (w3c hXs hin hpl)) (R_stW (F := QT) Z_98 (Ht rfl) (Ht rfl) (j := 3) rfl (El.ag rfl) (w3a hvl hXs) (w3b hXs hin) (w3c hXs hin hpl) rfl (eX (fZ (m := 18) (dp 16 rfl (eZ fa_34_1 (Ht rfl) rfl) (dq 185 0 rfl (eY A_32 Z_32 (Ht rfl) (i := 4) rfl rfl) (dp 13 rfl (cX (Ht rfl)) (dqq 186 1 187 2 rfl (fY U_32 Z_31 (Ht rfl) (Ht rfl) rfl (by omega) (by rw [Nat.mul_one, Nat.zero_add])) ?_)))))))
     refine dq 188 3 rfl (op_ldHW A_31 Z_31 (Ht rfl) (j := 3) rfl (by omega)) (dp 22 rfl (cX (Ht rfl)) (dp 17 rfl (dJ A_98 Z_98 (Ht rfl)) (dp 11 rfl (dJ A_98 Z_98 (Ht rfl)) (dp 3 rfl (eZ fa_34_1 (Ht rfl) rfl) (dq 193 8 rfl (eY A_32 Z_32 (Ht rfl) (i := 0) rfl rfl) (dp 13 rfl (cX (Ht rfl)) (dqq 194 9 195 10 rfl (dZ U_32 Z_31 (Ht rfl) (Ht rfl) rfl (dY (dU (d := []) (by omega)))) (dq 196 11 rfl (dJ A_31 Z_31 (Ht rfl)) (dp 22 rfl (cX (Ht rfl)) ?_)))))))))
     refine dqq 197 12 198 13 rfl (dZ U_31 Z_98 (Ht rfl) (Ht rfl) rfl (dY (dU (d := Qi.zero) (by omega)))) (dq 199 14 rfl (dJ A_98 Z_98 (Ht rfl)) (dqq 192 7 200 15 rfl (cZ K_99 (c_rMul (x := gm f 1 0) (y := gm s p i) (L := L) (M := L) (by omega)) ⟨(Ht rfl), (Ht rfl), trivial⟩) (dqq 191 6 201 16 rfl (cZ K_99 (c_rMul (x := rmK s f p) (y := gm f 1 0 * gm s p i) (L := 15 * L + 18) (M := L + L + 1) (by omega)) ⟨(Ht rfl), (Ht rfl), trivial⟩) (fV mixed rfl (by kernel_rfl) (aJ (aJ (aJ (aJ (aJ (aJ (aJ (aJ (aJ (aJ (aJ (aJ (aJ (aJ (aJ (aJ (aJ (aJ (aV ?_)))))))))))))))))))))))
     refine ro rfl (op_idxW U_31 Z_98 (Ht rfl) (Ht rfl) rfl (j := 3) rfl (w3a hvl hYs) (w3b hYs hpl) (w3c hYs hpl hin)) (R_stW (F := QT) Z_98 (Ht rfl) (Ht rfl) (j := 3) rfl (El.ag rfl) (w3a hvl hYs) (w3b hYs hpl) (w3c hYs hpl hin) rfl (eX (T_blk (cY (rm rfl (ro rfl (dV (Ht rfl) (cJ 1) (by show _ < 9223372036854775808; first | omega | (simp only [lim]; omega))) (ra rfl (eX (T_keep [0, 1, 2, 3, 4] rfl (by decide) (fU (i + 1) hin (by omega) (aQ rfl (aQ rfl (aQ rfl (aQ rfl (aQ rfl (aQ rfl (aQ rfl (aQ rfl (aQ rfl (aQ rfl aX)))))))))) (aU (box_of rfl) (aU (box_of rfl) (aU (fun _ _ _ h => h) (aU (matW_of (congrArg (FRow QT) hnx)) (aU (box_of rfl) aY)))))))))))))))
    ·obtain rfl : i = z.length := by simp only [decide_eq_false_iff_not] at hd3; omega
     have hXs : Shp (rm2 T1 s f p z.length) z.length z.length := rm2_shp hTs _
     have hnx : setM (rm2 T1 s f p z.length) p p (rmK s f p * (gm s p p - gm f 0 0)) = rmRM s f p z.length := by rw [hT1]; exact rm_eq hpl
     refine gV rfl (cK (fZ (m := 9) (dp 16 rfl (eZ fa_34_1 (Ht rfl) rfl) (dq 204 0 rfl (eY A_32 Z_32 (Ht rfl) (i := 4) rfl rfl) (dp 13 rfl (cX (Ht rfl)) (dqq 205 1 206 2 rfl (fY U_32 Z_31 (Ht rfl) (Ht rfl) rfl (by omega) (by rw [Nat.mul_one, Nat.zero_add])) ?_))))))
     refine dq 207 3 rfl (op_ldHW A_31 Z_31 (Ht rfl) (j := 3) rfl (by omega)) (dp 13 rfl (cX (Ht rfl)) (dp 17 rfl (dJ A_98 Z_98 (Ht rfl)) (dp 14 rfl (dJ A_98 Z_98 (Ht rfl)) (dqq 210 6 211 7 rfl (cZ K_99 (c_rMul (x := rmK s f p) (y := (gm s p p - gm f 0 0)) (L := 15 * L + 18) (M := L + L + 1) (by omega)) ⟨(Ht rfl), (Ht rfl), trivial⟩) (fV mixed rfl (by kernel_rfl) (aJ (aJ (aJ (aJ (aJ (aJ (aJ (aJ (aJ (aV (ro rfl (op_idxW U_31 Z_98 (Ht rfl) (Ht rfl) rfl (j := 3) rfl (w3a hvl hXs) (w3b hXs hpl) (w3c hXs hpl hpl)) ?_))))))))))))))))
     refine R_stW (F := QT) Z_98 (Ht rfl) (Ht rfl) (j := 3) rfl (El.ag rfl) (w3a hvl hXs) (w3b hXs hpl) (w3c hXs hpl hpl) rfl (eX (cK (T_conv 3 rfl (matW_of (congrArg (FRow QT) hnx)) (T_conv 3 rfl (matW_close (by rw [hvl, FRow, List.length_map, rmRM, tab_len])) ?_))))
     refine T_frzcell 4 2 0 rfl rfl rfl (by decide) (T_frzcellG 4 3 1 rfl rfl rfl (by decide) (frzM (q := fun _ => True) (M := rmRM s f p z.length) (tab_len _ _).symm) (cY (ro rfl (eJ A_34 Z_34 (Ht rfl) (i := 4) rfl rfl rfl) (gQ Z_34 (Ht rfl) (Ht rfl) rfl (i := 1) rfl (aK rfl) rfl rfl (ro rfl (cQ (cJ 0)) (eX (T_ret2 rfl (fX (fK A_34 Z_34 rfl (i := 1) rfl rfl) ?_) (fX (eU rfl) ?_))))))))
     ·exact (fun v V h => by rw [rmZ', rmR, okL, okL, if_pos he, if_pos he, ← hp]; exact h)
     ·exact (int_of he.symm)
end
section
open Go Go.RowKit
theorem em_D {z fz : List Qi} {s f : List (List Qi)} {port : Int} (h : emE z s fz f port = 0) : emD s f (port - 1).toNat ≠ Qi.zero := fun k => by
 by_cases c : fxE z fz port 2 = 0
 ·rw [em_no c k] at h; omega
 ·rw [em_fx c] at h; exact c h
theorem rm_D {z fz : List Qi} {s f : List (List Qi)} {port : Int} (h : rmE z s fz f port = 0) : rmD s f (port - 1).toNat ≠ Qi.zero := fun k => by
 by_cases c : fxE z fz port 1 = 0
 ·rw [rm_no c (.inr (.inr k))] at h; omega
 ·rw [rm_fx c] at h; exact c h
theorem setL_fit {z : List Qi} {p L : Nat} {x : Qi} (h : FitL z L) (hx : FitC x L) : FitL (z.set p x) L := fun y hy => (List.mem_or_eq_of_mem_set hy).elim (h y) fun e => e ▸ hx
theorem emR_fit {z fz : List Qi} {s f : List (List Qi)} {port : Int} {L : Nat} (hs : FitM s L) (hf : FitM f L) (hL : 1 ≤ L) : FitM (emR z s fz f port) (20 * L + 20) := by
 by_cases h : emE z s fz f port = 0
 ·exact okL_fitM (embM_fit hs hf hL (em_D h))
 ·rw [emR, okL, if_neg h]; exact FitM.nil
theorem rmR_fit {z fz : List Qi} {s f : List (List Qi)} {port : Int} {L : Nat} (hs : FitM s L) (hf : FitM f L) (hL : 1 ≤ L) : FitM (rmR z s fz f port) (40 * L + 40) := by
 by_cases h : rmE z s fz f port = 0
 ·exact okL_fitM (rmRM_fit hs hf hL (rm_D h))
 ·rw [rmR, okL, if_neg h]; exact FitM.nil
theorem emZ_fit {z fz : List Qi} {s f : List (List Qi)} {port : Int} {L : Nat} (hz : FitL z L) (hf : FitL fz L) (hL : 1 ≤ L) : FitL (emZ z s fz f port) L := okL_fit (setL_fit hz (hf.get hL 0))
theorem rmZ_fit {z fz : List Qi} {s f : List (List Qi)} {port : Int} {L : Nat} (hz : FitL z L) (hf : FitL fz L) (hL : 1 ≤ L) : FitL (rmZ' z s fz f port) L := okL_fit (setL_fit hz (hf.get hL 1))
theorem c_NetworkEmbed {a b : Nat} {zl sl zm sm : List Rt} {port : Int} (ha : a < 256) (hb : b < 256) : Fun Tryz.prog 8 [PartT a zl sl, IntT .i64 port, PartT b zm sm] (BoolT true) := by
 refine Fun.intro Tryz.func8 rfl Tryz.ntmps8 rfl (fun cx => ?_)
 obtain ⟨h1, h8, hsh, hp⟩ := netErr_ok (pl_err a zl sl)
 obtain ⟨h1b, h8b, hshb, hpb⟩ := netErr_ok (pl_err b zm sm)
 have hn : plN a ≤ 4 := by unfold plN; omega
 have hn2 : plN b ≤ 4 := by unfold plN; omega
 have hzl : ((plZ a zl).map Rt.q).length ≤ 4 := by rw [List.length_map, plZ, tab_len]; exact hn
 have hzl2 : ((plZ b zm).map Rt.q).length ≤ 4 := by rw [List.length_map, plZ, tab_len]; exact hn2
 obtain ⟨z1, hz1⟩ : ∃ z1, z1 = ((plZ a zl).map Rt.q) := ⟨_, rfl⟩
 obtain ⟨z2, hz2⟩ : ∃ z2, z2 = ((plZ b zm).map Rt.q) := ⟨_, rfl⟩
 obtain ⟨s1, hs1⟩ : ∃ s1, s1 = (rq (plS a sl)) := ⟨_, rfl⟩
 obtain ⟨s2, hs2⟩ : ∃ s2, s2 = (rq (plS b sm)) := ⟨_, rfl⟩
 have f1 : FitL z1 2 := by rw [hz1]; exact FitL.rt
 have f2 : FitL z2 2 := by rw [hz2]; exact FitL.rt
 have f3 : FitM s1 2 := by rw [hs1]; exact FitM.rt
 have f4 : FitM s2 2 := by rw [hs2]; exact FitM.rt
 have hB1 := c_Build (a := a) (zl := zl) (sl := sl) ha
 have hB2 := c_Build (a := b) (zl := zm) (sl := sm) hb
 rw [← hz1] at h1 h8 hsh hzl hp
 rw [← hs1] at hsh
 rw [← hz2] at h1b h8b hshb hzl2 hpb
 rw [← hs2] at hshb
 rw [← hz1, ← hs1] at hB1
 rw [← hz2, ← hs2] at hB2
 have hsq : z2.length = 2 → Shp s2 2 2 := fun h => by rw [← h]; exact hshb
 obtain ⟨t1, t2⟩ := em_shp z1 s1 z2 s2 port
 obtain ⟨t3, t4⟩ := rm_shp z1 s1 z2 s2 port
 have g1 : FitL (emZ z1 s1 z2 s2 port) 2 := emZ_fit f1 f2 (by decide)
 have g2 : FitL (rmZ' z1 s1 z2 s2 port) 2 := rmZ_fit f1 f2 (by decide)
 have g3 : FitM (emR z1 s1 z2 s2 port) 60 := emR_fit f3 f4 (by decide)
 have g4 : FitM (rmR z1 s1 z2 s2 port) 120 := rmR_fit f3 f4 (by decide)
 refine ts (rn rfl (fG (Ht rfl)) fun B3 => (rn rfl (fG (Ht rfl)) fun B5 => (ro rfl (cQ cV) (eX (ts (ro rfl (eJ Tryz.isAgg24 Tryz.sizeOf24 (Ht rfl) (i := 0) rfl rfl rfl) (ro rfl (cZ Tryz.call16 hB1 ⟨(Ht rfl), trivial⟩) (rm rfl (ro rfl (dK (Ht rfl) rfl) (ro rfl (dK (Ht rfl) rfl) (ro rfl (dK (Ht rfl) rfl) (rn rfl (eW (Ts := [Is (.slice none 0 0), Is (.slice none 0 0)]) O_30 rfl (fun V => aW ⟨rfl, trivial⟩ (aW ⟨rfl, trivial⟩ (aG)))) fun B7 => (rn rfl (eW (Ts := [Is (.slice none 0 0), Is (.slice none 0 0)]) O_34 rfl (fun V => aW ⟨rfl, trivial⟩ (aW ⟨rfl, trivial⟩ (aG)))) fun B8 => ?_)))))))))))))
 refine gQ Z_30 (Ht rfl) (Ht rfl) rfl (i := 2) rfl (aK rfl) rfl rfl (gQ Z_34 (Ht rfl) (Ht rfl) rfl (i := 3) rfl (aK rfl) rfl rfl (ra rfl (eX (cK (T_keep [0, 1, 2, 3] rfl (by decide) (cY (ro rfl (eJ Tryz.isAgg24 Tryz.sizeOf24 (Ht rfl) (i := 1) rfl rfl rfl) (ro rfl (cZ Tryz.call16 hB2 ⟨(Ht rfl), trivial⟩) (rm rfl (ro rfl (dK (Ht rfl) rfl) (ro rfl (dK (Ht rfl) rfl) (ro rfl (dK (Ht rfl) rfl) (rn rfl (eW (Ts := [Is (.slice none 0 0), Is (.slice none 0 0)]) O_30 rfl (fun V => aW ⟨rfl, trivial⟩ (aW ⟨rfl, trivial⟩ (aG)))) fun B10 => ?_)))))))))))))
 refine rn rfl (eW (Ts := [Is (.slice none 0 0), Is (.slice none 0 0)]) O_34 rfl (fun V => aW ⟨rfl, trivial⟩ (aW ⟨rfl, trivial⟩ (aG)))) fun B11 => gQ Z_30 (Ht rfl) (Ht rfl) rfl (i := 4) rfl (aK rfl) rfl rfl (gQ Z_34 (Ht rfl) (Ht rfl) rfl (i := 5) rfl (aK rfl) rfl rfl (ra rfl (eX (cK (cK (T_keep [0, 1, 2, 3, 4, 5] rfl (by decide) (cY (rm rfl (ro rfl (op_not (Ht rfl)) (rm rfl (fQ rfl rfl (eK rfl rfl (Ht rfl) (fun h => cX (Ht rfl))) (fQ rfl rfl (eK rfl rfl (Ht rfl) (fun h => op_not (fJ rfl h))) ?_))))))))))))
 refine ro rfl (op_or (Ht rfl) (fun h => (fJ rfl h))) (eX (T_condF (Ht rfl) (by rfl) ?_))
 refine cU (cK (T_keep [0, 1, 2, 3, 4, 5] rfl (by decide) (cY (ro rfl (eJ A_30 Z_30 (Ht rfl) (i := 2) rfl rfl rfl) (rm rfl (ro rfl (eJ A_30 Z_30 (Ht rfl) (i := 4) rfl rfl rfl) (ro rfl (cZ Tryz.call53 (c_Embed (z := z1) (fz := z2) (s := s1) (f := s2) (port := port) (L := 2) hsh h1 (by omega) f3 f4 f1 f2 (by decide) (by decide) hsq) ⟨(Ht rfl), (Ht rfl), (Ht rfl), trivial⟩) (rm rfl (ro rfl (dK (Ht rfl) rfl) (ro rfl (dK (Ht rfl) rfl) (rn rfl (eW (Ts := [Is (.slice none 0 0), Is (.slice none 0 0)]) O_30 rfl (fun V => aW ⟨rfl, trivial⟩ (aW ⟨rfl, trivial⟩ (aG)))) fun B13 => ?_)))))))))))
 refine gQ Z_30 (Ht rfl) (Ht rfl) rfl (i := 6) rfl (aK rfl) rfl rfl (ra rfl (eX (cK (T_keep [0, 1, 2, 3, 4, 5, 6] rfl (by decide) (cY (ro rfl (eJ A_34 Z_34 (Ht rfl) (i := 3) rfl rfl rfl) (rm rfl (ro rfl (eJ A_34 Z_34 (Ht rfl) (i := 5) rfl rfl rfl) (ro rfl (cZ Tryz.call54 (c_rEmbed (z := z1) (fz := z2) (s := s1) (f := s2) (port := port) (L := 2) hsh h1 (by omega) f3 f4 f1 f2 (by decide) (by decide) (by omega) hsq) ⟨(Ht rfl), (Ht rfl), (Ht rfl), trivial⟩) (rm rfl (ro rfl (dK (Ht rfl) rfl) ?_)))))))))))
 refine ro rfl (dK (Ht rfl) rfl) (rn rfl (eW (Ts := [Is (.slice none 0 0), Is (.slice none 0 0)]) O_34 rfl (fun V => aW ⟨rfl, trivial⟩ (aW ⟨rfl, trivial⟩ (aG)))) fun B15 => (gQ Z_34 (Ht rfl) (Ht rfl) rfl (i := 7) rfl (aK rfl) rfl rfl (ra rfl (eX (cK (cK (T_keep [0, 1, 2, 3, 4, 5, 6, 7] rfl (by decide) (cY (ro rfl (eJ A_30 Z_30 (Ht rfl) (i := 6) rfl rfl rfl) (rm rfl (ro rfl (eJ A_34 Z_34 (Ht rfl) (i := 7) rfl rfl rfl) (rm rfl (ro rfl (cZ Tryz.call30 (c_ans4 (L := 60) (g1.le (by decide)) g3 (by decide) (by decide) t1 (by omega)) ⟨(Ht rfl), (Ht rfl), (Ht rfl), (Ht rfl), trivial⟩) ?_)))))))))))))
 refine ro rfl (op_not (Ht rfl)) (eX (T_condF (Ht rfl) (by rfl) ?_))
 refine cU (cK (T_keep [0, 1, 2, 3, 4, 5, 6, 7] rfl (by decide) (cY (ro rfl (eJ A_30 Z_30 (Ht rfl) (i := 2) rfl rfl rfl) (rm rfl (ro rfl (eJ A_30 Z_30 (Ht rfl) (i := 4) rfl rfl rfl) (ro rfl (cZ Tryz.call55 (c_Remove (z := z1) (fz := z2) (s := s1) (f := s2) (port := port) (L := 2) hsh h1 (by omega) f3 f4 f1 f2 (by decide) (by decide) hsq) ⟨(Ht rfl), (Ht rfl), (Ht rfl), trivial⟩) (rm rfl (ro rfl (dK (Ht rfl) rfl) (ro rfl (dK (Ht rfl) rfl) (rn rfl (eW (Ts := [Is (.slice none 0 0), Is (.slice none 0 0)]) O_30 rfl (fun V => aW ⟨rfl, trivial⟩ (aW ⟨rfl, trivial⟩ (aG)))) fun B17 => ?_)))))))))))
 refine gQ Z_30 (Ht rfl) (Ht rfl) rfl (i := 8) rfl (aK rfl) rfl rfl (ra rfl (eX (cK (T_keep [0, 1, 2, 3, 4, 5, 6, 7, 8] rfl (by decide) (cY (ro rfl (eJ A_34 Z_34 (Ht rfl) (i := 3) rfl rfl rfl) (rm rfl (ro rfl (eJ A_34 Z_34 (Ht rfl) (i := 5) rfl rfl rfl) (ro rfl (cZ Tryz.call56 (c_rRemove (z := z1) (fz := z2) (s := s1) (f := s2) (port := port) (L := 2) hsh h1 (by omega) f3 f4 f1 f2 (by decide) (by decide) (by omega) hsq) ⟨(Ht rfl), (Ht rfl), (Ht rfl), trivial⟩) (rm rfl (ro rfl (dK (Ht rfl) rfl) ?_)))))))))))
 refine ro rfl (dK (Ht rfl) rfl) (rn rfl (eW (Ts := [Is (.slice none 0 0), Is (.slice none 0 0)]) O_34 rfl (fun V => aW ⟨rfl, trivial⟩ (aW ⟨rfl, trivial⟩ (aG)))) fun B19 => (gQ Z_34 (Ht rfl) (Ht rfl) rfl (i := 9) rfl (aK rfl) rfl rfl (ra rfl (eX (cK (T_keep [0, 1, 2, 3, 4, 5, 6, 7, 8, 9] rfl (by decide) (cY (ro rfl (eJ A_30 Z_30 (Ht rfl) (i := 8) rfl rfl rfl) (rm rfl (ro rfl (eJ A_34 Z_34 (Ht rfl) (i := 9) rfl rfl rfl) (rm rfl (ro rfl (cZ Tryz.call30 (c_ans4 (L := 120) (g2.le (by decide)) g4 (by decide) (by decide) t3 (by omega)) ⟨(Ht rfl), (Ht rfl), (Ht rfl), (Ht rfl), trivial⟩) ?_))))))))))))
 refine rm rfl (fQ rfl rfl (eK rfl rfl (Ht rfl) (fun h => cZ Tryz.call15 c_awake4 trivial)) (ro rfl (op_and (Ht rfl) (fun h => (fJ rfl h))) (ra rfl (eX (fW rfl (fX (eU rfl) ?_))))))
 exact (bool_of (by simp))
end
section
open Go Go.ChangeShapes Go.WideShapes Go.ChangeAt Go.RowKit Go.Deep
section
variable {H : Type} {enc : TypeId × Value → H} {W : World} {base : Nat} {sp : Nat → Bool} {held : Bool}
theorem s125 : S3 Tryz.prog 24 5 22 22 := ⟨⟨_, _, _, Tryz.underlying24, rfl, rfl, rfl, rfl, rfl, rfl⟩, by kernel_rfl, by kernel_rfl, by kernel_rfl, by kernel_rfl⟩
theorem trod_partT {b0 : Nat} {v : Value} {d : DataW H} {p : List MemPlace} (ho : Value.okWide Tryz.prog W .any b0 24 v) (h : DataW.Trod enc Tryz.prog W base sp held 24 v d p) : ∃ (a : Nat) (zl sl : List Rt), (AggT [NT .u8 a, RatsT zl, RatsT sl]).p v (hv W) ∧ a < 256 := by
 obtain ⟨cs, rfl, _⟩ := okWide_struct Tryz.underlying24 ho
 obtain ⟨n, hn⟩ := h
 obtain ⟨x0, x1, x2, m, y0, y1, y2, hcs, h0, h1, h2⟩ := s125.open hn
 obtain ⟨i, e0, _, w⟩ := DataW.trod_int Tryz.underlying5 h0
 obtain ⟨v1, z, e1, k1⟩ := open_rats h1
 obtain ⟨v2, s, e2, k2⟩ := open_rats h2
 simp only [List.cons.injEq, and_true] at e0 e1 e2
 subst e0 e1 e2
 have hw := wf_u8 w
 have e : ((i.toNat : Nat) : Int) = i := by omega
 have hi : ∀ V, (NT .u8 i.toNat).p (.int .u8 i) V := fun V => by rw [show NT .u8 i.toNat = IntT .u8 i from congrArg (IntT .u8) e]; rfl
 have hcs2 : cs.toList = [.int .u8 i, x1, x2] := hcs
 exact ⟨i.toNat, z, s, ⟨cs.toList, rfl, by rw [hcs2]; exact aW ⟨hi _, trivial⟩ (aW ⟨k1, (sl_cells k1).2⟩ (aW ⟨k2, (sl_cells k2).2⟩ aG))⟩, by omega⟩
end
end
end Go.Proofs.YteimkhgiekndjaaGreat
