/- What functions of the program compute, proved by walks over their code, and the plain mathematics of it; a part of the proof in the last text. -/
import Derived.Test.YthcmlodgnfekeaaGreatP04
set_option linter.unusedVariables false
set_option linter.unusedSimpArgs false
set_option maxRecDepth 100000
set_option maxHeartbeats 4000000
namespace Go.Proofs.YthcmlodgnfekeaaGreat
section
open Go Go.RowKit
open Fl
abbrev xJ (l:List NP):Ty:=iS 2 (l.map fun n=>jY n.1 n.2)
abbrev Dp (f:List Qi) (l:List NP):Ty:=dP [pO f,xJ l]
theorem pG:∀ v V,(dP [Is (.slice none 0 0),Is (.slice none 0 0)]).p v V → (Dp [] []).p v V:=qZ ⟨hJ,hJ,trivial⟩
theorem Dj {α:Type} {l:List α} {k:Nat} (d:α) (h:k < l.length):l.take k ++ [l.getD k d] = l.take (k + 1):=by
 rw [List.take_succ_eq_append_getElem h]; simp [List.getD,List.getElem?_eq_getElem h]
theorem sJ (f:List Qi) (l:List NP) (xs:List Qi):(zO f l xs).length = xs.length:=List.length_map _
theorem Lj {f:List Qi} {l:List NP} {xs:List Qi} {k:Nat} (h:k < xs.length):(zO f l xs).take k ++ [(nW f l (gv xs k)).1] = (zO f l xs).take (k + 1):=by
 rw [← Dj iA (show k < (zO f l xs).length by rw [sJ]; exact h)]
 congr 2
 simp [zO,gv,List.getD,h]
theorem He {f xs:List Qi} {l:List NP} {L:Nat} (ok:rT f l) (hf:Gu f l L) (hx:dR xs L) (hn:xs.length ≤ 1000) (hL1:1 ≤ L) (hL:L ≤ 1000):bA Tryz.prog 57 [Tc f l,dB xs] (eT [Tc (gD (Ad f l xs) xs) (gD (Ad f l xs) (zO f l xs)),aL .i64 (Ad f l xs)]):=by
 refine bA.intro Tryz.func57 rfl Tryz.ntmps57 rfl (fun cx=>(ts (rn rfl (fG (Ht rfl)) fun B2=>(rn rfl (eW (Ts:=[Is (.slice none 0 0),Is (.slice none 0 0)]) O_108 rfl (fun V=>aW zd (aW zd (aG)))) fun B4=>(ro rfl (cQ (cJ 0)) (eX (cK (ts (rm rfl (ro rfl (dG U_54 (Ht rfl) aA) (ro rfl (cH (Ht rfl) (cJ 1024)) (eX (dQ (Ht rfl) (fun hb=>?_) (fun hb=>?_))))))))))))))
 ·have he : Ad f l xs = 4 := Lk (by simpa using hb)
  have hne0:(4:Int) ≠ 0:=by decide
  refine ts (ro rfl (aE.imp (lW ) qT) (gQ Z_108 (Ht rfl) (Ht rfl) rfl (i:=1) rfl (aK rfl) rfl rfl (ro rfl (cQ (cJ 4)) (eX (bC rfl (fX (fK A_108 Z_108 rfl (i:=1) rfl rfl) ?_) (fX (eU rfl) ?_))))))
  ·exact (fun v V h=>by rw [gD,gD,if_neg (by rw [he]; exact hne0),if_neg (by rw [he]; exact hne0)]; exact h)
  ·exact (aH he.symm)
 ·have hne : ¬ 1024 < xs.length := by simpa using hb
  refine cU (ts (rn rfl (eW (Ts:=[Is (.slice none 0 0),Is (.slice none 0 0)]) O_108 rfl (fun V=>aW zd (aW zd (aG)))) fun B6=>(eX (cK (ts (rm rfl (ro rfl (dG U_54 (Ht rfl) aA) (ro rfl (cX (cJ 0)) (eX (eG (xP 32 5 (xP 80 2 (dT [0,1,2,3,4] rfl (by decide) ?_)))))))))))))
  refine iT (fun (k : Nat) (v : Value) (u : Value) => k ≤ xs.length ∧ ∀ i, i < k → Lg f l xs i = 0) (fun (k : Nat) (v : Value) (u : Value) => xs.length - k) (fun (k : Nat) (v : Value) (u : Value) => [(1, dB xs), (2, bR B2 0), (4, bR B4 0), (6, bR B6 0), (15, dB xs), (16, NT .i64 xs.length), (17, NT .i64 k)]) (fun (k : Nat) (v : Value) (u : Value) => [box B2 108 [dB f, Th l], box B4 108 [Is (.slice none 0 0), Is (.slice none 0 0)], box B6 108 [Is v, Is u], bF 32 5 v ((xs.take k).map aT), bF 80 2 u (((zO f l xs).take k).map fun n => gE n.1 n.2)]) 0 (.slice none 0 0) (.slice none 0 0) ⟨Nat.zero_le _, fun i h => by omega⟩
   (zS rfl) (bP.refl _) (fun k v u ⟨hk,h0⟩=>?_)
  refine ts (ro rfl (gX (Ht rfl) (Ht rfl)) (eX (cK (dQ (Ht rfl) (fun hc=>?_) (fun hc=>?_)))))
  ·have hc2 : k < xs.length := by simpa using hc
   haveI g1:aP (gv xs k) L:=hx.get hL1 k
   haveI g2:aP (gv xs (k - 1)) L:=hx.get hL1 (k - 1)
   have hrl:=sJ f l xs
   refine cU (cK (eG (ts (rm rfl (ro rfl (dZ U_54 Z_32 (Ht rfl) (Ht rfl) rfl (dY (dU (d:=Qi.zero) hc2))) (ro rfl (dJ A_32 Z_32 (Ht rfl)) (rn rfl (eW (Ts:=[Is (.bool false),Is (.slice none 0 0),Is (.bool false),Is (.slice none 0 0),Is (.slice none 0 0)]) O_32 rfl (fun V=>aW zd (aW zd (aW zd (aW zd (aW zd (aG))))))) fun B8=>(ra rfl (gQ Z_32 (Ht rfl) (Ht rfl) rfl (i:=5) rfl (aK rfl) rfl rfl ?_)))))))))
   refine eX (ts (ro rfl (eJ A_108 Z_108 (Ht rfl) (i:=0) rfl rfl rfl) (ro rfl (eJ A_32 Z_32 (Ht rfl) (i:=5) rfl rfl rfl) (ro rfl (cZ Tryz.call55 (Al (f:=f) (l:=l) (x:=gv xs k) (L:=L) ok hf g1 hL1 hL) ⟨(Ht rfl),(Ht rfl),trivial⟩) (rm rfl (ro rfl (dK (Ht rfl) rfl) (ro rfl (dK (Ht rfl) rfl) (rn rfl (eW (Ts:=[Is (.slice none 0 0),Is (.slice none 0 0)]) O_80 rfl (fun V=>aW zd (aW zd (aG)))) fun B9=>(gQ Z_80 (Ht rfl) (Ht rfl) rfl (i:=6) rfl (aK rfl) rfl rfl ?_)))))))))
   refine ra rfl (eX (cK (eG (ts (rm rfl (ro rfl (jH (Ht rfl) cV) (ra rfl (eX (dQ (Ht rfl) (fun hd=>?_) (fun hd=>?_))))))))))
   ·have hd2 : (nW f l (gv xs k)).2 ≠ 0 := by have h := hd; simp only [Bool.not_eq_true', decide_eq_false_iff_not] at h; exact h
    have he:Ad f l xs = (nW f l (gv xs k)).2:=Li hne hc2 h0 (wY hd2) hd2
    have hne0:=hd2
    refine ts (ro rfl (aE.imp (lW ) qT) (rm rfl (gQ Z_108 (Ht rfl) (Ht rfl) rfl (i:=1) rfl (aK rfl) rfl rfl (ra rfl (eX (bC rfl (fX (fK A_108 Z_108 rfl (i:=1) rfl rfl) ?_) (fX (eU rfl) ?_)))))))
    ·exact (fun v V h=>by rw [gD,gD,if_neg (by rw [he]; exact hne0),if_neg (by rw [he]; exact hne0)]; exact h)
    ·exact (aH he.symm)
   ·have hd2 : (nW f l (gv xs k)).2 = 0 := by have h := hd; simp only [Bool.not_eq_false', decide_eq_true_eq] at h; exact h
    have r1:=Bw hd2
    have hpr : 0 < k → Re (gv xs (k - 1)) := fun h => Bw (by
     have h1:=h0 (k - 1) zo
     refine Classical.byContradiction fun z=>?_
     rw [wY z] at h1; exact z h1)
    refine cK (fZ (m:=9) (dp 7 rfl (cX (Ht rfl)) (dq 34 0 rfl (cH (Ht rfl) (cJ 0)) (dq 35 1 rfl (cX (Ht rfl)) (C.D_step (Ei:=[(8,_),(36,_)]) rfl rfl (bV (bK rfl rfl) (bV (bG 2 rfl rfl) bW)) (eK rfl rfl (Ht rfl) (fun h=>eJ A_32 Z_32 (Ht rfl) (i:=5) rfl rfl rfl)) (C.D_step (Ei:=[(1,_),(36,_)]) rfl rfl (bV (bK rfl rfl) (bV (bG 2 rfl rfl) bW)) (eK rfl rfl (Ht rfl) (fun h=>cX (Ht rfl))) (C.D_step (Ei:=[(7,_),(36,_)]) rfl rfl (bV (bK rfl rfl) (bV (bG 2 rfl rfl) bW)) (eK rfl rfl (Ht rfl) (fun h=>cX (Ht rfl))) ?_)))))))
    refine C.D_step (Ei:=[(39,_),(36,_)]) rfl rfl (bV (bG 5 rfl rfl) (bV (bG 2 rfl rfl) bW)) (eK rfl rfl (Ht rfl) (fun h=>dW (fJ rfl h) (cJ 1) (by first | omega | (simp at h; omega)) (by show _ < 9223372036854775808; first | omega | (simp at h; omega)))) (C.D_step (Ei:=[(38,_),(40,_),(36,_)]) rfl rfl (bV (bG 4 rfl rfl) (bV (bG 6 rfl rfl) (bV (bG 2 rfl rfl) bW))) (eK rfl rfl (Ht rfl) (fun h=>dZ U_54 Z_32 (fJ rfl h) (fJ rfl h) rfl (dY (dU (d:=Qi.zero) zo)))) ?_)
    refine C.D_step (Ei:=[(41,_),(36,_)]) rfl rfl (bV (bG 7 rfl rfl) (bV (bG 2 rfl rfl) bW)) (eK rfl rfl (Ht rfl) (fun h=>dJ A_32 Z_32 (fJ rfl h))) (fV aO rfl (by kernel_rfl) (zF (zF (aJ (aV (fQ rfl rfl (eK rfl rfl (Ht rfl) (fun h=>cZ Tryz.call30 (Jk (x:=gv xs k) (y:=gv xs (k - 1)) (L:=L) (M:=L) zo) ⟨(fJ rfl h),(fJ rfl h),trivial⟩)) (fQ rfl rfl (eK rfl rfl (Ht rfl) (fun h=>uW (fJ rfl h) cV)) ?_)))))))
    refine ro rfl (cT (Ht rfl) (fun h=>(fJ rfl h))) (ra rfl (eX (dQ (Ht rfl) (fun he=>?_) (fun he=>?_))))
    ·have he2 : 0 < k ∧ pU (gv xs k) (gv xs (k - 1)) ≤ 0 := by have h := he; simp only [Bool.and_eq_true, decide_eq_true_eq] at h; exact h
     rw [mU r1.b (hpr he2.1).b] at he2
     have he:Ad f l xs = 7:=Li hne hc2 h0 (Lh hd2 he2) (by decide)
     have hne0:(7:Int) ≠ 0:=by decide
     refine ts (ro rfl (aE.imp (lW ) qT) (gQ Z_108 (Ht rfl) (Ht rfl) rfl (i:=1) rfl (aK rfl) rfl rfl (ro rfl (cQ (cJ 7)) (eX (bC rfl (fX (fK A_108 Z_108 rfl (i:=1) rfl rfl) ?_) (fX (eU rfl) ?_))))))
     ·exact (fun v V h=>by rw [gD,gD,if_neg (by rw [he]; exact hne0),if_neg (by rw [he]; exact hne0)]; exact h)
     ·exact (aH he.symm)
    ·have he2 : ¬ (0 < k ∧ lY (gv xs k) (gv xs (k - 1)) ≤ 0) := by
      rintro ⟨a1,a2⟩
      have h:=he
      simp only [Bool.and_eq_false_iff,decide_eq_false_iff_not] at h
      rcases h with h | h
      ·exact h a1
      ·exact h (by rw [mU r1.b (hpr a1).b]; exact a2)
     have hk0:Lg f l xs k = 0:=Rx hd2 he2
     refine cU (bD (Y.D_startAA (m:=11) [] 4 3 9 4 rfl rfl rfl rfl rfl (bY (Ei:=[(6,_)]) rfl rfl (bQ (bJ rfl rfl) bX) rfl rfl (dX rfl (eZ kF (Ht rfl) rfl)) (bY (Ei:=[(47,_)]) rfl rfl (bQ (bZ 0 rfl rfl) bX) rfl rfl (dX rfl (Kw A_54 Z_54 (Ht rfl) (i:=2) rfl rfl)) (bY (Ei:=[(8,_)]) rfl rfl (bQ (bJ rfl rfl) bX) rfl rfl (dX rfl (eJ A_32 Z_32 (Ht rfl) (i:=5) rfl rfl rfl)) (bY (Ei:=[(49,_)]) rfl rfl (bQ (bZ 2 rfl rfl) bX) rfl rfl (dX rfl (dH (xs:=[.tmp 49]) U_54 Z_32 O_32 (cW (Ht rfl) cG) rfl rfl rfl)) ?_))))))
     refine Y.D_app (Ei:=[(48,_),(50,_)]) rfl rfl rfl rfl (bQ (bZ 1 rfl rfl) (bQ (bZ 3 rfl rfl) bX)) rfl (sM (inf:=Tryz.t32) qV nQ rfl rfl rfl (Ht rfl) (Ht rfl) (by simp) (fun T hT=>by simp at hT; subst hT; exact El.ag rfl) (by show _ * 88 ≤ _; simp only [List.length_map,List.length_take,List.length_cons,List.length_nil]; omega) (by simp only [List.length_map,List.length_take,List.length_cons,List.length_nil]; omega)) ?_
     refine bY (Ei:=[(6,_)]) rfl rfl (bQ (bJ rfl rfl) bX) rfl rfl (dX rfl (eZ oG (Ht rfl) rfl)) (bY (Ei:=[(52,_)]) rfl rfl (bQ (bZ 5 rfl rfl) bX) rfl rfl (dX rfl (Kw A_98 Z_98 (Ht rfl) (i:=2) rfl rfl)) (bY (Ei:=[(9,_)]) rfl rfl (bQ (bJ rfl rfl) bX) rfl rfl (dX rfl (eJ A_80 Z_80 (Ht rfl) (i:=6) rfl rfl rfl)) (bY (Ei:=[(54,_)]) rfl rfl (bQ (bZ 7 rfl rfl) bX) rfl rfl (dX rfl (dH (xs:=[.tmp 54]) U_98 Z_80 O_80 (cW (Ht rfl) cG) rfl rfl rfl)) ?_)))
     refine Y.D_app (Ei:=[(53,_),(55,_)]) rfl rfl rfl rfl (bQ (bZ 6 rfl rfl) (bQ (bZ 8 rfl rfl) bX)) rfl (sM (inf:=Tryz.t80) Ip Cp rfl rfl rfl (Ht rfl) (Ht rfl) (by simp) (fun T hT=>by simp at hT; subst hT; exact El.ag rfl) (by show _ * 48 ≤ _; simp only [List.length_map,List.length_take,List.length_cons,List.length_nil]; omega) (by simp only [List.length_map,List.length_take,List.length_cons,List.length_nil]; omega)) ?_
     refine bY (Ei:=[(6,_)]) rfl rfl (bQ (bJ rfl rfl) bX) rfl rfl (dX rfl (eZ kF (Ht rfl) rfl)) (Y.D_done aO rfl (by kernel_rfl) rfl (by simp [Y.okP]) rfl rfl (bU (bU (bU (bU (Y.F_app (fun v2=>bU (bU (bU (bU (Y.F_app (fun u2=>bU (Y.F_nil ?_)))))))))))))
     refine Xr (l:=7) Z_54 (Ht rfl) (Ht rfl) (i:=2) rfl rfl (aK rfl) rfl (ro rfl (eZ oG (Ht rfl) rfl) (Xr (l:=8) Z_98 (Ht rfl) (Ht rfl) (i:=2) rfl rfl (aK rfl) rfl (eX (bD (cY (ro rfl (dV (Ht rfl) (cJ 1) z6) (rm rfl (eX (dT [0,1,2,7,8] rfl (by decide) ?_)))))))))
     refine fU (k + 1, v2, u2) ⟨hc2, fun i h => by
       by_cases e:i = k
       ·rw [e]; exact hk0
       ·exact h0 i zo⟩ (by dsimp only; omega) (zS rfl) (aU (aC rfl) (aU (aC rfl) (aU (aC rfl) (aU (bN ((pT aT _ (gv xs k)).trans (congrArg _ (Dj Qi.zero hc2)))) (aU (bN ((pT (fun n:NP=>gE n.1 n.2) _ (nW f l (gv xs k)).1).trans (congrArg _ (Lj hc2)))) aY)))))
  ·have hc2 : xs.length ≤ k := by simpa using hc
   have he:Ad f l xs = 0:=Yo hne (fun i h=>h0 i zo)
   have hrl:=sJ f l xs
   rw [List.take_of_length_le hc2,List.take_of_length_le (show (zO f l xs).length ≤ k by omega)]
   refine gV rfl (qY 2 3 0 rfl rfl rfl (by decide) (qY 2 4 1 rfl rfl rfl (by decide) (ts (ro rfl (eJ A_108 Z_108 (Ht rfl) (i:=2) rfl rfl rfl) (gQ Z_108 (Ht rfl) (Ht rfl) rfl (i:=1) rfl (aK rfl) rfl rfl (ro rfl (cQ (cJ 0)) (eX (bC rfl (fX (fK A_108 Z_108 rfl (i:=1) rfl rfl) ?_) (fX (eU rfl) ?_)))))))))
   ·exact (fun v V h=>by rw [he,gD,gD,if_pos rfl,if_pos rfl]; exact h)
   ·exact (aH he.symm)
def Lf (f:List Qi) (i:Nat):Int:=if gC (gv f i) = false then 1 else if 0 < i ∧ Ft (gv f i) (gv f (i - 1)) ≤ 0 then 7 else 0
theorem Pk {f:List Qi} {i L:Nat} (hf:dR f L) (hi:i < f.length) (hn:f.length ≤ 1000) (hL1:1 ≤ L) (hL:L ≤ 1000000):bA Tryz.prog 139 [pO f,NT .i64 i] (aL .i64 (Lf f i)):=by
 haveI g1:aP (gv f i) L:=hf.get hL1 i
 haveI g2:aP (gv f (i - 1)) L:=hf.get hL1 (i - 1)
 refine bA.intro Tryz.func139 rfl Tryz.ntmps139 rfl (fun cx=>(ts (ro rfl (cQ (cJ 0)) (eX (cK (ts (rm rfl (rm rfl (ro rfl (dZ U_57 Z_40 (Ht rfl) (Ht rfl) rfl (dY (dU (d:=Qi.zero) hi))) (ro rfl (dJ A_40 Z_40 (Ht rfl)) (ro rfl (cZ Tryz.call95 (vI (x:=gv f i) (L:=L) zo) ⟨(Ht rfl),trivial⟩) (ro rfl (fB (Ht rfl)) (eX (dQ (Ht rfl) (fun hb=>?_) (fun hb=>?_)))))))))))))))
 ·have he : Lf f i = 1 := by rw [Lf, if_pos (by simpa using hb)]
  refine ts (ro rfl (cQ (cJ 1)) (eX (fW rfl (fX (eU rfl) ?_))))
  exact (aH he.symm)
 ·have hp : ¬ gC (gv f i) = false := by simpa using hb
  refine cU (cK (cK (fZ (m:=12) (dp 1 rfl (cX (Ht rfl)) (dq 11 0 rfl (cH (Ht rfl) (cJ 0)) (dq 12 1 rfl (cX (Ht rfl)) (C.D_step (Ei:=[(0,_),(13,_)]) rfl rfl (bV (bK rfl rfl) (bV (bG 2 rfl rfl) bW)) (eK rfl rfl (Ht rfl) (fun h=>cX (Ht rfl))) (C.D_step (Ei:=[(1,_),(13,_)]) rfl rfl (bV (bK rfl rfl) (bV (bG 2 rfl rfl) bW)) (eK rfl rfl (Ht rfl) (fun h=>cX (Ht rfl))) (C.D_step (Ei:=[(14,_),(15,_),(13,_)]) rfl rfl (bV (bG 3 rfl rfl) (bV (bG 4 rfl rfl) (bV (bG 2 rfl rfl) bW))) (eK rfl rfl (Ht rfl) (fun h=>dZ U_57 Z_40 (fJ rfl h) (fJ rfl h) rfl (dY (dU (d:=Qi.zero) hi)))) ?_)))))))))
  refine C.D_step (Ei:=[(16,_),(13,_)]) rfl rfl (bV (bG 5 rfl rfl) (bV (bG 2 rfl rfl) bW)) (eK rfl rfl (Ht rfl) (fun h=>dJ A_40 Z_40 (fJ rfl h))) (C.D_step (Ei:=[(0,_),(13,_)]) rfl rfl (bV (bK rfl rfl) (bV (bG 2 rfl rfl) bW)) (eK rfl rfl (Ht rfl) (fun h=>cX (Ht rfl))) (C.D_step (Ei:=[(1,_),(13,_)]) rfl rfl (bV (bK rfl rfl) (bV (bG 2 rfl rfl) bW)) (eK rfl rfl (Ht rfl) (fun h=>cX (Ht rfl))) (C.D_step (Ei:=[(19,_),(13,_)]) rfl rfl (bV (bG 8 rfl rfl) (bV (bG 2 rfl rfl) bW)) (eK rfl rfl (Ht rfl) (fun h=>dW (fJ rfl h) (cJ 1) (by first | omega | (simp at h; omega)) (by show _ < 9223372036854775808; first | omega | (simp at h; omega)))) ?_)))
  refine C.D_step (Ei:=[(18,_),(20,_),(13,_)]) rfl rfl (bV (bG 7 rfl rfl) (bV (bG 9 rfl rfl) (bV (bG 2 rfl rfl) bW))) (eK rfl rfl (Ht rfl) (fun h=>dZ U_57 Z_40 (fJ rfl h) (fJ rfl h) rfl (dY (dU (d:=Qi.zero) zo)))) (C.D_step (Ei:=[(21,_),(13,_)]) rfl rfl (bV (bG 10 rfl rfl) (bV (bG 2 rfl rfl) bW)) (eK rfl rfl (Ht rfl) (fun h=>dJ A_40 Z_40 (fJ rfl h))) (fV aO rfl (by kernel_rfl) (zF (zF (zF (aV ?_))))))
  refine fQ rfl rfl (eK rfl rfl (Ht rfl) (fun h=>cZ Tryz.call85 (Cb (x:=gv f i) (y:=gv f (i - 1)) (L:=L) (M:=L) zo) ⟨(fJ rfl h),(fJ rfl h),trivial⟩)) (fQ rfl rfl (eK rfl rfl (Ht rfl) (fun h=>uW (fJ rfl h) cV)) (ro rfl (cT (Ht rfl) (fun h=>(fJ rfl h))) (eX (dQ (Ht rfl) (fun hc=>?_) (fun hc=>?_)))))
  ·have he : Lf f i = 7 := by rw [Lf, if_neg hp, if_pos (by have h := hc; simp only [Bool.and_eq_true, decide_eq_true_eq] at h; exact h)]
   refine ts (ro rfl (cQ (cJ 7)) (eX (fW rfl (fX (eU rfl) ?_))))
   exact (aH he.symm)
  ·have he : Lf f i = 0 := by rw [Lf, if_neg hp, if_neg]; intro h2; have h := hc; simp only [Bool.and_eq_false_iff, decide_eq_false_iff_not] at h; rcases h with h | h; exact h h2.1; exact h h2.2
   refine cU (ts (ro rfl (cQ (cJ 0)) (eX (fW rfl (fX (eU rfl) ?_)))))
   exact (aH he.symm)
theorem Ee {f:List Qi} {l:List NP} {L:Nat} (hf:Gu f l L) (hL1:1 ≤ L) (hL:L ≤ 1000000):bA Tryz.prog 51 [pO f,xJ l] (eT [Dp (gD (vR f l) f) (gD (vR f l) l),aL .i64 (vR f l)]):=by
 have nl:=hf.nl; have nf:=hf.nf
 refine bA.intro Tryz.func51 rfl Tryz.ntmps51 rfl (fun cx=>(ts (rn rfl (eW (Ts:=[Is (.slice none 0 0),Is (.slice none 0 0)]) O_113 rfl (fun V=>aW zd (aW zd (aG)))) fun B4=>(ro rfl (cQ (cJ 0)) (eX (cK (ts (rm rfl (ro rfl (dG U_57 (Ht rfl) aA) (rm rfl (ro rfl (dG U_99 (Ht rfl) aA) (ro rfl (gL (Ht rfl) (Ht rfl)) (rm rfl (fQ rfl rfl (eK rfl rfl (Ht rfl) (fun h=>cX (Ht rfl))) (fQ rfl rfl (eK rfl rfl (Ht rfl) (fun h=>dG U_57 (fJ rfl h) aA)) ?_)))))))))))))))
 refine fQ rfl rfl (eK rfl rfl (Ht rfl) (fun h=>cH (fJ rfl h) (cJ 1024))) (ro rfl (iR (Ht rfl) (fun h=>(fJ rfl h))) (eX (dQ (Ht rfl) (fun hb=>?_) (fun hb=>?_))))
 ·have he : vR f l = 4 := Ls (by simpa using hb)
  have hne0:(4:Int) ≠ 0:=by decide
  refine ts (ro rfl (aE.imp (lX ) pG) (gQ Z_113 (Ht rfl) (Ht rfl) rfl (i:=0) rfl (aK rfl) rfl rfl (ro rfl (cQ (cJ 4)) (eX (bC rfl (fX (fK A_113 Z_113 rfl (i:=0) rfl rfl) ?_) (fX (eU rfl) ?_))))))
  ·exact (fun v V h=>by rw [gD,gD,if_neg (by rw [he]; exact hne0),if_neg (by rw [he]; exact hne0)]; exact h)
  ·exact (aH he.symm)
 ·have hne : ¬ (f.length ≠ l.length ∨ 1024 < f.length) := by have h := hb; simp at h; omega
  refine cU (cK (ts (ro rfl (cQ (cJ 0)) (eX (eG ?_)))))
  refine cL (fun (k : Nat) => k ≤ f.length ∧ ∀ i, i < k → Ae f l i = 0) (fun (k : Nat) => f.length - k) (fun (k : Nat) => [(0, pO f), (1, xJ l), (4, bR B4 0), (6, NT .i64 k)]) (fun (k : Nat) => [box B4 113 [Is (.slice none 0 0), Is (.slice none 0 0)]]) 0 ⟨Nat.zero_le _, fun i h => by omega⟩
   (zS rfl) (bP.refl _) (fun k ⟨hk,h0⟩=>?_)
  refine cK (ts (rm rfl (rm rfl (ro rfl (dG U_57 (Ht rfl) aA) (ro rfl (gX (Ht rfl) (Ht rfl)) (eX (dQ (Ht rfl) (fun hc=>?_) (fun hc=>?_))))))))
  ·have hc2 : k < f.length := by simpa using hc
   have hkl:k < l.length:=by omega
   have hpr:0 < k → Re (gv f (k - 1)):=fun h=>Fl.pos_re (qS (h0 (k - 1) zo)).1
   have hri : Lf f k ≠ 0 → Ae f l k = Lf f k := fun h => by
    unfold Lf at h ⊢
    by_cases c1:gC (gv f k) = false
    ·rw [if_pos c1,Lp c1]
    ·rw [if_neg c1] at h ⊢
     by_cases c2:0 < k ∧ Ft (gv f k) (gv f (k - 1)) ≤ 0
     ·have c1' : gC (gv f k) = true := by simpa using c1
      rw [if_pos c2,Lr c1' (by rw [← kT (Fl.pos_re c1').b (hpr c2.1).b]; exact c2)]
     ·rw [if_neg c2] at h; exact absurd rfl h
   have hrz : Lf f k = 0 → gC (gv f k) = true ∧ ¬ (0 < k ∧ lY (gv f k) (gv f (k - 1)) ≤ 0) := fun h => by
    unfold Lf at h
    by_cases c1:gC (gv f k) = false
    ·rw [if_pos c1] at h; cases h
    ·rw [if_neg c1] at h
     have c1':gC (gv f k) = true:=by simpa using c1
     refine ⟨c1',fun c2=>?_⟩
     rw [if_pos ⟨c2.1,by rw [kT (Fl.pos_re c1').b (hpr c2.1).b]; exact c2.2⟩] at h; cases h
   refine cU (cK (eG (cK (ts (rm rfl (rm rfl (ro rfl (cZ Tryz.call139 (Pk (f:=f) (i:=k) (L:=L) hf.ff hc2 nf hL1 hL) ⟨(Ht rfl),(Ht rfl),trivial⟩) (ra rfl (eX (ts (rm rfl (ro rfl (jH (Ht rfl) cV) (eX (dQ (Ht rfl) (fun hd=>?_) (fun hd=>?_)))))))))))))))
   ·have hne0 : Lf f k ≠ 0 := by have h := hd; simp only [Bool.not_eq_true', decide_eq_false_iff_not] at h; exact h
    have he:vR f l = Lf f k:=zC hne hc2 h0 (hri hne0) hne0
    refine ts (ro rfl (aE.imp (lX ) pG) (rm rfl (gQ Z_113 (Ht rfl) (Ht rfl) rfl (i:=0) rfl (aK rfl) rfl rfl (ra rfl (eX (bC rfl (fX (fK A_113 Z_113 rfl (i:=0) rfl rfl) ?_) (fX (eU rfl) ?_)))))))
    ·exact (fun v V h=>by rw [gD,gD,if_neg (by rw [he]; exact hne0),if_neg (by rw [he]; exact hne0)]; exact h)
    ·exact (aH he.symm)
   ·obtain ⟨hp, he2⟩ := hrz (by have h := hd; simp only [Bool.not_eq_false', decide_eq_true_eq] at h; exact h)
    refine cU (cK (cK (fZ (m:=11) (dp 1 rfl (cX (Ht rfl)) (dp 6 rfl (cX (Ht rfl)) (cI 33 0 34 1 rfl (dZ U_99 Z_104 (Ht rfl) (Ht rfl) rfl (dY (dU (d:=iA) hkl))) (dq 35 2 rfl (gB mA (Ht rfl) rfl) (dq 36 3 rfl (dJ A_57 Z_57 (Ht rfl)) (dq 37 4 rfl (dG U_57 (Ht rfl) aA) (dp 1 rfl (cX (Ht rfl)) (dq 39 6 rfl (dZ U_99 Z_104 (Ht rfl) (cJ 0) rfl (dY (dU (d:=iA) zo))) (dq 40 7 rfl (gB mA (Ht rfl) rfl) ?_))))))))))))
    refine dq 41 8 rfl (dJ A_57 Z_57 (Ht rfl)) (dq 42 9 rfl (dG U_57 (Ht rfl) aA) (fV aO rfl (by kernel_rfl) (zF (zF (aJ (aJ (aJ (aV (ro rfl (gL (Ht rfl) (Ht rfl)) (eX (dQ (Ht rfl) (fun hg=>?_) (fun hg=>?_))))))))))))
    ·have hg2 : (nz l k).length ≠ (nz l 0).length := by have h := hg; simp only [Bool.not_eq_true', decide_eq_false_iff_not] at h; exact h
     have he:vR f l = 4:=zC hne hc2 h0 (Gi hp he2 hg2) (by decide)
     have hne0:(4:Int) ≠ 0:=by decide
     refine ts (ro rfl (aE.imp (lX ) pG) (gQ Z_113 (Ht rfl) (Ht rfl) rfl (i:=0) rfl (aK rfl) rfl rfl (ro rfl (cQ (cJ 4)) (eX (bC rfl (fX (fK A_113 Z_113 rfl (i:=0) rfl rfl) ?_) (fX (eU rfl) ?_))))))
     ·exact (fun v V h=>by rw [gD,gD,if_neg (by rw [he]; exact hne0),if_neg (by rw [he]; exact hne0)]; exact h)
     ·exact (aH he.symm)
    ·have hg2 : (nz l k).length = (nz l 0).length := by have h := hg; simp only [Bool.not_eq_false', decide_eq_true_eq] at h; exact h
     have h8:=hf.h8 k
     refine cU (ts (ro rfl (cQ (cJ 0)) (eX (eG (dT [0] rfl (by decide) ?_)))))
     refine cL (fun (j : Nat) => j ≤ (nz l k).length ∧ ∀ i, i < j → gv (nz l k) i = gv (nz l 0) i) (fun (j : Nat) => (nz l k).length - j) (fun (j : Nat) => [(0, pO f), (1, xJ l), (4, bR B4 0), (6, NT .i64 k), (8, NT .i64 j)]) (fun (j : Nat) => [box B4 113 [Is (.slice none 0 0), Is (.slice none 0 0)]]) 0 ⟨Nat.zero_le _, fun i h => by omega⟩
      (zS rfl) (bP.refl _) (fun j ⟨hj,hj0⟩=>?_)
     refine cK (ts (rm rfl (rm rfl (rm rfl (ro rfl (dZ U_99 Z_104 (Ht rfl) (Ht rfl) rfl (dY (dU (d:=iA) hkl))) (ro rfl (gB mA (Ht rfl) rfl) (ro rfl (dJ A_57 Z_57 (Ht rfl)) (ro rfl (dG U_57 (Ht rfl) aA) (ro rfl (gX (Ht rfl) (Ht rfl)) (eX (dQ (Ht rfl) (fun hh=>?_) (fun hh=>?_))))))))))))
     ·have hh2 : j < (nz l k).length := by have h := hh; simp only [decide_eq_true_eq] at h; exact h
      haveI g1:aP (gv (nz l k) j) L:=(hf.fz k).get hL1 j
      haveI g2:aP (gv (nz l 0) j) L:=(hf.fz 0).get hL1 j
      refine cU (cK (eG (cK (fZ (m:=15) (dp 1 rfl (cX (Ht rfl)) (dp 6 rfl (cX (Ht rfl)) (cI 56 0 57 1 rfl (dZ U_99 Z_104 (Ht rfl) (Ht rfl) rfl (dY (dU (d:=iA) hkl))) (dq 58 2 rfl (gB mA (Ht rfl) rfl) (dq 59 3 rfl (dJ A_57 Z_57 (Ht rfl)) (dp 8 rfl (cX (Ht rfl)) (cI 60 4 61 5 rfl (dZ U_57 Z_40 (Ht rfl) (Ht rfl) rfl (dY (dU (d:=Qi.zero) hh2))) (dq 62 6 rfl (dJ A_40 Z_40 (Ht rfl)) (dp 1 rfl (cX (Ht rfl)) (dq 64 8 rfl (dZ U_99 Z_104 (Ht rfl) (cJ 0) rfl (dY (dU (d:=iA) zo))) ?_))))))))))))))
      refine dq 65 9 rfl (gB mA (Ht rfl) rfl) (dq 66 10 rfl (dJ A_57 Z_57 (Ht rfl)) (dp 8 rfl (cX (Ht rfl)) (cI 67 11 68 12 rfl (dZ U_57 Z_40 (Ht rfl) (Ht rfl) rfl (dY (dU (d:=Qi.zero) (show j < (nz l 0).length by rw [← hg2]; exact hh2)))) (dq 69 13 rfl (dJ A_40 Z_40 (Ht rfl)) (fV aO rfl (by kernel_rfl) (zF (zF (zF (aJ (aJ (aJ (aV (ro rfl (cZ Tryz.call140 (Jv (x:=gv (nz l k) j) (y:=gv (nz l 0) j) (L:=L) (M:=L) zo zo) ⟨(Ht rfl),(Ht rfl),trivial⟩) ?_)))))))))))))
      refine ro rfl (fB (Ht rfl)) (eX (dQ (Ht rfl) (fun hi=>?_) (fun hi=>?_)))
      ·have hi2 : nz l k ≠ nz l 0 := fun e => by rw [e] at hi; simp at hi
       have he:vR f l = 40:=zC hne hc2 h0 (Lq hp he2 hg2 hi2) (by decide)
       have hne0:(40:Int) ≠ 0:=by decide
       refine ts (ro rfl (aE.imp (lX ) pG) (gQ Z_113 (Ht rfl) (Ht rfl) rfl (i:=0) rfl (aK rfl) rfl rfl (ro rfl (cQ (cJ 40)) (eX (bC rfl (fX (fK A_113 Z_113 rfl (i:=0) rfl rfl) ?_) (fX (eU rfl) ?_))))))
       ·exact (fun v V h=>by rw [gD,gD,if_neg (by rw [he]; exact hne0),if_neg (by rw [he]; exact hne0)]; exact h)
       ·exact (aH he.symm)
      ·have hi2 : gv (nz l k) j = gv (nz l 0) j := by have h := hi; simp only [Bool.not_eq_false', decide_eq_true_eq] at h; exact h
       refine cU (bD (cY (rm rfl (ro rfl (dV (Ht rfl) (cJ 1) z6) (ra rfl (eX ?_))))))
       refine fU (j + 1) ⟨hh2, fun i h => by
         by_cases e:i = j
         ·rw [e]; exact hi2
         ·exact hj0 i zo⟩ zo (zS rfl) (bP.refl _)
     ·have hh2 : (nz l k).length ≤ j := by have h := hh; simp only [decide_eq_false_iff_not] at h; exact Nat.not_lt.1 h
      have hzk:nz l k = nz l 0:=Fd hg2 fun i hi=>hj0 i zo
      have hk0:Ae f l k = 0:=Sm hp he2 hzk
      refine gV rfl (bD (cY (rm rfl (ro rfl (dV (Ht rfl) (cJ 1) z6) (ra rfl (eX ?_))))))
      refine fU (k + 1) ⟨hc2, fun i h => by
        by_cases e:i = k
        ·rw [e]; exact hk0
        ·exact h0 i zo⟩ zo (zS rfl) (bP.refl _)
  ·have hc2 : f.length ≤ k := by simpa using hc
   have he:vR f l = 0:=Yq hne (fun i h=>h0 i zo)
   refine gV rfl (ts (rm rfl (rm rfl (ro rfl (vH (Ht rfl) (Ht rfl)) (gQ Z_113 (Ht rfl) (Ht rfl) rfl (i:=0) rfl (aK rfl) rfl rfl (ro rfl (cQ (cJ 0)) (eX (bC rfl (fX (fK A_113 Z_113 rfl (i:=0) rfl rfl) ?_) (fX (eU rfl) ?_)))))))))
   ·exact (fun v V h=>by rw [he,gD,gD,if_pos rfl,if_pos rfl]; exact h)
   ·exact (aH he.symm)
theorem Tv {f : List Qi} {l : List NP} {x : Qi} {i : Nat} (ok : rT f l) (hx : Re x) (hi : i < f.length) (h0 : 0 < i) (h1 : (gv f (i - 1)).re < x.re) (h2 : x.re < (gv f i).re) : rJ f x = i :=
 Hr (Nat.le_of_lt hi) (fun t ht => by
  rcases Nat.eq_or_lt_of_le (Nat.le_sub_one_of_lt ht) with e | e
  ·rw [e]; exact h1
  ·have:=ok.lt e (show i - 1 < f.length by omega); grind) fun _=>Rat.le_of_lt h2
theorem Tw {f : List Qi} {l : List NP} {x : Qi} {i : Nat} (ok : rT f l) (hi : i < f.length) (h : gv f i = x) : rJ f x = i :=
 Hr (Nat.le_of_lt hi) (fun t ht=>by rw [← h]; exact ok.lt ht hi) fun _=>by rw [h]; exact Rat.le_refl
theorem Tx {f:List Qi} {l:List NP} {x:Qi} (ok:rT f l) (hx:Re x) (h1:∀ i,i < f.length → gv f i ≠ x) (h2:∀ i,0 < i → i < f.length → ¬ ((gv f (i - 1)).re < x.re ∧ x.re < (gv f i).re)):rJ f x = 0 ∨ rJ f x = f.length:=by
 refine Classical.byContradiction fun hn=>?_
 have hle:rJ f x ≤ f.length:=List.findIdx_le_length
 have hlt:rJ f x < f.length:=by omega
 have a1 : x.re ≤ (gv f (rJ f x)).re := by
  have:=List.findIdx_getElem (w:=hlt) (p:=fun y:Qi=>decide (x.re ≤ y.re)) (xs:=f)
  have e:gv f (rJ f x) = f[rJ f x]:=by simp [gv,List.getD,hlt]
  rw [e]; exact of_decide_eq_true this
 have a2 : (gv f (rJ f x - 1)).re < x.re := by
  have:=List.not_of_lt_findIdx (p:=fun y:Qi=>decide (x.re ≤ y.re)) (xs:=f) (i:=rJ f x - 1) (show _ < rJ f x by omega)
  have e:gv f (rJ f x - 1) = f[rJ f x - 1]'zo:=by simp [gv,List.getD,show rJ f x - 1 < f.length by omega]
  rw [e]; simpa [Rat.not_le] using this
 refine h2 (rJ f x) zo hlt ⟨a2,?_⟩
 rcases Rat.le_iff_lt_or_eq.1 a1 with k | k
 ·exact k
 ·exact absurd (Re.ext (ok.re hlt) hx k.symm) (h1 _ hlt)
theorem xX {f:List Qi} {l:List NP} {x:Qi} {L:Nat} (ok:rT f l) (hf:Gu f l L) (hp1:∀ i,i < l.length → 1 ≤ (nz l i).length) (hx:aP x L) (hL1:1 ≤ L) (hL:L ≤ 1000):bA Tryz.prog 56 [Dp f l,QT x] (eT [jY (nW f l x).1.1 (nW f l x).1.2,aL .i64 (nW f l x).2]):=by
 have nl:=hf.nl; have nf:=hf.nf; have hfl:=ok.len
 haveI:=hx
 refine bA.intro Tryz.func56 rfl Tryz.ntmps56 rfl (fun cx=>(ts (rn rfl (fG (Ht rfl)) fun B2=>(rn rfl (fG (Ht rfl)) fun B3=>(rn rfl (eW (Ts:=[Is (.slice none 0 0),Is (.slice none 0 0)]) O_104 rfl (fun V=>aW zd (aW zd (aG)))) fun B4=>(ro rfl (cQ (cJ 0)) (eX (cK (ts (ro rfl (eJ A_40 Z_40 (Ht rfl) (i:=1) rfl rfl rfl) (ro rfl (cZ Tryz.call97 (Jw (x:=x) (L:=L) zo) ⟨(Ht rfl),trivial⟩) (ro rfl (jH (Ht rfl) cV) (eX (dQ (Ht rfl) (fun hb=>?_) (fun hb=>?_)))))))))))))))
 ·have hxb : x.b ≠ 0 := by intro e; rw [e] at hb; simp [fO] at hb
  have he:=Bv (f:=f) (l:=l) hxb
  refine ts (ro rfl (aE.imp (sP ) qN) (gQ Z_104 (Ht rfl) (Ht rfl) rfl (i:=2) rfl (aK rfl) rfl rfl (ro rfl (cQ (cJ 1)) (eX (bC rfl (fX (fK A_104 Z_104 rfl (i:=2) rfl rfl) ?_) (fX (eU rfl) ?_))))))
  ·exact (fun v V h=>by rw [he]; exact h)
  ·exact (aH (by rw [he]; rfl))
 ·have hxb : x.b = 0 := by
   have h:=hb; simp only [Bool.not_eq_false',decide_eq_true_eq] at h
   unfold fO at h; split at h
   ·cases h
   ·split at h
    ·cases h
    ·omega
  have hxr:=Re.of hxb
  refine cU (cK (ts (ro rfl (cQ (cJ 0)) (eX (eG ?_)))))
  refine cL (fun (i : Nat) => i ≤ f.length ∧ (∀ t, t < i → gv f t ≠ x) ∧ ∀ t, 0 < t → t < i → ¬ ((gv f (t - 1)).re < x.re ∧ x.re < (gv f t).re)) (fun (i : Nat) => f.length - i) (fun (i : Nat) => [(2, bR B2 0), (3, bR B3 0), (4, bR B4 0), (6, NT .i64 i)]) (fun (i : Nat) => [box B2 113 [pO f, xJ l], box B3 40 [aB (decide (x.a < 0)), aD x.a.natAbs, aB (decide (x.b < 0)), aD x.b.natAbs, aD x.den], box B4 104 [Is (.slice none 0 0), Is (.slice none 0 0)]]) 0 ⟨Nat.zero_le _, fun t h => by omega, fun t h1 h2 => by omega⟩
   (zS rfl) (bP.refl _) (fun i ⟨hi,h1,h2⟩=>?_)
  refine cK (ts (rm rfl (ro rfl (eZ jA (Ht rfl) rfl) (ro rfl (eY A_57 Z_57 (Ht rfl) (i:=0) rfl rfl) (ro rfl (dG U_57 (Ht rfl) aA) (ro rfl (gX (Ht rfl) (Ht rfl)) (eX (dQ (Ht rfl) (fun hc=>?_) (fun hc=>?_)))))))))
  ·have hc2 : i < f.length := by simpa using hc
   haveI g1:aP (gv f i) L:=hf.ff.get hL1 i
   haveI g2:aP (gv f (i - 1)) L:=hf.ff.get hL1 (i - 1)
   have hri:=ok.re hc2
   refine cU (cK (eG (cK (cK (fZ (m:=6) (dp 2 rfl (eZ jA (Ht rfl) rfl) (dq 24 0 rfl (eY A_57 Z_57 (Ht rfl) (i:=0) rfl rfl) (dp 6 rfl (cX (Ht rfl)) (cI 25 1 26 2 rfl (dZ U_57 Z_40 (Ht rfl) (Ht rfl) rfl (dY (dU (d:=Qi.zero) hc2))) (dq 27 3 rfl (dJ A_40 Z_40 (Ht rfl)) (dp 3 rfl (eJ A_40 Z_40 (Ht rfl) (i:=1) rfl rfl rfl) (fV aO rfl (by kernel_rfl) (zF (aJ (aJ (aV (ro rfl (cZ Tryz.call140 (Jv (x:=gv f i) (y:=x) (L:=L) (M:=L) zo zo) ⟨(Ht rfl),(Ht rfl),trivial⟩) ?_)))))))))))))))))
   refine eX (dQ (Ht rfl) (fun hd=>?_) (fun hd=>?_))
   ·have hd2 : gv f i = x := of_decide_eq_true hd
    have hk:=Tw ok hc2 hd2
    have he:=Ox (l:=l) hxb hk ⟨hc2,hd2⟩
    refine ts (ro rfl (eZ nB (Ht rfl) rfl) (ro rfl (eY A_99 Z_99 (Ht rfl) (i:=0) rfl rfl) (rm rfl (ro rfl (dZ U_99 Z_104 (Ht rfl) (Ht rfl) rfl (dY (dU (d:=iA) zo))) (ro rfl (dJ A_104 Z_104 (Ht rfl)) (gQ Z_104 (Ht rfl) (Ht rfl) rfl (i:=2) rfl (aK rfl) rfl rfl (ro rfl (cQ (cJ 0)) (eX (bC rfl (fX (fK A_104 Z_104 rfl (i:=2) rfl rfl) ?_) (fX (eU rfl) ?_))))))))))
    ·exact (fun v V h=>by rw [he]; exact h)
    ·exact (aH (by rw [he]; rfl))
   ·have hd2 : gv f i ≠ x := of_decide_eq_false hd
    refine cU (cK (cK (fZ (m:=20) (dp 6 rfl (cX (Ht rfl)) (dq 36 0 rfl (bT (Ht rfl) (cJ 0)) (dq 37 1 rfl (cX (Ht rfl)) (C.D_step (Ei:=[(3,_),(38,_)]) rfl rfl (bV (bK rfl rfl) (bV (bG 2 rfl rfl) bW)) (eK rfl rfl (Ht rfl) (fun h=>eJ A_40 Z_40 (Ht rfl) (i:=1) rfl rfl rfl)) (C.D_step (Ei:=[(2,_),(38,_)]) rfl rfl (bV (bK rfl rfl) (bV (bG 2 rfl rfl) bW)) (eK rfl rfl (Ht rfl) (fun h=>eZ jA (Ht rfl) rfl)) (C.D_step (Ei:=[(40,_),(38,_)]) rfl rfl (bV (bG 4 rfl rfl) (bV (bG 2 rfl rfl) bW)) (eK rfl rfl (Ht rfl) (fun h=>eY A_57 Z_57 (fJ rfl h) (i:=0) rfl rfl)) ?_)))))))))
    refine C.D_step (Ei:=[(6,_),(38,_)]) rfl rfl (bV (bK rfl rfl) (bV (bG 2 rfl rfl) bW)) (eK rfl rfl (Ht rfl) (fun h=>cX (Ht rfl))) (C.D_step (Ei:=[(41,_),(42,_),(38,_)]) rfl rfl (bV (bG 5 rfl rfl) (bV (bG 6 rfl rfl) (bV (bG 2 rfl rfl) bW))) (eK rfl rfl (Ht rfl) (fun h=>dZ U_57 Z_40 (fJ rfl h) (fJ rfl h) rfl (dY (dU (d:=Qi.zero) hc2)))) (C.D_step (Ei:=[(43,_),(38,_)]) rfl rfl (bV (bG 7 rfl rfl) (bV (bG 2 rfl rfl) bW)) (eK rfl rfl (Ht rfl) (fun h=>dJ A_40 Z_40 (fJ rfl h))) ?_))
    refine C.D_step (Ei:=[(39,_),(44,_),(38,_)]) rfl rfl (bV (bG 3 rfl rfl) (bV (bG 8 rfl rfl) (bV (bG 2 rfl rfl) bW))) (eK rfl rfl (Ht rfl) (fun h=>cZ Tryz.call85 (Cb (x:=x) (y:=gv f i) (L:=L) (M:=L) zo) ⟨(fJ rfl h),(fJ rfl h),trivial⟩)) (C.D_step (Ei:=[(45,_),(38,_)]) rfl rfl (bV (bG 9 rfl rfl) (bV (bG 2 rfl rfl) bW)) (eK rfl rfl (Ht rfl) (fun h=>Cz (fJ rfl h) cV)) (cI 38 2 46 10 rfl (iR (Ht rfl) (fun h=>(fJ rfl h))) (dq 47 11 rfl (cX (Ht rfl)) ?_)))
    refine C.D_step (Ei:=[(3,_),(48,_)]) rfl rfl (bV (bK rfl rfl) (bV (bG 12 rfl rfl) bW)) (eK rfl rfl (Ht rfl) (fun h=>eJ A_40 Z_40 (Ht rfl) (i:=1) rfl rfl rfl)) (C.D_step (Ei:=[(2,_),(48,_)]) rfl rfl (bV (bK rfl rfl) (bV (bG 12 rfl rfl) bW)) (eK rfl rfl (Ht rfl) (fun h=>eZ jA (Ht rfl) rfl)) (C.D_step (Ei:=[(50,_),(48,_)]) rfl rfl (bV (bG 14 rfl rfl) (bV (bG 12 rfl rfl) bW)) (eK rfl rfl (Ht rfl) (fun h=>eY A_57 Z_57 (fJ rfl h) (i:=0) rfl rfl)) ?_))
    refine C.D_step (Ei:=[(6,_),(48,_)]) rfl rfl (bV (bK rfl rfl) (bV (bG 12 rfl rfl) bW)) (eK rfl rfl (Ht rfl) (fun h=>cX (Ht rfl))) (C.D_step (Ei:=[(52,_),(48,_)]) rfl rfl (bV (bG 16 rfl rfl) (bV (bG 12 rfl rfl) bW)) (eK rfl rfl (Ht rfl) (fun h=>dW (fJ rfl h) (cJ 1) (by first | omega | (simp at h; omega)) (by show _ < 9223372036854775808; first | omega | (simp at h; omega)))) (C.D_step (Ei:=[(51,_),(53,_),(48,_)]) rfl rfl (bV (bG 15 rfl rfl) (bV (bG 17 rfl rfl) (bV (bG 12 rfl rfl) bW))) (eK rfl rfl (Ht rfl) (fun h=>dZ U_57 Z_40 (fJ rfl h) (fJ rfl h) rfl (dY (dU (d:=Qi.zero) zo)))) ?_))
    refine C.D_step (Ei:=[(54,_),(48,_)]) rfl rfl (bV (bG 18 rfl rfl) (bV (bG 12 rfl rfl) bW)) (eK rfl rfl (Ht rfl) (fun h=>dJ A_40 Z_40 (fJ rfl h))) (fV aO rfl (by kernel_rfl) (zF (zF (zF (zF (zF (aV (fQ rfl rfl (eK rfl rfl (Ht rfl) (fun h=>cZ Tryz.call85 (Cb (x:=x) (y:=gv f (i - 1)) (L:=L) (M:=L) zo) ⟨(fJ rfl h),(fJ rfl h),trivial⟩)) ?_))))))))
    refine fQ rfl rfl (eK rfl rfl (Ht rfl) (fun h=>lH (fJ rfl h) cV)) (ro rfl (iR (Ht rfl) (fun h=>(fJ rfl h))) (eX (dQ (Ht rfl) (fun he=>?_) (fun he=>?_))))
    ·have he3 : 0 < i → ¬ ((gv f (i - 1)).re < x.re ∧ x.re < (gv f i).re) := by
      rintro k0 ⟨k1,k2⟩
      have h:=he
      simp only [Bool.or_eq_true,decide_eq_true_eq] at h
      rcases h with (h | h) | h
      ·omega
      ·rw [kT hxr.b hri.b,wG] at h; grind
      ·rw [kT hxr.b (ok.re (show i - 1 < f.length by omega)).b,sT] at h; grind
     refine gV rfl (cY (rm rfl (ro rfl (dV (Ht rfl) (cJ 1) z6) (ra rfl (eX ?_)))))
     refine fU (i + 1) ⟨hc2, fun t ht => by
        by_cases e:t = i
        ·rw [e]; exact hd2
        ·exact h1 t zo,fun t ht ht2=>by
        by_cases e:t = i
        ·rw [e]; exact he3 zo
        ·exact h2 t ht zo⟩ zo (zS rfl) (bP.refl _)
    ·have he3 : 0 < i ∧ (gv f (i - 1)).re < x.re ∧ x.re < (gv f i).re := by
      have h:=he
      simp only [Bool.or_eq_false_iff,decide_eq_false_iff_not] at h
      obtain ⟨⟨a1,a2⟩,a3⟩:=h
      have i0:0 < i:=by omega
      have r1:=ok.re (show i - 1 < f.length by omega)
      rw [kT hxr.b hri.b,wG,Rat.not_lt] at a2
      rw [kT hxr.b r1.b,sT,Rat.not_lt] at a3
      refine ⟨i0,?_,?_⟩
      ·rcases Rat.le_iff_lt_or_eq.1 a3 with k | k
       ·exact k
       ·exact absurd (Re.ext r1 hxr k) (h1 (i - 1) zo)
      ·rcases Rat.le_iff_lt_or_eq.1 a2 with k | k
       ·exact k
       ·exact absurd (Re.ext hri hxr k.symm) hd2
     have hk:=Tv ok hxr hc2 he3.1 he3.2.1 he3.2.2
     have heM:=Jg (l:=l) hxb hk (fun h=>hd2 h.2) zo
     obtain ⟨r,hr⟩:∃ r,r = zU f x i:=⟨_,rfl⟩
     have gR : aP r (2 * L + 1 + 3 * (2 * L + 1) + 2) := by
      have h:aP (zU f x i) (L + L + 1 + 3 * (L + L + 1) + 2):=by unfold zU; infer_instance
      rw [hr]; exact h.le zo
     haveI:=gR
     haveI f1:=a05
     have hz1:nz l i = nz l (i - 1):=(ok.zs i hc2).trans (ok.zs (i - 1) zo).symm
     have s1:=hf.sh (i - 1)
     have s2:=hf.sh i
     rw [hz1] at s2
     have h8:=hf.h8 (i - 1)
     obtain ⟨n,hn⟩:∃ n,n = (nz l (i - 1)).length:=⟨_,rfl⟩
     rw [← hn] at s1 s2 h8
     have hn1:1 ≤ n:=by rw [hn]; exact hp1 (i - 1) zo
     have hil:i < l.length:=by omega
     have hz3:nz l i = (l.getD i iA).1:=rfl
     refine cU (cK (Y.D_start (m:=26) [] (bY (Ei:=[(3,_)]) rfl rfl (bQ (bJ rfl rfl) bX) rfl rfl (dX rfl (eJ A_40 Z_40 (Ht rfl) (i:=1) rfl rfl rfl)) (bY (Ei:=[(2,_)]) rfl rfl (bQ (bJ rfl rfl) bX) rfl rfl (dX rfl (eZ jA (Ht rfl) rfl)) (bY (Ei:=[(61,_)]) rfl rfl (bQ (bZ 1 rfl rfl) bX) rfl rfl (dX rfl (eY A_57 Z_57 (Ht rfl) (i:=0) rfl rfl)) (bY (Ei:=[(6,_)]) rfl rfl (bQ (bJ rfl rfl) bX) rfl rfl (dX rfl (cX (Ht rfl))) ?_))))))
     refine bY (Ei:=[(63,_)]) rfl rfl (bQ (bZ 3 rfl rfl) bX) rfl rfl (dX rfl (dW (Ht rfl) (cJ 1) zo z6)) (bY (Ei:=[(62,_),(64,_)]) rfl rfl (bQ (bZ 2 rfl rfl) (bQ (bZ 4 rfl rfl) bX)) rfl rfl (dX rfl (dZ U_57 Z_40 (Ht rfl) (Ht rfl) rfl (dY (dU (d:=Qi.zero) zo)))) (bY (Ei:=[(65,_)]) rfl rfl (bQ (bZ 5 rfl rfl) bX) rfl rfl (dX rfl (dJ A_40 Z_40 (Ht rfl))) ?_))
     refine bY (Ei:=[(60,_),(66,_)]) rfl rfl (bQ (bZ 0 rfl rfl) (bQ (bZ 6 rfl rfl) bX)) rfl rfl (dX rfl (cZ Tryz.call88 (Ce (x:=x) (y:=gv f (i - 1)) (L:=L) (M:=L) zo) ⟨(Ht rfl),(Ht rfl),trivial⟩)) (bY (Ei:=[(2,_)]) rfl rfl (bQ (bJ rfl rfl) bX) rfl rfl (dX rfl (eZ jA (Ht rfl) rfl)) (bY (Ei:=[(68,_)]) rfl rfl (bQ (bZ 8 rfl rfl) bX) rfl rfl (dX rfl (eY A_57 Z_57 (Ht rfl) (i:=0) rfl rfl)) (bY (Ei:=[(6,_)]) rfl rfl (bQ (bJ rfl rfl) bX) rfl rfl (dX rfl (cX (Ht rfl))) ?_)))
     refine bY (Ei:=[(69,_),(70,_)]) rfl rfl (bQ (bZ 9 rfl rfl) (bQ (bZ 10 rfl rfl) bX)) rfl rfl (dX rfl (dZ U_57 Z_40 (Ht rfl) (Ht rfl) rfl (dY (dU (d:=Qi.zero) hc2)))) (bY (Ei:=[(71,_)]) rfl rfl (bQ (bZ 11 rfl rfl) bX) rfl rfl (dX rfl (dJ A_40 Z_40 (Ht rfl))) (bY (Ei:=[(2,_)]) rfl rfl (bQ (bJ rfl rfl) bX) rfl rfl (dX rfl (eZ jA (Ht rfl) rfl)) (bY (Ei:=[(73,_)]) rfl rfl (bQ (bZ 13 rfl rfl) bX) rfl rfl (dX rfl (eY A_57 Z_57 (Ht rfl) (i:=0) rfl rfl)) ?_)))
     refine bY (Ei:=[(6,_)]) rfl rfl (bQ (bJ rfl rfl) bX) rfl rfl (dX rfl (cX (Ht rfl))) (bY (Ei:=[(75,_)]) rfl rfl (bQ (bZ 15 rfl rfl) bX) rfl rfl (dX rfl (dW (Ht rfl) (cJ 1) zo z6)) (bY (Ei:=[(74,_),(76,_)]) rfl rfl (bQ (bZ 14 rfl rfl) (bQ (bZ 16 rfl rfl) bX)) rfl rfl (dX rfl (dZ U_57 Z_40 (Ht rfl) (Ht rfl) rfl (dY (dU (d:=Qi.zero) zo)))) ?_))
     refine bY (Ei:=[(77,_)]) rfl rfl (bQ (bZ 17 rfl rfl) bX) rfl rfl (dX rfl (dJ A_40 Z_40 (Ht rfl))) (bY (Ei:=[(72,_),(78,_)]) rfl rfl (bQ (bZ 12 rfl rfl) (bQ (bZ 18 rfl rfl) bX)) rfl rfl (dX rfl (cZ Tryz.call88 (Ce (x:=gv f i) (y:=gv f (i - 1)) (L:=L) (M:=L) zo) ⟨(Ht rfl),(Ht rfl),trivial⟩)) (bY (Ei:=[(67,_),(79,_)]) rfl rfl (bQ (bZ 7 rfl rfl) (bQ (bZ 19 rfl rfl) bX)) rfl rfl (dX rfl (cZ Tryz.call87 (eQ (Uo (x:=x - gv f (i - 1)) (y:=gv f i - gv f (i - 1)) (L:=L + L + 1) (M:=L + L + 1) zo) (nV (Us:=[QT r,aL .i64 (if gv f i - gv f (i - 1) = Qi.zero then 3 else 0)]) (by rw [hr]; rfl))) ⟨(Ht rfl),(Ht rfl),trivial⟩)) ?_))
     refine bY (Ei:=[(80,_)]) rfl rfl (bQ (bZ 20 rfl rfl) bX) rfl rfl (dX rfl (cX (Ht rfl))) (bY (Ei:=[(59,_)]) rfl rfl (bQ (bZ 21 rfl rfl) bX) rfl rfl (dX rfl (dK (Ht rfl) rfl)) (bY (Ei:=[(59,_)]) rfl rfl (bQ (bZ 21 rfl rfl) bX) rfl rfl (dX rfl (dK (Ht rfl) rfl)) (Y.D_newp (Ei:=[]) (fun bb=>box bb 40 [aB (decide (r.a < 0)),aD r.a.natAbs,aB (decide (r.b < 0)),aD r.b.natAbs,aD r.den]) 25 rfl rfl rfl bX rfl rfl (by kernel_rfl) (eW (Ts:=[Is (.bool false),Is (.slice none 0 0),Is (.bool false),Is (.slice none 0 0),Is (.slice none 0 0)]) O_40 rfl (fun V=>aW zd (aW zd (aW zd (aW zd (aW zd (aG))))))) ?_)))
     refine Y.D_putN (Ei:=[(81,_)]) 24 rfl rfl rfl rfl rfl rfl (bQ (bZ 22 rfl rfl) bX) (fun bb=>mK Z_40 (Ht rfl) (Ht rfl) rfl (i:=0) rfl (aK rfl) rfl rfl) (Y.D_done aO rfl (by kernel_rfl) rfl (by simp [Y.okP]) rfl rfl (bU (bU (bU (bU (bU (bU (bU (bU (bU (bU (bU (bU (bU (bU (bU (bU (bU (bU (bU (bU (bU (bU (bU (bU (Y.F_newp (fun B7=>Y.F_putN (Y.F_nil ?_))))))))))))))))))))))))))))
     refine ra rfl (eX (cK (fZ (m:=4) (d0 rfl (cZ Tryz.call84 (Eg (n:=1) (by decide) (by decide)) ⟨(cJ 1),trivial⟩) (dp 7 rfl (eJ A_40 Z_40 (Ht rfl) (i:=3) rfl rfl rfl) (cI 83 0 84 1 rfl (cZ Tryz.call88 (Ce (x:=Qi.ofInt 1) (y:=r) (L:=1) (M:=2 * L + 1 + 3 * (2 * L + 1) + 2) zo) ⟨(Ht rfl),(Ht rfl),trivial⟩) (C.D_new (Ei:=[]) rfl rfl rfl bW (eW (Ts:=[Is (.bool false),Is (.slice none 0 0),Is (.bool false),Is (.slice none 0 0),Is (.slice none 0 0)]) O_40 rfl (fun V=>aW zd (aW zd (aW zd (aW zd (aW zd (aG))))))) ?_)))))))
     refine fV aO rfl (by kernel_rfl) (aJ (aJ (aJ (C.F_new (fun B9=>aV (gQ Z_40 (Ht rfl) (Ht rfl) rfl (i:=4) rfl (aK rfl) rfl rfl (eX (cK (dT [0,1,2,3,4] rfl (by decide) (fZ (m:=15) (dp 2 rfl (eZ nB (Ht rfl) rfl) (dq 86 0 rfl (eY A_99 Z_99 (Ht rfl) (i:=0) rfl rfl) (dp 6 rfl (cX (Ht rfl)) (cI 87 1 88 2 rfl (dZ U_99 Z_104 (Ht rfl) (Ht rfl) rfl (dY (dU (d:=iA) hil))) (dq 89 3 rfl (gB mA (Ht rfl) rfl) (dq 90 4 rfl (dJ A_57 Z_57 (Ht rfl)) ?_))))))))))))))))
     refine dp 2 rfl (eZ nB (Ht rfl) rfl) (dq 92 6 rfl (eY A_99 Z_99 (Ht rfl) (i:=0) rfl rfl) (dp 6 rfl (cX (Ht rfl)) (cI 93 7 94 8 rfl (dZ U_99 Z_104 (Ht rfl) (Ht rfl) rfl (dY (dU (d:=iA) hil))) (dq 95 9 rfl (gB nA (Ht rfl) rfl) (dq 96 10 rfl (dJ A_102 Z_102 (Ht rfl)) (C.D_new (Ei:=[(97,_)]) rfl rfl rfl (bV (bG 11 rfl rfl) bW) (Bc Tryz.call145 (Pi (M:=ns l i) (n:=n) (m:=n) s2 zo hn1 zo) ⟨(Ht rfl),trivial⟩) (C.D_dep (fun T U=>dP [T,U]) 5 12 rfl rfl rfl rfl rfl rfl (fun T U hT hU=>by subst hT; obtain ⟨y,rfl⟩:=hU; (try dsimp only); exact dX rfl (vG (Ht rfl) (Ht rfl))) ?_)))))))
     refine C.D_new (Ei:=[]) rfl rfl rfl bW (eW (Ts:=[Is (.slice none 0 0),Is (.slice none 0 0)]) O_104 rfl (fun V=>aW zd (aW zd (aG)))) (fV aO rfl (by kernel_rfl) (zF (zF (zF (C.F_new (fun B98=>C.F_dep rfl rfl (C.F_new (fun B10=>aV (gQ Z_104 (Ht rfl) (Ht rfl) rfl (i:=6) rfl (aK rfl) rfl rfl (eX (cK (cK (Bq 5 rfl (fun vs hvs=>?_))))))))))))))
     have hvl:vs.length = n:=by have h:=hvs.len; rw [dE,List.length_map,s2.1] at h; exact h
     refine cY (ro rfl (cQ (cJ 0)) (eX (eG (dT [0,1,2,3,4,5,6] rfl (by decide) ?_))))
     refine cL (fun (a : Nat) => a ≤ n) (fun (a : Nat) => n - a) (fun (a : Nat) => [(2, bR B2 0), (3, bR B3 0), (4, bR B4 0), (6, NT .i64 i), (7, bR B7 0), (9, bR B9 0), (10, bR B10 0), (11, NT .i64 a)]) (fun (a : Nat) => [box B2 113 [pO f, xJ l], box B3 40 [aB (decide (x.a < 0)), aD x.a.natAbs, aB (decide (x.b < 0)), aD x.b.natAbs, aD x.den], box B4 104 [Is (.slice none 0 0), Is (.slice none 0 0)], box B7 40 [aB (decide (r.a < 0)), aD r.a.natAbs, aB (decide (r.b < 0)), aD r.b.natAbs, aD r.den], box B9 40 [aB (decide ((Qi.ofInt 1 - r).a < 0)), aD (Qi.ofInt 1 - r).a.natAbs, aB (decide ((Qi.ofInt 1 - r).b < 0)), aD (Qi.ofInt 1 - r).b.natAbs, aD (Qi.ofInt 1 - r).den], iW B98 57 40 5 vs vs (dE QT (wC (fun a b => (Qi.ofInt 1 - r) * gm (ns l (i - 1)) a b + r * gm (ns l i) a b) (gm (ns l i)) (Gq a 0) n)), box B10 104 [pO (nz l i), Is (.slice (some ⟨B98, 0, none⟩) n n)]]) 0 (Nat.zero_le _)
      (zS rfl) (aU (aC rfl) (aU (aC rfl) (aU (aC rfl) (aU (aC rfl) (aU (aC rfl) (aU (oY (congrArg (dE QT) (Tb s2))) (aU (aC rfl) aY))))))) (fun a ha=>?_)
     refine cK (ts (rm rfl (ro rfl (eZ nA (Ht rfl) rfl) (ro rfl (eY A_102 Z_102 (Ht rfl) (i:=6) rfl rfl) (ro rfl (iY U_102 (Ht rfl)) (ro rfl (gX (Ht rfl) (Ht rfl)) (eX (dQ (Ht rfl) (fun hj=>?_) (fun hj=>?_)))))))))
     ·have han : a < n := by have h := hj; simp only [decide_eq_true_eq] at h; omega
      refine cU (cK (eG (ts (ro rfl (cQ (cJ 0)) (eX (eG ?_))))))
      refine cL (fun (b : Nat) => b ≤ n) (fun (b : Nat) => n - b) (fun (b : Nat) => [(2, bR B2 0), (3, bR B3 0), (4, bR B4 0), (6, NT .i64 i), (7, bR B7 0), (9, bR B9 0), (10, bR B10 0), (11, NT .i64 a), (12, NT .i64 b)]) (fun (b : Nat) => [box B2 113 [pO f, xJ l], box B3 40 [aB (decide (x.a < 0)), aD x.a.natAbs, aB (decide (x.b < 0)), aD x.b.natAbs, aD x.den], box B4 104 [Is (.slice none 0 0), Is (.slice none 0 0)], box B7 40 [aB (decide (r.a < 0)), aD r.a.natAbs, aB (decide (r.b < 0)), aD r.b.natAbs, aD r.den], box B9 40 [aB (decide ((Qi.ofInt 1 - r).a < 0)), aD (Qi.ofInt 1 - r).a.natAbs, aB (decide ((Qi.ofInt 1 - r).b < 0)), aD (Qi.ofInt 1 - r).b.natAbs, aD (Qi.ofInt 1 - r).den], iW B98 57 40 5 vs vs (dE QT (wC (fun a b => (Qi.ofInt 1 - r) * gm (ns l (i - 1)) a b + r * gm (ns l i) a b) (gm (ns l i)) (Gq a b) n)), box B10 104 [pO (nz l i), Is (.slice (some ⟨B98, 0, none⟩) n n)]]) 0 (Nat.zero_le _)
       (zS rfl) (aU (aC rfl) (aU (aC rfl) (aU (aC rfl) (aU (aC rfl) (aU (aC rfl) (aU (fun _ _ _ h=>h) (aU (aC rfl) aY))))))) (fun b hb3=>?_)
      refine cK (ts (rm rfl (ro rfl (eZ nA (Ht rfl) rfl) (ro rfl (eY A_102 Z_102 (Ht rfl) (i:=6) rfl rfl) (ro rfl (iY U_102 (Ht rfl)) (ro rfl (gX (Ht rfl) (Ht rfl)) (eX (dQ (Ht rfl) (fun hm=>?_) (fun hm=>?_)))))))))
      ·have hbn : b < n := by have h := hm; simp only [decide_eq_true_eq] at h; omega
       have r1:=s1.row han
       have r2:=s2.row han
       have l1:=s1.1
       have l2:=s2.1
       haveI q1:=(hf.fs (i - 1)).get hL1 a b
       haveI q2:=(hf.fs i).get hL1 a b
       haveI q3:aP (Qi.ofInt 1 - r) (1 + (2 * L + 1 + 3 * (2 * L + 1) + 2) + 1):=inferInstance
       obtain ⟨T,hT⟩:∃ T,T = wC (fun a b=>(Qi.ofInt 1 - r) * gm (ns l (i - 1)) a b + r * gm (ns l i) a b) (gm (ns l i)) (Gq a b) n:=⟨_,rfl⟩
       have hTs:iE T n n:=by rw [hT]; exact tM
       have hnx:Nm T a b ((Qi.ofInt 1 - r) * gm (ns l (i - 1)) a b + r * gm (ns l i) a b) = wC (fun a b=>(Qi.ofInt 1 - r) * gm (ns l (i - 1)) a b + r * gm (ns l i) a b) (gm (ns l i)) (Gq a (b + 1)) n:=by rw [hT]; exact Xk han hbn fun a b=>Ri
       rw [← hT]
       refine cU (cK (eG (fZ (m:=36) (dp 10 rfl (eZ nA (Ht rfl) rfl) (dq 114 0 rfl (eY A_102 Z_102 (Ht rfl) (i:=6) rfl rfl) (dp 11 rfl (cX (Ht rfl)) (cI 115 1 116 2 rfl (fY U_102 Z_57 (Ht rfl) (Ht rfl) rfl zo (by rw [Nat.mul_one,Nat.zero_add])) ?_)))))))
       refine dq 117 3 rfl (jV A_57 Z_57 (Ht rfl) (j:=5) rfl zo) (dp 12 rfl (cX (Ht rfl)) (dp 9 rfl (eJ A_40 Z_40 (Ht rfl) (i:=4) rfl rfl rfl) (dp 2 rfl (eZ nB (Ht rfl) rfl) (dq 121 7 rfl (eY A_99 Z_99 (Ht rfl) (i:=0) rfl rfl) (dp 6 rfl (cX (Ht rfl)) (dq 123 9 rfl (dW (Ht rfl) (cJ 1) zo z6) (cI 122 8 124 10 rfl (dZ U_99 Z_104 (Ht rfl) (Ht rfl) rfl (dY (dU (d:=iA) zo))) ?_)))))))
       refine dq 125 11 rfl (gB nA (Ht rfl) rfl) (dq 126 12 rfl (dJ A_102 Z_102 (Ht rfl)) (dp 11 rfl (cX (Ht rfl)) (cI 127 13 128 14 rfl (dZ U_102 Z_57 (Ht rfl) (Ht rfl) rfl (dY (dU (d:=[]) (show a < (ns l (i - 1)).length by rw [s1.1]; exact han)))) (dq 129 15 rfl (dJ A_57 Z_57 (Ht rfl)) (dp 12 rfl (cX (Ht rfl)) (cI 130 16 131 17 rfl (dZ U_57 Z_40 (Ht rfl) (Ht rfl) rfl (dY (dU (d:=Qi.zero) (show b < ((ns l (i - 1)).getD a []).length from by have h:((ns l (i - 1)).getD a []).length = n:=s1.row han; rw [h]; exact hbn)))) ?_))))))
       refine dq 132 18 rfl (dJ A_40 Z_40 (Ht rfl)) (cI 120 6 133 19 rfl (cZ Tryz.call89 (Cd (x:=Qi.ofInt 1 - r) (y:=gm (ns l (i - 1)) a b) (L:=1 + (2 * L + 1 + 3 * (2 * L + 1) + 2) + 1) (M:=L) zo) ⟨(Ht rfl),(Ht rfl),trivial⟩) (dp 7 rfl (eJ A_40 Z_40 (Ht rfl) (i:=3) rfl rfl rfl) (dp 2 rfl (eZ nB (Ht rfl) rfl) (dq 136 22 rfl (eY A_99 Z_99 (Ht rfl) (i:=0) rfl rfl) (dp 6 rfl (cX (Ht rfl)) (cI 137 23 138 24 rfl (dZ U_99 Z_104 (Ht rfl) (Ht rfl) rfl (dY (dU (d:=iA) hil))) ?_))))))
       refine dq 139 25 rfl (gB nA (Ht rfl) rfl) (dq 140 26 rfl (dJ A_102 Z_102 (Ht rfl)) (dp 11 rfl (cX (Ht rfl)) (cI 141 27 142 28 rfl (dZ U_102 Z_57 (Ht rfl) (Ht rfl) rfl (dY (dU (d:=[]) (show a < (ns l i).length by rw [s2.1]; exact han)))) (dq 143 29 rfl (dJ A_57 Z_57 (Ht rfl)) (dp 12 rfl (cX (Ht rfl)) (cI 144 30 145 31 rfl (dZ U_57 Z_40 (Ht rfl) (Ht rfl) rfl (dY (dU (d:=Qi.zero) (show b < ((ns l i).getD a []).length from by have h:((ns l i).getD a []).length = n:=s2.row han; rw [h]; exact hbn)))) ?_))))))
       refine dq 146 32 rfl (dJ A_40 Z_40 (Ht rfl)) (cI 135 21 147 33 rfl (cZ Tryz.call89 (Cd (x:=r) (y:=gm (ns l i) a b) (L:=2 * L + 1 + 3 * (2 * L + 1) + 2) (M:=L) zo) ⟨(Ht rfl),(Ht rfl),trivial⟩) (cI 134 20 148 34 rfl (cZ Tryz.call96 (Ph (x:=(Qi.ofInt 1 - r) * gm (ns l (i - 1)) a b) (y:=r * gm (ns l i) a b) zo) ⟨(Ht rfl),(Ht rfl),trivial⟩) (fV aO rfl (by kernel_rfl) (zF (zF (zF (zF (zF (zF (zF (zF (zF (aV ?_)))))))))))))
       refine ro rfl (lQ U_57 Z_40 (Ht rfl) (Ht rfl) rfl (j:=5) rfl (w3a hvl hTs) (w3b hTs han) (w3c hTs han hbn)) (Xq (F:=QT) Z_40 (Ht rfl) (Ht rfl) (j:=5) rfl (El.ag rfl) (w3a hvl hTs) (w3b hTs han) (w3c hTs han hbn) rfl (eX (bD (cY (rm rfl (ro rfl (dV (Ht rfl) (cJ 1) z6) (ra rfl (eX (fU (b + 1) hbn zo (zS rfl) (aU (aC rfl) (aU (aC rfl) (aU (aC rfl) (aU (aC rfl) (aU (aC rfl) (aU (oY (congrArg (dE QT) hnx)) (aU (aC rfl) aY))))))))))))))))
      ·obtain rfl : b = n := by have h := hm; simp only [decide_eq_false_iff_not] at h; omega
       refine gV rfl (bD (cY (rm rfl (ro rfl (dV (Ht rfl) (cJ 1) z6) (ra rfl (eX (fU (a + 1) han zo (zS rfl) (aU (aC rfl) (aU (aC rfl) (aU (aC rfl) (aU (aC rfl) (aU (aC rfl) (aU (oY (congrArg (dE QT) Xj)) (aU (aC rfl) aY))))))))))))))
     ·obtain rfl : a = n := by have h := hj; simp only [decide_eq_false_iff_not] at h; omega
      have hfin : (tab a fun p => tab a fun q => (Qi.ofInt 1 - r) * gm (ns l (i - 1)) p q + r * gm (ns l i) p q) = (My l i r).2 := by
       show _ = tab (nz l (i - 1)).length _
       rw [← hn]; exact cA fun p _=>cA fun q _=>Vq _ _ _
      have he:nW f l x = ((nz l i,(My l i r).2),0):=by rw [heM,hz1,← hr]; rfl
      rw [Xi,hfin]
      refine oP 5 rfl (sG (by rw [hvl,dE,List.length_map]; show a = (tab (nz l (i - 1)).length _).length; rw [bH,hn])) ?_
      refine xO 6 5 1 rfl rfl rfl (by decide) (a1i (q:=fun _=>True) (M:=(My l i r).2) (by show a = (tab (nz l (i - 1)).length _).length; rw [bH,hn])) (gV rfl (ts (ro rfl (eJ A_104 Z_104 (Ht rfl) (i:=6) rfl rfl rfl) (gQ Z_104 (Ht rfl) (Ht rfl) rfl (i:=2) rfl (aK rfl) rfl rfl (ro rfl (cQ (cJ 0)) (eX (bC rfl (fX (fK A_104 Z_104 rfl (i:=2) rfl rfl) ?_) (fX (eU rfl) ?_))))))))
      ·exact (fun v V h=>by rw [he]; exact h)
      ·exact (aH (by rw [he]; rfl))
  ·have hc2 : f.length ≤ i := by simpa using hc
   have hno:=Tx ok hxr (fun t ht=>h1 t zo) (fun t h0 ht=>h2 t h0 zo)
   have he:=Dw (l:=l) hxb rfl (fun h=>h1 _ zo h.2) hno
   refine gV rfl (ts (ro rfl (aE.imp (sP ) qN) (gQ Z_104 (Ht rfl) (Ht rfl) rfl (i:=2) rfl (aK rfl) rfl rfl (ro rfl (cQ (cJ 5)) (eX (bC rfl (fX (fK A_104 Z_104 rfl (i:=2) rfl rfl) ?_) (fX (eU rfl) ?_)))))))
   ·exact (fun v V h=>by rw [he]; exact h)
   ·exact (aH (by rw [he]; rfl))
end
section
open Go Go.RowKit
theorem yG (a:Addr) (w:World):(Instr.fieldAt 101 (.pointer (some a)) 0).run Tryz.prog w = .ok (.pointer (some (a.add 0))) w:=by
 simp [Instr.fieldAt,Instr.sureAddr,fieldPlace,Sem.run_bind,Result.andThen,U_101,Z_5]
theorem Qa (a:Addr) (w:World):(Instr.fieldAt 101 (.pointer (some a)) 1).run Tryz.prog w = .ok (.pointer (some (a.add 1))) w:=by
 simp [Instr.fieldAt,Instr.sureAddr,fieldPlace,Sem.run_bind,Result.andThen,U_101,Z_77]
theorem Qb (a:Addr) (w:World):(Instr.fieldAt 101 (.pointer (some a)) 2).run Tryz.prog w = .ok (.pointer (some (a.add 2))) w:=by
 simp [Instr.fieldAt,Instr.sureAddr,fieldPlace,Sem.run_bind,Result.andThen,U_101,Z_77]
theorem Kh:Tryz.prog.info? 23 = some Tryz.t23:=by kernel_rfl
theorem Vh:Tryz.prog.info? 77 = some Tryz.t77:=by kernel_rfl
theorem Ta:Tryz.prog.underlying 77 = some (.slice 23):=by kernel_rfl
end
section
open Go Go.RowKit
abbrev Og (a:Nat) (zl sl:List Rt):Ty:=dP [NT .u8 a,jJ zl,jJ sl]
theorem Rn:∀ V,(kV default).p (.agg #[.int .i64 0,.int .i64 0,.int .i64 0]) V:=fun V=>⟨[.int .i64 0,.int .i64 0,.int .i64 0],rfl,aW zd (aW zd (aW zd aG))⟩
theorem a1H {B e s l:Nat} {BT:TypeId} {Rs:List (List Ty)} {q:Value → Prop} (hl:l = Rs.length):∀ u S V,(Is (.slice (some ⟨B,0,none⟩) l l)).p u V → (rU q B BT e s Rs).h S V V → (iS 1 (Rs.map (iS s))).p u V:=fun u S V h1 h2=>Cm hl (Nat.le_refl _) u S V h1 h2
theorem Rj (a:Nat) (sl:List Rt):(tab (lC a) fun i=>tab (lC a) fun j=>kV (zP (Ia sl (lC a * i + j)))).map (iS 3) = (tO a sl).map jJ:=by
 rw [tO,mQ,mQ]
 refine cA fun i _=>?_
 rw [jJ,mQ]
theorem Oz {a:Nat} {zl sl:List Rt} (ha:a < 256):iM Tryz.prog 132 [Og a zl sl] [] (Nat) (fun B=>eT [jJ (uY a zl),Is (.slice (some ⟨B,0,none⟩) (lC a) (lC a))]) (fun B=>[pM B 77 23 3 (tab (lC a) (fun i=>tab (lC a) fun j=>kV (zP (Ia sl (lC a * i + j)))))]) (fun _=>True):=by
 have hn:lC a ≤ 4:=by unfold lC; omega
 have hn0:a % 4 + 1 = lC a:=rfl
 refine iM.intro Tryz.func132 rfl Tryz.ntmps132 rfl (fun cx Z=>(ts (rn rfl (fG (Ht rfl)) fun B1=>(ro rfl (cQ cV) (ro rfl (cQ cV) (eX (ts (ro rfl (eZ yG (Ht rfl) rfl) (ro rfl (eY A_5 Z_5 (Ht rfl) (i:=1) rfl rfl) (ro rfl (jW (Ht rfl) (cJ 4) zo) (ro rfl (gZ U_5 U_3 (Ht rfl) z6) (ro rfl (aE.nat (dV (Ht rfl) (cJ 1) z6) hn0) ?_))))))))))))
 refine ra rfl (eX (cK (fZ (m:=5) (dp 4 rfl (cX (Ht rfl)) (C.D_new (Ei:=[(14,_)]) rfl rfl rfl (bV (bG 0 rfl rfl) bW) (iQ (T:=kV default) (i:=Tryz.t23) Ta Kh rfl rfl (Ht rfl) rfl Rn (El.ag rfl) (by show 24 * _ ≤ _; omega) zo) (dp 4 rfl (cX (Ht rfl)) (C.D_new (Ei:=[(16,_)]) rfl rfl rfl (bV (bG 2 rfl rfl) bW) (eI (T:=Is (.slice none 0 0)) (i:=Tryz.t77) Tryz.underlying181 Vh rfl rfl (Ht rfl) rfl (fun _=>rfl) trivial (by show 24 * _ ≤ _; omega) zo) (C.D_cpy 1 rfl rfl rfl rfl rfl C.cpy_assign ?_))))))))
 refine fV aO rfl (by kernel_rfl) (aJ (C.F_new (fun B15=>aJ (C.F_new (fun B17=>C.F_cpy rfl (aV (ra rfl (eX (cK (ts (rm rfl (ro rfl (rO U_77 (Ht rfl) (i:=2) rfl (show ((List.replicate (lC a) (kV default)).length:Int) = ((lC a:Nat):Int) from by simp)) (ro rfl (cX (cJ 0)) (eX (eG (oP 3 rfl (wR (e:=23) (s:=3)) ?_))))))))))))))))
 refine cL (fun (i : Nat) => i ≤ lC a) (fun (i : Nat) => lC a - i) (fun (i : Nat) => [(1, bR B1 0), (4, NT .i64 (lC a)), (5, Is B15), (6, Is (.slice (some ⟨B17, 0, none⟩) (lC a) (lC a))), (19, NT .i64 (lC a)), (20, NT .i64 i)]) (fun (i : Nat) => [Z, box B1 101 [NT .u8 a, jJ zl, jJ sl], bF 23 3 B15 (mP (fun i => kV (Td (Ia zl i))) (kV default) (lC a) i), pM B17 77 23 3 (mP (fun i => tab (lC a) fun j => kV (zP (Ia sl (lC a * i + j)))) [] (lC a) i)]) 0 (Nat.zero_le _)
  (aQ rfl (aQ rfl (aQ rfl (aQ rfl (aZ rfl (kR (by simp)) (zS rfl)))))) (aU (fun _ _ _ h=>h) (aU (aC rfl) (aU (bN (by rw [← kG]; exact pF _ _)) (aU (fE (by rw [← kG]; exact pF _ _)) aY)))) (fun i hi=>?_)
 refine ts (ro rfl (gX (Ht rfl) (Ht rfl)) (eX (cK (dQ (Ht rfl) (fun hd=>?_) (fun hd=>?_)))))
 ·simp only [decide_eq_true_eq] at hd
  have hni:lC a * i ≤ 4 * 4:=Nat.mul_le_mul hn zo
  refine qX 3 (i) rfl (Kq hd) (fun v0=>(cU (cK (eG (ts (rm rfl (ra rfl (eX (ts (rm rfl (rm rfl (ro rfl (eZ Qa (Ht rfl) rfl) (ro rfl (eY A_77 Z_77 (Ht rfl) (i:=1) rfl rfl) (rm rfl (ro rfl (cZ Tryz.call221 Pg ⟨(Ht rfl),(Ht rfl),trivial⟩) (ro rfl (cZ Tryz.call61 Uf ⟨(Ht rfl),trivial⟩) (ro rfl (eR U_77 Z_23 (Ht rfl) (Ht rfl) rfl (i:=2) rfl (by rw [eP]; omega) rfl) ?_)))))))))))))))))
  refine mX Z_23 (Ht rfl) (Ht rfl) (El.ag rfl) (i:=2) rfl rfl (by rw [eP]; omega) rfl ?_
  refine eX (ts (rm rfl (rm rfl (rm rfl (rn rfl (iQ (T:=kV default) (i:=Tryz.t23) Ta Kh rfl rfl (Ht rfl) rfl Rn (El.ag rfl) (by show 24 * _ ≤ _; omega) zo) fun B34=>(ro rfl (fY U_181 Z_77 (Ht rfl) (Ht rfl) rfl zo (by rw [Nat.mul_one,Nat.zero_add])) ?_))))))
  refine Aj Z_77 (Ht rfl) (Ht rfl) (by rw [eP]; omega) (j:=3) (l:=5) rfl rfl rfl ?_
  refine eX (cK (dT [0,1,2,3,5] rfl (by decide) (cY (rm rfl (rm rfl (ro rfl (fY U_181 Z_77 (Ht rfl) (Ht rfl) rfl zo (by rw [Nat.mul_one,Nat.zero_add])) ?_))))))
  refine ro rfl (pD A_77 Z_77 (Ht rfl) (j:=3) rfl) (ro rfl (rO U_77 (Ht rfl) (i:=4) rfl (show ((List.replicate (lC a) (kV default)).length:Int) = ((lC a:Nat):Int) from by simp)) (ro rfl (cX (cJ 0)) (eX (eG ?_))))
  refine cL (fun (j : Nat) => j ≤ lC a) (fun (j : Nat) => lC a - j) (fun (j : Nat) => [(1, bR B1 0), (4, NT .i64 (lC a)), (5, Is B15), (6, Is (.slice (some ⟨B17, 0, none⟩) (lC a) (lC a))), (7, NT .i64 i), (19, NT .i64 (lC a)), (20, NT .i64 i), (40, NT .i64 (lC a)), (41, NT .i64 j)]) (fun (j : Nat) => [Z, box B1 101 [NT .u8 a, jJ zl, jJ sl], bF 23 3 B15 (mP (fun i => kV (Td (Ia zl i))) (kV default) (lC a) (i + 1)), Vp B17 77 23 3 (mP (fun i => tab (lC a) fun j => kV (zP (Ia sl (lC a * i + j)))) [] (lC a) i) i B34, bF 23 3 B34 (mP (fun j => kV (zP (Ia sl (lC a * i + j)))) (kV default) (lC a) j)]) 0 (Nat.zero_le _)
   (zS rfl) (aU (fun _ _ _ h=>h) (aU (aC rfl) (aU (bN (lO (f:=(fun i=>kV (Td (Ia zl i)))))) (aU (fun _ _ _ h=>h) (aU (bN (by rw [← kG]; exact pF _ _)) aY))))) (fun j hj=>?_)
  refine ts (ro rfl (gX (Ht rfl) (Ht rfl)) (eX (cK (dQ (Ht rfl) (fun he=>?_) (fun he=>?_)))))
  ·simp only [decide_eq_true_eq] at he
   refine cU (cK (eG (ts (rm rfl (ra rfl (eX (fZ (m:=14) (dp 6 rfl (cX (Ht rfl)) (dp 7 rfl (cX (Ht rfl)) (cI 44 0 45 1 rfl (fY U_181 Z_77 (Ht rfl) (Ht rfl) rfl zo (by rw [Nat.mul_one,Nat.zero_add])) ?_))))))))))
   refine dq 46 2 rfl (pD A_77 Z_77 (Ht rfl) (j:=3) rfl) (dp 8 rfl (cX (Ht rfl)) (dp 1 rfl (eZ Qb (Ht rfl) rfl) (dq 49 5 rfl (eY A_77 Z_77 (Ht rfl) (i:=1) rfl rfl) (dp 4 rfl (cX (Ht rfl)) (dp 7 rfl (cX (Ht rfl)) (cI 51 7 52 8 rfl (jL (Ht rfl) (Ht rfl) (by show _ < 9223372036854775808; omega)) (dp 8 rfl (cX (Ht rfl)) (cI 53 9 54 10 rfl (dV (Ht rfl) (Ht rfl) (by show _ < 9223372036854775808; omega)) (cI 50 6 55 11 rfl (cZ Tryz.call221 Pg ⟨(Ht rfl),(Ht rfl),trivial⟩) (dq 56 12 rfl (cZ Tryz.call146 Jz ⟨(Ht rfl),trivial⟩) ?_))))))))))
   refine fV aO rfl (by kernel_rfl) (zF (zF (zF (aJ (aJ (aV (ro rfl (eR U_77 Z_23 (Ht rfl) (Ht rfl) rfl (i:=4) rfl (by rw [eP]; omega) rfl) ?_)))))))
   refine mX Z_23 (Ht rfl) (Ht rfl) (El.ag rfl) (i:=4) rfl rfl (by rw [eP]; omega) rfl ?_
   refine eX (bD (cY (ro rfl (dV (Ht rfl) (cJ 1) z6) (rm rfl (eX (fU (j + 1) he zo (zS rfl) (aU (fun _ _ _ h=>h) (aU (aC rfl) (aU (fun _ _ _ h=>h) (aU (fun _ _ _ h=>h) (aU (bN (lO (f:=fun j=>kV (zP (Ia sl (lC a * i + j)))))) aY)))))))))))
  ·simp only [decide_eq_false_iff_not] at he
   have hjn:j = lC a:=Nat.le_antisymm hj zo
   rw [hjn,lN]
   refine gV rfl (bD (lD 3 4 rfl rfl (by decide) (by rw [eP]; omega) ?_))
   refine cY (ro rfl (dV (Ht rfl) (cJ 1) z6) (rm rfl (eX (dT [0,1,2,3] rfl (by decide) (fU (i + 1) hd zo (zS rfl) (aU (fun _ _ _ h=>h) (aU (aC rfl) (aU (fun _ _ _ h=>h) (aU (fE (lO (f:=(fun i=>tab (lC a) fun j=>kV (zP (Ia sl (lC a * i + j))))))) aY)))))))))
 ·simp only [decide_eq_false_iff_not] at hd
  have hin:i = lC a:=Nat.le_antisymm hi zo
  rw [hin,lN,lN]
  refine gV rfl (gJ (i:=2) (tt:=5) rfl rfl iN (ts (rm rfl (rm rfl (ra rfl (ra rfl (eX ?_)))))))
  exact kX B17 trivial [0,3] ⟨⟨_,rfl,fun _ _ _ h=>h⟩,⟨_,rfl,fun _ _ _ h=>h⟩,trivial⟩ (by decide) (a0E rfl (fX (eU rfl) (jQ (by rw [uY,mQ]))) (eU rfl))
theorem a1O {T U U':Ty} {v:Value} {V:aR} (h:(eT [T,U]).p v V) (hU:∀ u,U.p u V → U'.p u V):(eT [T,U']).p v V:=by
 obtain ⟨vs,h1,h2⟩:=h
 match vs,h2 with
 | [x,y],⟨a,b,c⟩=>exact ⟨[x,y],h1,a,hU y b,c⟩
theorem Ub {a : Nat} {zl sl : List Rt} (ha : a < 256) : bA Tryz.prog 132 [Og a zl sl] (eT [jJ (uY a zl), Oi (tO a sl)]) := (Oz ha).fun fun B _ v S V h1 h2 => a1O h1 fun u hu => by
 exact jQ (Rj a sl) u V (a1H (bH _ _).symm u S V hu h2)
theorem Tz {a:Nat} {zl sl:List Rt} (ha:a < 256):bA Tryz.prog 48 [Og a zl sl] (eT [gE ((uY a zl).map Rt.q) (rq (tO a sl)),jY ((uY a zl).map Rt.q) (rq (tO a sl)),aB true]):=by
 have hn:lC a ≤ 4:=by unfold lC; omega
 have herr:=Rk a zl sl
 have hzl:(uY a zl).length = lC a:=bH _ _
 have hsl:(tO a sl).length = lC a:=bH _ _
 have hall:∀ r,r ∈ tO a sl → r.length ≤ 1000:=fun r hr=>by obtain ⟨i,_,rfl⟩:=hZ.1 hr; rw [bH]; omega
 have hsh:=(rL herr).2.2.1
 have z1:((uY a zl).map Rt.q).length ≤ 1000:=by rw [List.length_map,hzl]; omega
 have s1:(rq (tO a sl)).length ≤ 1000:=by rw [List.length_map,hsl]; omega
 have hcv:∀ v V,(eT [gE (gD (cF ((uY a zl).map Rt.q) (rq (tO a sl))) ((uY a zl).map Rt.q)) (gD (cF ((uY a zl).map Rt.q) (rq (tO a sl))) (rq (tO a sl))),aL .i64 (cF ((uY a zl).map Rt.q) (rq (tO a sl)))]).p v V → (eT [gE ((uY a zl).map Rt.q) (rq (tO a sl)),aL .i64 0]).p v V:=by rw [herr]; exact fun _ _ h=>h
 have hcv2:∀ v V,(eT [jY (gD (cF ((uY a zl).map Rt.q) (rq (tO a sl))) ((uY a zl).map Rt.q)) (gD (cF ((uY a zl).map Rt.q) (rq (tO a sl))) (rq (tO a sl))),aL .i64 (cF ((uY a zl).map Rt.q) (rq (tO a sl)))]).p v V → (eT [jY ((uY a zl).map Rt.q) (rq (tO a sl)),aL .i64 0]).p v V:=by rw [herr]; exact fun _ _ h=>h
 refine bA.intro Tryz.func48 rfl Tryz.ntmps48 rfl (fun cx=>(ts (rn rfl (fG (Ht rfl)) fun B1=>(rn rfl (eW (Ts:=[Is (.slice none 0 0),Is (.slice none 0 0)]) O_80 rfl (fun V=>aW zd (aW zd (aG)))) fun B2=>(rn rfl (eW (Ts:=[Is (.slice none 0 0),Is (.slice none 0 0)]) O_104 rfl (fun V=>aW zd (aW zd (aG)))) fun B3=>(ro rfl (cQ cV) (eX (ts (ro rfl (eJ Tryz.isAgg101 Z_101 (Ht rfl) (i:=0) rfl rfl rfl) (ro rfl (cZ Tryz.call132 (Ub ha) ⟨(Ht rfl),trivial⟩) ?_))))))))))
 refine rm rfl (ro rfl (dK (Ht rfl) rfl) (ro rfl (dK (Ht rfl) rfl) (ra rfl (ra rfl (eX (ts (rm rfl (ro rfl (cZ Tryz.call50 (oA zo) ⟨(Ht rfl),trivial⟩) (rm rfl (ro rfl (cZ Tryz.call99 (An zo hall) ⟨(Ht rfl),trivial⟩) (ro rfl (cZ Tryz.call98 (eQ (Eb (z:=((uY a zl).map Rt.q)) (s:=(rq (tO a sl))) (L:=2) dR.rt (by decide) z1 s1) hcv) ⟨(Ht rfl),(Ht rfl),trivial⟩) (rm rfl (ro rfl (dK (Ht rfl) rfl) (ro rfl (dK (Ht rfl) rfl) (rn rfl (eW (Ts:=[Is (.slice none 0 0),Is (.slice none 0 0)]) O_80 rfl (fun V=>aW zd (aW zd (aG)))) fun B7=>?_)))))))))))))))
 refine gQ Z_80 (Ht rfl) (Ht rfl) rfl (i:=3) rfl (aK rfl) rfl rfl (ra rfl (eX (ts (rm rfl (ro rfl (cZ Tryz.call52 (oR zo) ⟨(Ht rfl),trivial⟩) (rm rfl (ro rfl (cZ Tryz.call134 (Hl zo hall) ⟨(Ht rfl),trivial⟩) (ro rfl (cZ Tryz.call133 (eQ (Mg (z:=((uY a zl).map Rt.q)) (s:=(rq (tO a sl))) (L:=2) dR.rt (by decide) z1 s1) hcv2) ⟨(Ht rfl),(Ht rfl),trivial⟩) (rm rfl (ro rfl (dK (Ht rfl) rfl) (ro rfl (dK (Ht rfl) rfl) (rn rfl (eW (Ts:=[Is (.slice none 0 0),Is (.slice none 0 0)]) O_104 rfl (fun V=>aW zd (aW zd (aG)))) fun B9=>?_))))))))))))
 refine gQ Z_104 (Ht rfl) (Ht rfl) rfl (i:=4) rfl (aK rfl) rfl rfl (ra rfl (eX (cK (Y.D_start (m:=11) [(9,1,box B2 80 [dB ((uY a zl).map Rt.q),fT (rq (tO a sl))]),(10,2,box B3 104 [pO ((uY a zl).map Rt.q),QM (rq (tO a sl))])] (Y.D_step (Ei:=[(7,_)]) rfl rfl (bQ (bJ rfl rfl) bX) rfl rfl (by kernel_rfl) (dX rfl (eJ A_80 Z_80 (Ht rfl) (i:=3) rfl rfl rfl)) (bY (Ei:=[(9,_)]) rfl rfl (bQ (bJ rfl rfl) bX) rfl rfl (dX rfl (eJ A_104 Z_104 (Ht rfl) (i:=4) rfl rfl rfl)) ?_))))))
 refine Y.D_step (Ei:=[(8,_)]) rfl rfl (bQ (bJ rfl rfl) bX) rfl rfl (by kernel_rfl) (dX rfl (cX (Ht rfl))) (Y.D_step (Ei:=[(34,_)]) rfl rfl (bQ (bZ 2 rfl rfl) bX) rfl rfl (by kernel_rfl) (dX rfl (iB (Ht rfl) cV)) (Y.D_step (Ei:=[(35,_)]) rfl rfl (bQ (bZ 3 rfl rfl) bX) rfl rfl (by kernel_rfl) (dX rfl (cX (Ht rfl))) (Y.D_step (Ei:=[(7,_),(36,_)]) rfl rfl (bQ (bJ rfl rfl) (bQ (bZ 4 rfl rfl) bX)) rfl rfl (by kernel_rfl) (eK rfl rfl (Ht rfl) (fun h=>eJ A_80 Z_80 (Ht rfl) (i:=3) rfl rfl rfl)) ?_)))
 refine Y.D_step (Ei:=[(9,_),(36,_)]) rfl rfl (bQ (bJ rfl rfl) (bQ (bZ 4 rfl rfl) bX)) rfl rfl (by kernel_rfl) (eK rfl rfl (Ht rfl) (fun h=>eJ A_104 Z_104 (Ht rfl) (i:=4) rfl rfl rfl)) (Y.D_step (Ei:=[(37,_),(38,_),(36,_)]) rfl rfl (bQ (bZ 5 rfl rfl) (bQ (bZ 6 rfl rfl) (bQ (bZ 4 rfl rfl) bX))) rfl rfl (by kernel_rfl) (eK rfl rfl (Ht rfl) (fun h=>cZ Tryz.call135 (Pe (z:=((uY a zl).map Rt.q)) (s:=(rq (tO a sl))) (L:=2) dR.rt eE.rt (by decide) (by decide) hsh z1) ⟨(fJ rfl h),(fJ rfl h),trivial⟩)) ?_)
 refine bY (Ei:=[(36,_),(39,_)]) rfl rfl (bQ (bZ 4 rfl rfl) (bQ (bZ 7 rfl rfl) bX)) rfl rfl (dX rfl (cT (Ht rfl) (fun h=>(fJ rfl h)))) (Y.D_putI (Ei:=[(2,_),(32,_)]) 1 rfl rfl rfl (bQ (bJ rfl rfl) (bQ (bZ 0 rfl rfl) bX)) (.head _) rfl (mK Z_80 (Ht rfl) (Ht rfl) rfl (i:=0) rfl (aK rfl) rfl rfl) (Y.D_putI (Ei:=[(3,_),(33,_)]) 2 rfl rfl rfl (bQ (bJ rfl rfl) (bQ (bZ 1 rfl rfl) bX)) (.tail _ (.head _)) rfl (mK Z_104 (Ht rfl) (Ht rfl) rfl (i:=0) rfl (aK rfl) rfl rfl) ?_))
 refine Y.D_done aO rfl (by kernel_rfl) rfl (by simp [Y.okP]) rfl rfl (bU (bU (bU (bU (bU (bU (bU (bU (bU (Y.F_putI (Y.F_putI (Y.F_nil ?_))))))))))))
 refine ra rfl (eX (Gx rfl (fK A_80 Z_80 rfl (i:=1) rfl rfl) (fK A_104 Z_104 rfl (i:=2) rfl rfl) (fX (eU rfl) ?_)))
 exact (dI (by simp))
end
section
open Go Go.RowKit
theorem yN:Tryz.prog.info? 104 = some Tryz.t104:=by kernel_rfl
theorem Iq:Tryz.prog.underlying 99 = some (.slice 104):=by kernel_rfl
end
section
open Go Go.RowKit
open Fl
theorem a0O {a b c d:List Ty} (h1:a = c) (h2:b = d):[iS 5 a,iS 2 b] = [iS 5 c,iS 2 d]:=by rw [h1,h2]
theorem Mz:∀ V,(gE [] []).p (.agg #[.slice none 0 0,.slice none 0 0]) V:=fun V=>lP _ V ⟨[.slice none 0 0,.slice none 0 0],rfl,aW zd (aW zd aG)⟩
theorem Ii:∀ V,(jY [] []).p (.agg #[.slice none 0 0,.slice none 0 0]) V:=fun V=>qN _ V ⟨[.slice none 0 0,.slice none 0 0],rfl,aW zd (aW zd aG)⟩
theorem So {l:List NP} (F:NP → Ty):tab l.length (fun i=>F (l.getD i iA)) = l.map F:=by
 apply List.ext_getElem?
 intro i
 by_cases h:i < l.length
 ·rw [cC h]; simp [List.getD,h]
 ·rw [List.getElem?_eq_none (by rw [bH]; omega),List.getElem?_eq_none (by simp; omega)]
structure Gs (n:NP) (K:Nat):Prop where
 fz:dR n.1 K
 fs:eE n.2 K
 sh:iE n.2 n.1.length n.1.length
 h8:n.1.length ≤ 8
theorem mD {K:Nat}:Gs iA K:=⟨dR.nil,eE.nil,⟨rfl,fun r hr=>by cases hr⟩,by decide⟩
theorem Ow {f:List Qi} {l:List NP} {x:Qi} {L:Nat} (hf:Gu f l L) (hx:aP x L) (hL1:1 ≤ L):Gs (nW f l x).1 (20 * L + 40):=by
 have g:∀ i,Gs (l.getD i iA) (20 * L + 40):=fun i=>⟨(hf.fz i).le zo,(hf.fs i).le zo,hf.sh i,hf.h8 i⟩
 unfold nW
 split
 ·exact mD
 ·split
  ·exact g _
  ·split
   ·exact mD
   ·obtain ⟨k, hk⟩ : ∃ k, k = rJ f x := ⟨_, rfl⟩
    rw [← hk]
    refine ⟨(hf.fz (k - 1)).le zo,eE.tab fun i j _ _=>?_,iE.tab,hf.h8 (k - 1)⟩
    haveI:=hx
    haveI f1:=hf.ff.get hL1 k
    haveI f2:=hf.ff.get hL1 (k - 1)
    haveI:=(hf.fs (k - 1)).get hL1 i j
    haveI:=(hf.fs k).get hL1 i j
    haveI gR:aP (zU f x k) (L + L + 1 + 3 * (L + L + 1) + 2):=by unfold zU; infer_instance
    have h:aP (gm (ns l (k - 1)) i j + zU f x k * (gm (ns l k) i j - gm (ns l (k - 1)) i j)) (L + ((L + L + 1 + 3 * (L + L + 1) + 2) + (L + L + 1) + 1) + 1):=inferInstance
    exact h.le zo
theorem Sn {f : List Qi} {l : List NP} {L : Nat} (hf : dR f L) (h : ∀ i, Gs (l.getD i iA) L) (h1 : f.length ≤ 1000) (h2 : l.length ≤ 1000) : Gu f l L :=
 ⟨hf,fun i=>(h i).fz,fun i=>(h i).fs,fun i=>(h i).sh,fun i=>(h i).h8,h2,h1⟩
theorem Lt {f:List Qi} {l:List NP} {L:Nat} {e:Int} (h:Gu f l L):Gu (gD e f) (gD e l) L:=by
 unfold gD; split
 ·exact h
 ·exact ⟨dR.nil,fun i=>(mD (K:=L)).fz,fun i=>(mD (K:=L)).fs,fun i=>(mD (K:=L)).sh,fun i=>(mD (K:=L)).h8,by decide,by decide⟩
theorem a0C {f xs : List Qi} {l : List NP} {L : Nat} (hf : Gu f l L) (hx : dR xs L) (hL1 : 1 ≤ L) (hn : xs.length ≤ 1000) : Gu xs (zO f l xs) (20 * L + 40) :=
 Sn (hx.le zo) (fun i => by
  by_cases h:i < xs.length
  ·have e : (zO f l xs).getD i iA = (nW f l (gv xs i)).1 := by simp [zO, gv, List.getD, h]
   rw [e]; exact Ow hf (hx.get hL1 i) hL1
  ·have e : (zO f l xs).getD i iA = iA := by simp [zO, List.getD, Nat.not_lt.1 h]
   rw [e]; exact mD) hn (by rw [sJ]; exact hn)
theorem Qy {f:List Qi} {l:List NP} {e:Int} (h:e = 0 → f.length = l.length):(gD e f).length = (gD e l).length:=by
 unfold gD; split
 ·rename_i k; exact h k
 ·rfl
abbrev PE:=Nat × List Rt × List Rt
abbrev Ah (q:PE):Ty:=dP [NT .u8 q.1,jJ q.2.1,jJ q.2.2]
def pnN (q:PE):NP:=((uY (q.1 % 2) q.2.1).map Rt.q,rq (tO (q.1 % 2) q.2.2))
def Te (ps:List PE):List NP:=ps.map pnN
theorem Rl (ps:List PE):(Te ps).length = ps.length:=List.length_map _
theorem Ib {ps:List PE} {k:Nat} (h:k < ps.length):(Te ps).getD k iA = pnN (ps.getD k (0,[],[])):=by simp [Te,List.getD,h]
theorem a1q (q:PE):Gs (pnN q) 2 ∧ 1 ≤ (pnN q).1.length:=by
 have herr:=Rk (q.1 % 2) q.2.1 q.2.2
 obtain ⟨a1,a2,hsh,_⟩:=rL herr
 exact ⟨⟨dR.rt,eE.rt,hsh,a2⟩,a1⟩
theorem a0x (ps:List PE) (i:Nat):Gs ((Te ps).getD i iA) 2:=by
 by_cases h:i < ps.length
 ·rw [Ib h]; exact (a1q _).1
 ·have e : (Te ps).getD i iA = iA := by simp [Te, List.getD, Nat.not_lt.1 h]
  rw [e]; exact mD
theorem a0y {ps:List PE} {i:Nat} (h:i < (Te ps).length):1 ≤ (nz (Te ps) i).length:=by
 rw [Rl] at h
 show 1 ≤ ((Te ps).getD i iA).1.length
 rw [Ib h]; exact (a1q _).2
theorem Wn (f:List Qi) (l:List NP) (i:Int):((decide ((Ic f l i).2 = 0) != (decide (0 ≤ i) && decide (i < (f.length:Int)))) || (!decide ((Ic f l i).2 = 0) && !decide ((Ic f l i).2 = 1))) = false:=by
 by_cases h:0 ≤ i ∧ i < (f.length:Int)
 ·have e : (Ic f l i).2 = 0 := by rw [Ic, if_pos h]
  rw [e]; simp [h.1,h.2]
 ·have e : (Ic f l i).2 = 1 := by rw [Ic, if_neg h]
  rw [e]
  have : (decide (0 ≤ i) && decide (i < (f.length : Int))) = false := by
   rw [Bool.and_eq_false_iff,decide_eq_false_iff_not,decide_eq_false_iff_not]; omega
  rw [this]; rfl
theorem Ef {f xs:List Qi} {l:List NP} {L:Nat} (ok:rT f l) (hf:Gu f l L) (hp1:∀ i,i < l.length → 1 ≤ (nz l i).length) (hx:dR xs L) (hn:xs.length ≤ 1000) (hL1:1 ≤ L) (hL:L ≤ 1000):bA Tryz.prog 58 [Dp f l,pO xs] (eT [Dp (gD (Ad f l xs) xs) (gD (Ad f l xs) (zO f l xs)),aL .i64 (Ad f l xs)]):=by
 refine bA.intro Tryz.func58 rfl Tryz.ntmps58 rfl (fun cx=>(ts (rn rfl (fG (Ht rfl)) fun B2=>(rn rfl (eW (Ts:=[Is (.slice none 0 0),Is (.slice none 0 0)]) O_113 rfl (fun V=>aW zd (aW zd (aG)))) fun B4=>(ro rfl (cQ (cJ 0)) (eX (cK (ts (rm rfl (ro rfl (dG U_57 (Ht rfl) aA) (ro rfl (cH (Ht rfl) (cJ 1024)) (eX (dQ (Ht rfl) (fun hb=>?_) (fun hb=>?_))))))))))))))
 ·have he : Ad f l xs = 4 := Lk (by simpa using hb)
  have hne0:(4:Int) ≠ 0:=by decide
  refine ts (ro rfl (aE.imp (lX ) pG) (gQ Z_113 (Ht rfl) (Ht rfl) rfl (i:=1) rfl (aK rfl) rfl rfl (ro rfl (cQ (cJ 4)) (eX (bC rfl (fX (fK A_113 Z_113 rfl (i:=1) rfl rfl) ?_) (fX (eU rfl) ?_))))))
  ·exact (fun v V h=>by rw [gD,gD,if_neg (by rw [he]; exact hne0),if_neg (by rw [he]; exact hne0)]; exact h)
  ·exact (aH he.symm)
 ·have hne : ¬ 1024 < xs.length := by simpa using hb
  refine cU (ts (ro rfl (lX ) (rn rfl (eW (Ts:=[Is (.slice none 0 0),Is (.slice none 0 0)]) O_113 rfl (fun V=>aW zd (aW zd (aG)))) fun B6=>(gQ Z_113 (Ht rfl) (Ht rfl) rfl (i:=2) rfl (aK rfl) rfl rfl (eX (cK (ts (ro rfl (cQ (cJ 0)) (eX (eG (dT [0,1,2] rfl (by decide) ?_)))))))))))
  refine cL (fun (k : Nat) => k ≤ xs.length ∧ ∀ i, i < k → Lg f l xs i = 0) (fun (k : Nat) => xs.length - k) (fun (k : Nat) => [(1, pO xs), (2, bR B2 0), (4, bR B4 0), (6, bR B6 0), (7, NT .i64 k)]) (fun (k : Nat) => [box B2 113 [pO f, xJ l], box B4 113 [Is (.slice none 0 0), Is (.slice none 0 0)], box B6 113 [pO (xs.take k), xJ ((zO f l xs).take k)]]) 0 ⟨Nat.zero_le _, fun i h => by omega⟩
   (zS rfl) (aU (aC rfl) (aU (aC rfl) (aU (Jf ⟨hJ,hJ,trivial⟩) aY))) (fun k ⟨hk,h0⟩=>?_)
  refine cK (ts (rm rfl (rm rfl (ro rfl (dG U_57 (Ht rfl) aA) (ro rfl (gX (Ht rfl) (Ht rfl)) (eX (dQ (Ht rfl) (fun hc=>?_) (fun hc=>?_))))))))
  ·have hc2 : k < xs.length := by simpa using hc
   haveI g1:aP (gv xs k) L:=hx.get hL1 k
   haveI g2:aP (gv xs (k - 1)) L:=hx.get hL1 (k - 1)
   have hrl:=sJ f l xs
   refine cU (cK (eG (cK (Y.D_start (m:=11) [] (bY (Ei:=[(2,_)]) rfl rfl (bQ (bJ rfl rfl) bX) rfl rfl (dX rfl (eJ A_113 Z_113 (Ht rfl) (i:=0) rfl rfl rfl)) (bY (Ei:=[(1,_)]) rfl rfl (bQ (bJ rfl rfl) bX) rfl rfl (dX rfl (cX (Ht rfl))) (bY (Ei:=[(7,_)]) rfl rfl (bQ (bJ rfl rfl) bX) rfl rfl (dX rfl (cX (Ht rfl))) (bY (Ei:=[(23,_),(24,_)]) rfl rfl (bQ (bZ 1 rfl rfl) (bQ (bZ 2 rfl rfl) bX)) rfl rfl (dX rfl (dZ U_57 Z_40 (Ht rfl) (Ht rfl) rfl (dY (dU (d:=Qi.zero) hc2)))) ?_))))))))
   refine bY (Ei:=[(25,_)]) rfl rfl (bQ (bZ 3 rfl rfl) bX) rfl rfl (dX rfl (dJ A_40 Z_40 (Ht rfl))) (bY (Ei:=[(22,_),(26,_)]) rfl rfl (bQ (bZ 0 rfl rfl) (bQ (bZ 4 rfl rfl) bX)) rfl rfl (dX rfl (cZ Tryz.call56 (xX (f:=f) (l:=l) (x:=gv xs k) (L:=L) ok hf hp1 g1 hL1 hL) ⟨(Ht rfl),(Ht rfl),trivial⟩)) (bY (Ei:=[(27,_)]) rfl rfl (bQ (bZ 5 rfl rfl) bX) rfl rfl (dX rfl (cX (Ht rfl))) (bY (Ei:=[(21,_)]) rfl rfl (bQ (bZ 6 rfl rfl) bX) rfl rfl (dX rfl (dK (Ht rfl) rfl)) ?_)))
   refine bY (Ei:=[(21,_)]) rfl rfl (bQ (bZ 6 rfl rfl) bX) rfl rfl (dX rfl (dK (Ht rfl) rfl)) (Y.D_newp (Ei:=[]) (fun bb=>box bb 104 [pO (nW f l (gv xs k)).1.1,QM (nW f l (gv xs k)).1.2]) 10 rfl rfl rfl bX rfl rfl (by kernel_rfl) (eW (Ts:=[Is (.slice none 0 0),Is (.slice none 0 0)]) O_104 rfl (fun V=>aW zd (aW zd (aG)))) (Y.D_putN (Ei:=[(28,_)]) 9 rfl rfl rfl rfl rfl rfl (bQ (bZ 7 rfl rfl) bX) (fun bb=>mK Z_104 (Ht rfl) (Ht rfl) rfl (i:=0) rfl (aK rfl) rfl rfl) ?_))
   refine Y.D_done aO rfl (by kernel_rfl) rfl (by simp [Y.okP]) rfl rfl (bU (bU (bU (bU (bU (bU (bU (bU (bU (Y.F_newp (fun B8=>Y.F_putN (Y.F_nil ?_))))))))))))
   refine ra rfl (eX (cK (ts (rm rfl (ro rfl (jH (Ht rfl) cV) (eX (dQ (Ht rfl) (fun hd=>?_) (fun hd=>?_))))))))
   ·have hd2 : (nW f l (gv xs k)).2 ≠ 0 := by have h := hd; simp only [Bool.not_eq_true', decide_eq_false_iff_not] at h; exact h
    have he:Ad f l xs = (nW f l (gv xs k)).2:=Li hne hc2 h0 (wY hd2) hd2
    have hne0:=hd2
    refine ts (ro rfl (aE.imp (lX ) pG) (rm rfl (gQ Z_113 (Ht rfl) (Ht rfl) rfl (i:=1) rfl (aK rfl) rfl rfl (ra rfl (eX (bC rfl (fX (fK A_113 Z_113 rfl (i:=1) rfl rfl) ?_) (fX (eU rfl) ?_)))))))
    ·exact (fun v V h=>by rw [gD,gD,if_neg (by rw [he]; exact hne0),if_neg (by rw [he]; exact hne0)]; exact h)
    ·exact (aH he.symm)
   ·have hd2 : (nW f l (gv xs k)).2 = 0 := by have h := hd; simp only [Bool.not_eq_false', decide_eq_true_eq] at h; exact h
    have r1:=Bw hd2
    have hpr : 0 < k → Re (gv xs (k - 1)) := fun h => Bw (by
     have h1:=h0 (k - 1) zo
     refine Classical.byContradiction fun z=>?_
     rw [wY z] at h1; exact z h1)
    refine cU (cK (cK (fZ (m:=12) (dp 7 rfl (cX (Ht rfl)) (dq 34 0 rfl (cH (Ht rfl) (cJ 0)) (dq 35 1 rfl (cX (Ht rfl)) (C.D_step (Ei:=[(1,_),(36,_)]) rfl rfl (bV (bK rfl rfl) (bV (bG 2 rfl rfl) bW)) (eK rfl rfl (Ht rfl) (fun h=>cX (Ht rfl))) (C.D_step (Ei:=[(7,_),(36,_)]) rfl rfl (bV (bK rfl rfl) (bV (bG 2 rfl rfl) bW)) (eK rfl rfl (Ht rfl) (fun h=>cX (Ht rfl))) (C.D_step (Ei:=[(37,_),(38,_),(36,_)]) rfl rfl (bV (bG 3 rfl rfl) (bV (bG 4 rfl rfl) (bV (bG 2 rfl rfl) bW))) (eK rfl rfl (Ht rfl) (fun h=>dZ U_57 Z_40 (fJ rfl h) (fJ rfl h) rfl (dY (dU (d:=Qi.zero) hc2)))) ?_)))))))))
    refine C.D_step (Ei:=[(39,_),(36,_)]) rfl rfl (bV (bG 5 rfl rfl) (bV (bG 2 rfl rfl) bW)) (eK rfl rfl (Ht rfl) (fun h=>dJ A_40 Z_40 (fJ rfl h))) (C.D_step (Ei:=[(1,_),(36,_)]) rfl rfl (bV (bK rfl rfl) (bV (bG 2 rfl rfl) bW)) (eK rfl rfl (Ht rfl) (fun h=>cX (Ht rfl))) (C.D_step (Ei:=[(7,_),(36,_)]) rfl rfl (bV (bK rfl rfl) (bV (bG 2 rfl rfl) bW)) (eK rfl rfl (Ht rfl) (fun h=>cX (Ht rfl))) (C.D_step (Ei:=[(42,_),(36,_)]) rfl rfl (bV (bG 8 rfl rfl) (bV (bG 2 rfl rfl) bW)) (eK rfl rfl (Ht rfl) (fun h=>dW (fJ rfl h) (cJ 1) (by first | omega | (simp at h; omega)) (by show _ < 9223372036854775808; first | omega | (simp at h; omega)))) ?_)))
    refine C.D_step (Ei:=[(41,_),(43,_),(36,_)]) rfl rfl (bV (bG 7 rfl rfl) (bV (bG 9 rfl rfl) (bV (bG 2 rfl rfl) bW))) (eK rfl rfl (Ht rfl) (fun h=>dZ U_57 Z_40 (fJ rfl h) (fJ rfl h) rfl (dY (dU (d:=Qi.zero) zo)))) (C.D_step (Ei:=[(44,_),(36,_)]) rfl rfl (bV (bG 10 rfl rfl) (bV (bG 2 rfl rfl) bW)) (eK rfl rfl (Ht rfl) (fun h=>dJ A_40 Z_40 (fJ rfl h))) (fV aO rfl (by kernel_rfl) (zF (zF (zF (aV ?_))))))
    refine fQ rfl rfl (eK rfl rfl (Ht rfl) (fun h=>cZ Tryz.call85 (Cb (x:=gv xs k) (y:=gv xs (k - 1)) (L:=L) (M:=L) zo) ⟨(fJ rfl h),(fJ rfl h),trivial⟩)) (fQ rfl rfl (eK rfl rfl (Ht rfl) (fun h=>uW (fJ rfl h) cV)) (ro rfl (cT (Ht rfl) (fun h=>(fJ rfl h))) (eX (dQ (Ht rfl) (fun he=>?_) (fun he=>?_)))))
    ·have he2 : 0 < k ∧ Ft (gv xs k) (gv xs (k - 1)) ≤ 0 := by have h := he; simp only [Bool.and_eq_true, decide_eq_true_eq] at h; exact h
     rw [kT r1.b (hpr he2.1).b] at he2
     have he:Ad f l xs = 7:=Li hne hc2 h0 (Lh hd2 he2) (by decide)
     have hne0:(7:Int) ≠ 0:=by decide
     refine ts (ro rfl (aE.imp (lX ) pG) (gQ Z_113 (Ht rfl) (Ht rfl) rfl (i:=1) rfl (aK rfl) rfl rfl (ro rfl (cQ (cJ 7)) (eX (bC rfl (fX (fK A_113 Z_113 rfl (i:=1) rfl rfl) ?_) (fX (eU rfl) ?_))))))
     ·exact (fun v V h=>by rw [gD,gD,if_neg (by rw [he]; exact hne0),if_neg (by rw [he]; exact hne0)]; exact h)
     ·exact (aH he.symm)
    ·have he2 : ¬ (0 < k ∧ lY (gv xs k) (gv xs (k - 1)) ≤ 0) := by
      rintro ⟨a1,a2⟩
      have h:=he
      simp only [Bool.and_eq_false_iff,decide_eq_false_iff_not] at h
      rcases h with h | h
      ·exact h a1
      ·exact h (by rw [kT r1.b (hpr a1).b]; exact a2)
     have hk0:Lg f l xs k = 0:=Rx hd2 he2
     refine cU (fZ (m:=17) (C.D_tmp (Ei:=[]) rfl rfl rfl bW (mE U_57 Z_40 O_40) (dp 6 rfl (eZ jA (Ht rfl) rfl) (dq 51 1 rfl (eY A_57 Z_57 (Ht rfl) (i:=2) rfl rfl) (C.D_app (Ei:=[(52,_)]) 0 false rfl rfl rfl rfl rfl rfl (bV (bG 2 rfl rfl) bW) (fun x53=>Ag (inf:=Tryz.t40) Dl wP rfl rfl rfl (Ht rfl) (Ht rfl)  (fun T hT=>by obtain ⟨x,_,rfl⟩:=List.mem_map.1 hT; exact El.ag rfl) (by show _ * 88 ≤ _; simp only [List.length_map,List.length_take,List.length_append,List.length_cons,List.length_nil]; omega) (by simp only [List.length_map,List.length_take,List.length_append,List.length_cons,List.length_nil]; omega)) ?_)))))
     refine dp 1 rfl (cX (Ht rfl)) (dp 7 rfl (cX (Ht rfl)) (cI 54 4 55 5 rfl (dZ U_57 Z_40 (Ht rfl) (Ht rfl) rfl (dY (dU (d:=Qi.zero) hc2))) (dq 56 6 rfl (dJ A_40 Z_40 (Ht rfl)) (dq 57 7 rfl (dH (xs:=[.tmp 57]) U_57 Z_40 O_40 (cW (Ht rfl) cG) rfl rfl rfl) (C.D_app (Ei:=[(58,_)]) 3 true rfl rfl rfl rfl rfl rfl (bV (bG 8 rfl rfl) bW) (fun x59=>Af (inf:=Tryz.t40) Dl wP rfl rfl rfl (Ht rfl) (Ht rfl) (by simp) (fun T hT=>by simp at hT; subst hT; exact El.ag rfl) (by show _ * 88 ≤ _; simp only [List.length_map,List.length_take,List.length_append,List.length_cons,List.length_nil]; omega) (by simp only [List.length_map,List.length_take,List.length_append,List.length_cons,List.length_nil]; omega)) ?_)))))
     refine C.D_tmp (Ei:=[]) rfl rfl rfl bW (mE U_99 Z_104 O_104) (dp 6 rfl (eZ nB (Ht rfl) rfl) (dq 61 11 rfl (eY A_99 Z_99 (Ht rfl) (i:=2) rfl rfl) (C.D_app (Ei:=[(62,_)]) 10 false rfl rfl rfl rfl rfl rfl (bV (bG 12 rfl rfl) bW) (fun x63=>Ag (inf:=Tryz.t104) Iq yN rfl rfl rfl (Ht rfl) (Ht rfl)  (fun T hT=>by obtain ⟨x,_,rfl⟩:=List.mem_map.1 hT; exact El.ag rfl) (by show _ * 48 ≤ _; simp only [List.length_map,List.length_take,List.length_append,List.length_cons,List.length_nil]; omega) (by simp only [List.length_map,List.length_take,List.length_append,List.length_cons,List.length_nil]; omega)) ?_)))
     refine dp 8 rfl (eJ A_104 Z_104 (Ht rfl) (i:=3) rfl rfl rfl) (dq 64 14 rfl (dH (xs:=[.tmp 64]) U_99 Z_104 O_104 (cW (Ht rfl) cG) rfl rfl rfl) (C.D_app (Ei:=[(65,_)]) 13 true rfl rfl rfl rfl rfl rfl (bV (bG 15 rfl rfl) bW) (fun x66=>Af (inf:=Tryz.t104) Iq yN rfl rfl rfl (Ht rfl) (Ht rfl) (by simp) (fun T hT=>by simp at hT; subst hT; exact El.ag rfl) (by show _ * 48 ≤ _; simp only [List.length_map,List.length_take,List.length_append,List.length_cons,List.length_nil]; omega) (by simp only [List.length_map,List.length_take,List.length_append,List.length_cons,List.length_nil]; omega)) ?_))
     refine fV aO rfl (by kernel_rfl) (C.F_tmp (fun B50=>aJ (aJ (C.F_tmp (fun v53=>aJ (zF (C.F_new (fun v59=>C.F_tmp (fun B60=>aJ (aJ (C.F_tmp (fun v63=>aJ (aJ (C.F_new (fun v66=>aV (ro rfl (vH (Ht rfl) (Ht rfl)) (gQ Z_113 (Ht rfl) (Ht rfl) rfl (i:=2) rfl (aK rfl) rfl rfl (eX (bD (cY (rm rfl (ro rfl (dV (Ht rfl) (cJ 1) z6) (ra rfl (eX (qY 2 4 0 rfl rfl rfl (by decide) ?_)))))))))))))))))))))))))
     refine qY 2 5 1 rfl rfl rfl (by decide) (dT [0,1,2] rfl (by decide) ?_)
     refine fU (k + 1) ⟨hc2, fun i h => by
       by_cases e:i = k
       ·rw [e]; exact hk0
       ·exact h0 i zo⟩ zo (zS rfl) (aU (aC rfl) (aU (aC rfl) (aU (aC (a0O ((pT QT (xs.take k) (gv xs k)).trans (congrArg _ (Dj Qi.zero hc2))) ((pT (fun n:NP=>jY n.1 n.2) ((zO f l xs).take k) (nW f l (gv xs k)).1).trans (congrArg _ (Lj hc2))))) aY)))
  ·have hc2 : xs.length ≤ k := by simpa using hc
   have he:Ad f l xs = 0:=Yo hne (fun i h=>h0 i zo)
   have hrl:=sJ f l xs
   rw [List.take_of_length_le hc2,List.take_of_length_le (show (zO f l xs).length ≤ k by omega)]
   refine gV rfl (ts (ro rfl (eJ A_113 Z_113 (Ht rfl) (i:=2) rfl rfl rfl) (gQ Z_113 (Ht rfl) (Ht rfl) rfl (i:=1) rfl (aK rfl) rfl rfl (ro rfl (cQ (cJ 0)) (eX (bC rfl (fX (fK A_113 Z_113 rfl (i:=1) rfl rfl) ?_) (fX (eU rfl) ?_)))))))
   ·exact (fun v V h=>by rw [he,gD,gD,if_pos rfl,if_pos rfl]; exact h)
   ·exact (aH he.symm)
theorem Pf {f:List Qi} {l:List NP} {L:Nat} (hf:Gu f l L) (hl:f.length = l.length) (hL1:1 ≤ L) (hL:L ≤ 1000000):bA Tryz.prog 53 [Tc f l,Dp f l] (aB true):=by
 have nf:=hf.nf
 refine bA.intro Tryz.func53 rfl Tryz.ntmps53 rfl (fun cx=>(ts (rn rfl (fG (Ht rfl)) fun B2=>(rn rfl (fG (Ht rfl)) fun B3=>(ro rfl (cQ cV) (eX (cK (cK (fZ (m:=5) (dp 2 rfl (eJ A_108 Z_108 (Ht rfl) (i:=0) rfl rfl rfl) (dq 9 0 rfl (cZ Tryz.call62 Pa ⟨(Ht rfl),trivial⟩) (dp 3 rfl (eZ jA (Ht rfl) rfl) (dq 11 2 rfl (eY A_57 Z_57 (Ht rfl) (i:=1) rfl rfl) (dq 12 3 rfl (dG U_57 (Ht rfl) aA) (fV aO rfl (by kernel_rfl) (zF (aJ (aV ?_))))))))))))))))))
 refine ro rfl (gL (Ht rfl) (Ht rfl)) (eX (jK (Ht rfl) (by simp) ?_))
 refine cU (cK (ts (ro rfl (eZ jA (Ht rfl) rfl) (ro rfl (eY A_57 Z_57 (Ht rfl) (i:=1) rfl rfl) (ro rfl (dG U_57 (Ht rfl) aA) (ro rfl (cX (cJ 0)) (eX (eG ?_))))))))
 refine cL (fun (k : Nat) => k ≤ f.length) (fun (k : Nat) => f.length - k) (fun (k : Nat) => [(2, bR B2 0), (3, bR B3 0), (17, NT .i64 f.length), (18, NT .i64 k)]) (fun (k : Nat) => [box B2 108 [dB f, Th l], box B3 113 [pO f, xJ l]]) 0 (Nat.zero_le _)
  (zS rfl) (bP.refl _) (fun k hk=>?_)
 refine ts (ro rfl (gX (Ht rfl) (Ht rfl)) (eX (cK (dQ (Ht rfl) (fun hc=>?_) (fun hc=>?_)))))
 ·have hc2 : k < f.length := by simpa using hc
  haveI g1:aP (gv f k) L:=hf.ff.get hL1 k
  have h8:=hf.h8 k
  refine cU (cK (eG (ts (rm rfl (ra rfl (eX (ts (ro rfl (eJ A_108 Z_108 (Ht rfl) (i:=0) rfl rfl rfl) (rm rfl (ro rfl (cZ Tryz.call54 (eQ (Jo (f:=f) (l:=l) (i:=((k:Nat):Int)) hl) (nV (Us:=[aT (gv f k),gE (nz l k) (ns l k),aL .i64 0]) (by rw [Yn hc2]))) ⟨(Ht rfl),(Ht rfl),trivial⟩) ?_))))))))))
  refine rm rfl (ro rfl (dK (Ht rfl) rfl) (ro rfl (dK (Ht rfl) rfl) (ro rfl (dK (Ht rfl) rfl) (rn rfl (eW (Ts:=[Is (.bool false),Is (.slice none 0 0),Is (.bool false),Is (.slice none 0 0),Is (.slice none 0 0)]) O_32 rfl (fun V=>aW zd (aW zd (aW zd (aW zd (aW zd (aG))))))) fun B6=>(rn rfl (eW (Ts:=[Is (.slice none 0 0),Is (.slice none 0 0)]) O_80 rfl (fun V=>aW zd (aW zd (aG)))) fun B7=>?_)))))
  refine gQ Z_32 (Ht rfl) (Ht rfl) rfl (i:=2) rfl (aK rfl) rfl rfl (gQ Z_80 (Ht rfl) (Ht rfl) rfl (i:=3) rfl (aK rfl) rfl rfl (ra rfl (eX (cK (fZ (m:=19) (dp 8 rfl (cX (Ht rfl)) (dq 28 0 rfl (jH (Ht rfl) cV) (dq 29 1 rfl (cX (Ht rfl)) (C.D_step (Ei:=[(6,_),(30,_)]) rfl rfl (bV (bK rfl rfl) (bV (bG 2 rfl rfl) bW)) (eK rfl rfl (Ht rfl) (fun h=>eJ A_32 Z_32 (Ht rfl) (i:=2) rfl rfl rfl)) (C.D_step (Ei:=[(3,_),(30,_)]) rfl rfl (bV (bK rfl rfl) (bV (bG 2 rfl rfl) bW)) (eK rfl rfl (Ht rfl) (fun h=>eZ jA (Ht rfl) rfl)) ?_))))))))))
  refine C.D_step (Ei:=[(32,_),(30,_)]) rfl rfl (bV (bG 4 rfl rfl) (bV (bG 2 rfl rfl) bW)) (eK rfl rfl (Ht rfl) (fun h=>eY A_57 Z_57 (fJ rfl h) (i:=1) rfl rfl)) (C.D_step (Ei:=[(5,_),(30,_)]) rfl rfl (bV (bK rfl rfl) (bV (bG 2 rfl rfl) bW)) (eK rfl rfl (Ht rfl) (fun h=>cX (Ht rfl))) (C.D_step (Ei:=[(33,_),(34,_),(30,_)]) rfl rfl (bV (bG 5 rfl rfl) (bV (bG 6 rfl rfl) (bV (bG 2 rfl rfl) bW))) (eK rfl rfl (Ht rfl) (fun h=>dZ U_57 Z_40 (fJ rfl h) (fJ rfl h) rfl (dY (dU (d:=Qi.zero) hc2)))) ?_))
  refine C.D_step (Ei:=[(35,_),(30,_)]) rfl rfl (bV (bG 7 rfl rfl) (bV (bG 2 rfl rfl) bW)) (eK rfl rfl (Ht rfl) (fun h=>dJ A_40 Z_40 (fJ rfl h))) (C.D_step (Ei:=[(31,_),(36,_),(30,_)]) rfl rfl (bV (bG 3 rfl rfl) (bV (bG 8 rfl rfl) (bV (bG 2 rfl rfl) bW))) (eK rfl rfl (Ht rfl) (fun h=>cZ Tryz.call17 (Bx (x:=gv f k) (y:=gv f k) (L:=L) (M:=L) zo zo) ⟨(fJ rfl h),(fJ rfl h),trivial⟩)) (C.D_step (Ei:=[(37,_),(30,_)]) rfl rfl (bV (bG 9 rfl rfl) (bV (bG 2 rfl rfl) bW)) (eK rfl rfl (Ht rfl) (fun h=>fB (fJ rfl h))) ?_))
  refine cI 30 2 38 10 rfl (iR (Ht rfl) (fun h=>(fJ rfl h))) (dq 39 11 rfl (cX (Ht rfl)) (C.D_step (Ei:=[(7,_),(40,_)]) rfl rfl (bV (bK rfl rfl) (bV (bG 12 rfl rfl) bW)) (eK rfl rfl (Ht rfl) (fun h=>eJ A_80 Z_80 (Ht rfl) (i:=3) rfl rfl rfl)) (C.D_step (Ei:=[(3,_),(40,_)]) rfl rfl (bV (bK rfl rfl) (bV (bG 12 rfl rfl) bW)) (eK rfl rfl (Ht rfl) (fun h=>eZ nB (Ht rfl) rfl)) (C.D_step (Ei:=[(42,_),(40,_)]) rfl rfl (bV (bG 14 rfl rfl) (bV (bG 12 rfl rfl) bW)) (eK rfl rfl (Ht rfl) (fun h=>eY A_99 Z_99 (fJ rfl h) (i:=1) rfl rfl)) ?_))))
  refine C.D_step (Ei:=[(5,_),(40,_)]) rfl rfl (bV (bK rfl rfl) (bV (bG 12 rfl rfl) bW)) (eK rfl rfl (Ht rfl) (fun h=>cX (Ht rfl))) (C.D_step (Ei:=[(43,_),(44,_),(40,_)]) rfl rfl (bV (bG 15 rfl rfl) (bV (bG 16 rfl rfl) (bV (bG 12 rfl rfl) bW))) (eK rfl rfl (Ht rfl) (fun h=>dZ U_99 Z_104 (fJ rfl h) (fJ rfl h) rfl (dY (dU (d:=iA) zo)))) (C.D_step (Ei:=[(45,_),(40,_)]) rfl rfl (bV (bG 17 rfl rfl) (bV (bG 12 rfl rfl) bW)) (eK rfl rfl (Ht rfl) (fun h=>dJ A_104 Z_104 (fJ rfl h))) ?_))
  refine fV aO rfl (by kernel_rfl) (zF (zF (zF (zF (aJ (aJ (aJ (aV (fQ rfl rfl (eK rfl rfl (Ht rfl) (fun h=>cZ Tryz.call135 (Pe (z:=nz l k) (s:=ns l k) (L:=L) (hf.fz k) (hf.fs k) hL1 zo (hf.sh k) zo) ⟨(fJ rfl h),(fJ rfl h),trivial⟩)) (fQ rfl rfl (eK rfl rfl (Ht rfl) (fun h=>fB (fJ rfl h))) (ro rfl (iR (Ht rfl) (fun h=>(fJ rfl h))) (eX (jK (Ht rfl) (by simp) ?_)))))))))))))
  refine cU (bD (cY (ro rfl (dV (Ht rfl) (cJ 1) z6) (rm rfl (eX (dT [0,1] rfl (by decide) (fU (k + 1) hc2 zo (zS rfl) (bP.refl _))))))))
 ·refine gV rfl (ts (ro rfl (cQ cV) (eX ?_)))
  exact fW rfl (eU rfl)
theorem Mb {n:NP} {e:Int} {K:Nat} (hk:Gs n K) (hK1:1 ≤ K) (hK:K ≤ 1000000):bA Tryz.prog 59 [gE n.1 n.2,aL .i64 e,jY n.1 n.2,aL .i64 e] (aB true):=by
 have h8:=hk.h8
 refine bA.intro Tryz.func59 rfl Tryz.ntmps59 rfl (fun cx=>(ts (rn rfl (fG (Ht rfl)) fun B4=>(rn rfl (fG (Ht rfl)) fun B6=>(ro rfl (cQ cV) (eX (ts (rm rfl (rm rfl (ro rfl (iB (Ht rfl) (Ht rfl)) (rm rfl (fQ rfl rfl (eK rfl rfl (Ht rfl) (fun h=>eJ A_80 Z_80 (Ht rfl) (i:=0) rfl rfl rfl)) (fQ rfl rfl (eK rfl rfl (Ht rfl) (fun h=>eJ A_104 Z_104 (Ht rfl) (i:=1) rfl rfl rfl)) (fQ rfl rfl (eK rfl rfl (Ht rfl) (fun h=>cZ Tryz.call135 (Pe (z:=n.1) (s:=n.2) (L:=K) hk.fz hk.fs hK1 zo hk.sh zo) ⟨(fJ rfl h),(fJ rfl h),trivial⟩)) ?_))))))))))))))
 refine ro rfl (cT (Ht rfl) (fun h=>(fJ rfl h))) (ra rfl (eX (fW rfl (fX (eU rfl) ?_))))
 exact (dI (by simp))
theorem wA {fs more:List Rt} {ps:List PE} {x:Rt} {i:Int} (hps:∀ q ∈ ps,q.1 < 256):bA Tryz.prog 7 [jJ fs,iS 3 (ps.map Ah),kV x,jJ more,aL .i64 i] (aB true):=by
 refine bA.intro Tryz.func7 rfl Tryz.ntmps7 rfl (fun cx=>(ts (rn rfl (fG (Ht rfl)) fun B7=>(ro rfl (cQ cV) (eX (cK (ts (rm rfl (ro rfl (dG U_77 (Ht rfl) aA) (ro rfl (cH (Ht rfl) (cJ 5)) (rm rfl (fQ rfl rfl (eK rfl rfl (Ht rfl) (fun h=>cX (Ht rfl))) (fQ rfl rfl (eK rfl rfl (Ht rfl) (fun h=>dG U_97 (fJ rfl h) aA)) (fQ rfl rfl (eK rfl rfl (Ht rfl) (fun h=>cH (fJ rfl h) (cJ 5))) (ro rfl (iR (Ht rfl) (fun h=>(fJ rfl h))) (rm rfl (fQ rfl rfl (eK rfl rfl (Ht rfl) (fun h=>cX (Ht rfl))) ?_)))))))))))))))))
 refine fQ rfl rfl (eK rfl rfl (Ht rfl) (fun h=>dG U_77 (fJ rfl h) aA)) (fQ rfl rfl (eK rfl rfl (Ht rfl) (fun h=>cH (fJ rfl h) (cJ 6))) (ro rfl (iR (Ht rfl) (fun h=>(fJ rfl h))) (eX (dQ (Ht rfl) (fun hb=>?_) (fun hb=>?_)))))
 ·refine ts (ro rfl (cZ Tryz.call47 Dy trivial) (ra rfl (eX ?_)))
  exact fW rfl (eU rfl)
 ·have hb2 : (fs.length ≤ 5 ∧ ps.length ≤ 5) ∧ more.length ≤ 6 := by
   have h:=hb; simp only [Bool.or_eq_false_iff,decide_eq_false_iff_not,Nat.not_lt] at h; exact h
  obtain ⟨⟨hfs,hpl⟩,hml⟩:=hb2
  obtain ⟨l,hl⟩:∃ l,l = Te ps:=⟨_,rfl⟩
  have hll:l.length = ps.length:=by rw [hl]; exact Rl ps
  obtain ⟨f,hf⟩:∃ f,f = fs.map Rt.q:=⟨_,rfl⟩
  have hfl:f.length = fs.length:=by rw [hf,List.length_map]
  obtain ⟨xs,hxs⟩:∃ xs,xs = more.map Rt.q:=⟨_,rfl⟩
  have hxl:xs.length = more.length:=by rw [hxs,List.length_map]
  have ff:dR f 2:=by rw [hf]; exact dR.rt
  have fx:dR xs 2:=by rw [hxs]; exact dR.rt
  have swf:Gu f l 2:=Sn ff (fun i=>by rw [hl]; exact a0x ps i) zo zo
  have hone:∀ i,i < l.length → 1 ≤ (nz l i).length:=fun i hi=>by rw [hl] at hi ⊢; exact a0y hi
  have fxq:aP x.q 2:=inferInstance
  refine cU (cK (fZ (m:=7) (dp 1 rfl (cX (Ht rfl)) (dq 47 0 rfl (dG U_97 (Ht rfl) aA) (C.D_new (Ei:=[(48,_)]) rfl rfl rfl (bV (bG 1 rfl rfl) bW) (iQ (T:=gE [] []) (i:=Tryz.t80) Ip Cp rfl rfl (Ht rfl) rfl Mz (El.ag rfl) (by show 48 * _ ≤ _; omega) zo) (dp 1 rfl (cX (Ht rfl)) (dq 50 3 rfl (dG U_97 (Ht rfl) aA) (C.D_new (Ei:=[(51,_)]) rfl rfl rfl (bV (bG 4 rfl rfl) bW) (iQ (T:=jY [] []) (i:=Tryz.t104) Iq yN rfl rfl (Ht rfl) rfl Ii (El.ag rfl) (by show 48 * _ ≤ _; omega) zo) ?_))))))))
  refine C.D_cpy 2 rfl rfl rfl rfl rfl C.cpy_assign (fV aO rfl (by kernel_rfl) (aJ (aJ (C.F_new (fun B49=>aJ (aJ (C.F_new (fun B52=>C.F_cpy rfl (aV (ra rfl (eX (cK (ts (rm rfl (ro rfl (dG U_97 (Ht rfl) aA) (ro rfl (cX (cJ 0)) (eX (eG (dT [0,1,2] rfl (by decide) ?_)))))))))))))))))))
  refine cL (fun (k : Nat) => k ≤ ps.length) (fun (k : Nat) => ps.length - k) (fun (k : Nat) => [(0, jJ fs), (3, jJ more), (4, aL .i64 i), (7, bR B7 0), (11, Is B49), (12, Is B52), (53, iS 3 (ps.map Ah)), (54, NT .i64 ps.length), (55, NT .i64 k)]) (fun (k : Nat) => [box B7 23 [aL .i64 x.re, aL .i64 x.im, aL .i64 x.den], bF 80 2 B49 (mP (fun i => gE (nz l i) (ns l i)) (gE [] []) l.length k), bF 104 2 B52 (mP (fun i => jY (nz l i) (ns l i)) (jY [] []) l.length k)]) 0 (Nat.zero_le _)
   (zS rfl) (aU (aC rfl) (aU (bN (by rw [← kG,hll]; exact pF ps.length (gE [] []))) (aU (bN (by rw [← kG,hll]; exact pF ps.length (jY [] []))) aY))) (fun k hk=>?_)
  refine ts (ro rfl (gX (Ht rfl) (Ht rfl)) (eX (cK (dQ (Ht rfl) (fun hc=>?_) (fun hc=>?_)))))
  ·have hc2 : k < ps.length := by simpa using hc
   obtain ⟨q,hq⟩:∃ q,q = ps.getD k (0,[],[]):=⟨_,rfl⟩
   have hqm:q.1 < 256:=hps q (by rw [hq,Kf hc2]; exact List.getElem_mem _)
   have hqn:l.getD k iA = pnN q:=by rw [hl,Ib hc2,hq]
   have hz1:nz l k = (uY (q.1 % 2) q.2.1).map Rt.q:=congrArg Prod.fst hqn
   have hs1:ns l k = rq (tO (q.1 % 2) q.2.2):=congrArg Prod.snd hqn
   refine cU (cK (eG (ts (rm rfl (ro rfl (dZ U_97 Z_101 (Ht rfl) (Ht rfl) rfl (dY (show ps[k]? = some q by rw [hq]; exact dU (d:=(0,[],[])) hc2))) (ro rfl (dJ Tryz.isAgg101 Z_101 (Ht rfl)) (rn rfl (eW (Ts:=[Is (.int .u8 0),Is (.slice none 0 0),Is (.slice none 0 0)]) Tryz.zeroValue101 rfl (fun V=>aW zd (aW zd (aW zd (aG))))) fun B14=>(ra rfl (gQ Z_101 (Ht rfl) (Ht rfl) rfl (i:=3) rfl (aK rfl) rfl rfl (eX ?_))))))))))
   refine ts (ro rfl (eZ yG (Ht rfl) rfl) (ro rfl (eY A_5 Z_5 (Ht rfl) (i:=3) rfl rfl) (ro rfl (jW (Ht rfl) (cJ 2) zo) (ro rfl (eZ yG (Ht rfl) rfl) (jN Z_5 (Ht rfl) (Ht rfl) (i:=3) rfl (aK rfl) rfl (eX (ts (ro rfl (eJ Tryz.isAgg101 Z_101 (Ht rfl) (i:=3) rfl rfl rfl) (ro rfl (cZ Tryz.call48 (eQ (Tz (a:=q.1 % 2) (zl:=q.2.1) (sl:=q.2.2) zo) (nV (Us:=[gE (nz l k) (ns l k),jY (nz l k) (ns l k),aB true]) (by rw [hz1,hs1]))) ⟨(Ht rfl),trivial⟩) ?_)))))))))
   refine rm rfl (ro rfl (dK (Ht rfl) rfl) (ro rfl (dK (Ht rfl) rfl) (ro rfl (dK (Ht rfl) rfl) (rn rfl (eW (Ts:=[Is (.slice none 0 0),Is (.slice none 0 0)]) O_80 rfl (fun V=>aW zd (aW zd (aG)))) fun B15=>(rn rfl (eW (Ts:=[Is (.slice none 0 0),Is (.slice none 0 0)]) O_104 rfl (fun V=>aW zd (aW zd (aG)))) fun B16=>(gQ Z_80 (Ht rfl) (Ht rfl) rfl (i:=4) rfl (aK rfl) rfl rfl (gQ Z_104 (Ht rfl) (Ht rfl) rfl (i:=5) rfl (aK rfl) rfl rfl ?_)))))))
   refine ra rfl (eX (cK (ts (rm rfl (ro rfl (fB (Ht rfl)) (eX (jK (Ht rfl) (by rfl) ?_)))))))
   refine cU (ts (rm rfl (rm rfl (ro rfl (eJ A_80 Z_80 (Ht rfl) (i:=4) rfl rfl rfl) (ro rfl (eR U_98 Z_80 (Ht rfl) (Ht rfl) rfl (i:=1) rfl (by rw [eP]; omega) rfl) ?_)))))
   refine mX Z_80 (Ht rfl) (Ht rfl) (El.ag rfl) (i:=1) rfl rfl (by rw [eP]; omega) rfl ?_
   refine eX (cY (rm rfl (rm rfl (ro rfl (eJ A_104 Z_104 (Ht rfl) (i:=5) rfl rfl rfl) (ro rfl (eR U_99 Z_104 (Ht rfl) (Ht rfl) rfl (i:=2) rfl (by rw [eP]; omega) rfl) ?_)))))
   refine mX Z_104 (Ht rfl) (Ht rfl) (El.ag rfl) (i:=2) rfl rfl (by rw [eP]; omega) rfl ?_
   refine eX (bD (cY (ro rfl (dV (Ht rfl) (cJ 1) z6) (rm rfl (eX (dT [0,1,2] rfl (by decide) (fU (k + 1) hc2 zo (zS rfl) (aU (aC rfl) (aU (bN (lO (f:=(fun i=>gE (nz l i) (ns l i))))) (aU (bN (lO (f:=(fun i=>jY (nz l i) (ns l i))))) aY))))))))))
  ·obtain rfl : k = ps.length := by have h := hc; simp only [decide_eq_false_iff_not] at h; omega
   rw [← hll,lN,lN,So (fun n=>gE n.1 n.2),So (fun n=>jY n.1 n.2)]
   refine gV rfl (gJ (i:=1) (tt:=11) rfl rfl iN (gJ (i:=2) (tt:=12) rfl rfl iN ?_))
   obtain ⟨e,he⟩:∃ e,e = vR f l:=⟨_,rfl⟩
   obtain ⟨g,hg⟩:∃ g,g = gD e f:=⟨_,rfl⟩
   obtain ⟨m,hm⟩:∃ m,m = gD e l:=⟨_,rfl⟩
   have ok : rT g m := by
    rw [hg,hm]; unfold gD; split
    ·rename_i k; rw [he] at k; exact a1z k
    ·exact rT.nil
   have swg:Gu g m 2:=by rw [hg,hm]; exact Lt swf
   have hone2 : ∀ i, i < m.length → 1 ≤ (nz m i).length := fun i hi => by
    rw [hm] at hi ⊢; unfold gD at hi ⊢; split at hi
    ·rename_i k; rw [if_pos k]; exact hone i hi
    ·simp at hi
   obtain ⟨r,hr⟩:∃ r,r = Ad g m xs:=⟨_,rfl⟩
   have rswf:=a0C swg fx (by decide) (show xs.length ≤ 1000 by omega)
   have gsw:=Lt (e:=r) rswf
   have hbk:=Ow swg fxq (by decide)
   refine ts (rm rfl (ro rfl (cZ Tryz.call50 (eQ (oA (l:=fs) zo) (jQ (Us:=f.map aT) (by rw [hf]))) ⟨(Ht rfl),trivial⟩) ?_))
   refine rm rfl (ro rfl (cZ Tryz.call49 (eQ (Hc (f:=f) (l:=l) (L:=2) swf (by decide) (by decide)) (nV (Us:=[Tc g m,aL .i64 e]) (by rw [hg,hm,he]))) ⟨(Ht rfl),(Ht rfl),trivial⟩) ?_)
   refine rm rfl (ro rfl (dK (Ht rfl) rfl) (ro rfl (dK (Ht rfl) rfl) (rn rfl (eW (Ts:=[Is (.slice none 0 0),Is (.slice none 0 0)]) O_108 rfl (fun V=>aW zd (aW zd (aG)))) fun B18=>(gQ Z_108 (Ht rfl) (Ht rfl) rfl (i:=3) rfl (aK rfl) rfl rfl (ra rfl (eX (ts (rm rfl (ro rfl (cZ Tryz.call52 (eQ (oR (l:=fs) zo) (jQ (Us:=f.map QT) (by rw [hf]))) ⟨(Ht rfl),trivial⟩) ?_)))))))))
   refine rm rfl (ro rfl (cZ Tryz.call51 (eQ (Ee (f:=f) (l:=l) (L:=2) swf (by decide) (by decide)) (nV (Us:=[Dp g m,aL .i64 e]) (by rw [hg,hm,he]))) ⟨(Ht rfl),(Ht rfl),trivial⟩) ?_)
   refine rm rfl (ro rfl (dK (Ht rfl) rfl) (ro rfl (dK (Ht rfl) rfl) (rn rfl (eW (Ts:=[Is (.slice none 0 0),Is (.slice none 0 0)]) O_113 rfl (fun V=>aW zd (aW zd (aG)))) fun B20=>(gQ Z_113 (Ht rfl) (Ht rfl) rfl (i:=4) rfl (aK rfl) rfl rfl (ra rfl (eX (cK (ts (rm rfl (rm rfl (ro rfl (jH (Ht rfl) (Ht rfl)) (rm rfl (fQ rfl rfl (eK rfl rfl (Ht rfl) (fun h=>eJ A_108 Z_108 (Ht rfl) (i:=3) rfl rfl rfl)) (fQ rfl rfl (eK rfl rfl (Ht rfl) (fun h=>eJ A_113 Z_113 (Ht rfl) (i:=4) rfl rfl rfl)) ?_))))))))))))))
   refine fQ rfl rfl (eK rfl rfl (Ht rfl) (fun h=>cZ Tryz.call53 (Pf (f:=g) (l:=m) (L:=2) swg ok.len (by decide) (by decide)) ⟨(fJ rfl h),(fJ rfl h),trivial⟩)) (fQ rfl rfl (eK rfl rfl (Ht rfl) (fun h=>fB (fJ rfl h))) (ro rfl (iR (Ht rfl) (fun h=>(fJ rfl h))) (eX (jK (Ht rfl) (by simp) ?_))))
   refine cU (ts (ro rfl (eJ A_108 Z_108 (Ht rfl) (i:=3) rfl rfl rfl) (rm rfl (ro rfl (cZ Tryz.call54 (Jo (f:=g) (l:=m) (i:=i) ok.len) ⟨(Ht rfl),(Ht rfl),trivial⟩) (rm rfl (ro rfl (dK (Ht rfl) rfl) (ro rfl (dK (Ht rfl) rfl) (ro rfl (dK (Ht rfl) rfl) (rn rfl (eW (Ts:=[Is (.bool false),Is (.slice none 0 0),Is (.bool false),Is (.slice none 0 0),Is (.slice none 0 0)]) O_32 rfl (fun V=>aW zd (aW zd (aW zd (aW zd (aW zd (aG))))))) fun B22=>?_)))))))))
   refine rn rfl (eW (Ts:=[Is (.slice none 0 0),Is (.slice none 0 0)]) O_80 rfl (fun V=>aW zd (aW zd (aG)))) fun B23=>gQ Z_32 (Ht rfl) (Ht rfl) rfl (i:=5) rfl (aK rfl) rfl rfl (gQ Z_80 (Ht rfl) (Ht rfl) rfl (i:=6) rfl (aK rfl) rfl rfl (ra rfl (eX (cK (ts (rm rfl (ro rfl (iB (Ht rfl) cV) (rm rfl (ro rfl (jP (Ht rfl) cV) (rm rfl (fQ rfl rfl (gU rfl rfl (Ht rfl) (fun h=>cX (Ht rfl))) (fQ rfl rfl (gU rfl rfl (Ht rfl) (fun h=>eZ jA (Ht rfl) rfl)) ?_))))))))))))
   refine fQ rfl rfl (gU rfl rfl (Ht rfl) (fun h=>eY A_57 Z_57 (aS.wu rfl h) (i:=4) rfl rfl)) (fQ rfl rfl (gU rfl rfl (Ht rfl) (fun h=>dG U_57 (aS.wu rfl h) aA)) (fQ rfl rfl (gU rfl rfl (Ht rfl) (fun h=>lH (aS.wu rfl h) (aS.wu rfl h))) (ro rfl (cT (Ht rfl) (fun h=>(aS.wu rfl h))) (ro rfl (Cy U_4 (Ht rfl) (Ht rfl)) (rm rfl (fQ rfl rfl (gU rfl rfl (Ht rfl) (fun h=>cX (Ht rfl))) (fQ rfl rfl (gU rfl rfl (Ht rfl) (fun h=>jH (aS.wu rfl h) cV)) (fQ rfl rfl (gU rfl rfl (Ht rfl) (fun h=>cX (aS.wu rfl h))) ?_))))))))
   refine fQ rfl rfl (oO rfl rfl rfl (fun h h2=>cX (Ht rfl))) (fQ rfl rfl (oO rfl rfl rfl (fun h h2=>jH (aS.wu rfl ⟨h,h2⟩) cV)) (fQ rfl rfl (gU rfl rfl (Ht rfl) (fun h=>cT (aS.wu rfl h) (fun h2=>(aS.wu rfl ⟨h,h2⟩)))) (ro rfl (iR (Ht rfl) (fun h=>(aS.wu rfl h))) (eX (jK (Ht rfl) (Wn g m i) (dT [0,3,4] rfl (by decide) (cU (cK (Y.D_start (m:=9) [] (bY (Ei:=[(18,_)]) rfl rfl (bQ (bJ rfl rfl) bX) rfl rfl (dX rfl (eJ A_108 Z_108 (Ht rfl) (i:=1) rfl rfl rfl)) ?_))))))))))
   refine bY (Ei:=[(7,_)]) rfl rfl (bQ (bJ rfl rfl) bX) rfl rfl (dX rfl (eJ A_23 Z_23 (Ht rfl) (i:=0) rfl rfl rfl)) (bY (Ei:=[(133,_)]) rfl rfl (bQ (bZ 1 rfl rfl) bX) rfl rfl (dX rfl (cZ Tryz.call14 (Jt (r:=x)) ⟨(Ht rfl),trivial⟩)) ?_)
   refine bY (Ei:=[(132,_),(134,_)]) rfl rfl (bQ (bZ 0 rfl rfl) (bQ (bZ 2 rfl rfl) bX)) rfl rfl (dX rfl (cZ Tryz.call55 (Al (f:=g) (l:=m) (x:=x.q) (L:=2) ok swg fxq (by decide) (by decide)) ⟨(Ht rfl),(Ht rfl),trivial⟩)) (bY (Ei:=[(135,_)]) rfl rfl (bQ (bZ 3 rfl rfl) bX) rfl rfl (dX rfl (cX (Ht rfl))) (bY (Ei:=[(131,_)]) rfl rfl (bQ (bZ 4 rfl rfl) bX) rfl rfl (dX rfl (dK (Ht rfl) rfl)) (bY (Ei:=[(131,_)]) rfl rfl (bQ (bZ 4 rfl rfl) bX) rfl rfl (dX rfl (dK (Ht rfl) rfl)) ?_)))
   refine Y.D_newp (Ei:=[]) (fun bb=>box bb 80 [dB (nW g m x.q).1.1,fT (nW g m x.q).1.2]) 8 rfl rfl rfl bX rfl rfl (by kernel_rfl) (eW (Ts:=[Is (.slice none 0 0),Is (.slice none 0 0)]) O_80 rfl (fun V=>aW zd (aW zd (aG)))) (Y.D_putN (Ei:=[(136,_)]) 7 rfl rfl rfl rfl rfl rfl (bQ (bZ 5 rfl rfl) bX) (fun bb=>mK Z_80 (Ht rfl) (Ht rfl) rfl (i:=0) rfl (aK rfl) rfl rfl) (Y.D_done aO rfl (by kernel_rfl) rfl (by simp [Y.okP]) rfl rfl (bU (bU (bU (bU (bU (bU (bU (Y.F_newp (fun B25=>Y.F_putN (Y.F_nil ?_))))))))))))
   refine ra rfl (eX (cK (Y.D_start (m:=9) [] (bY (Ei:=[(20,_)]) rfl rfl (bQ (bJ rfl rfl) bX) rfl rfl (dX rfl (eJ A_113 Z_113 (Ht rfl) (i:=2) rfl rfl rfl)) (bY (Ei:=[(7,_)]) rfl rfl (bQ (bJ rfl rfl) bX) rfl rfl (dX rfl (eJ A_23 Z_23 (Ht rfl) (i:=0) rfl rfl rfl)) (bY (Ei:=[(140,_)]) rfl rfl (bQ (bZ 1 rfl rfl) bX) rfl rfl (dX rfl (cZ Tryz.call16 (Yb (r:=x)) ⟨(Ht rfl),trivial⟩)) ?_))))))
   refine bY (Ei:=[(139,_),(141,_)]) rfl rfl (bQ (bZ 0 rfl rfl) (bQ (bZ 2 rfl rfl) bX)) rfl rfl (dX rfl (cZ Tryz.call56 (xX (f:=g) (l:=m) (x:=x.q) (L:=2) ok swg hone2 fxq (by decide) (by decide)) ⟨(Ht rfl),(Ht rfl),trivial⟩)) (bY (Ei:=[(142,_)]) rfl rfl (bQ (bZ 3 rfl rfl) bX) rfl rfl (dX rfl (cX (Ht rfl))) (bY (Ei:=[(138,_)]) rfl rfl (bQ (bZ 4 rfl rfl) bX) rfl rfl (dX rfl (dK (Ht rfl) rfl)) (bY (Ei:=[(138,_)]) rfl rfl (bQ (bZ 4 rfl rfl) bX) rfl rfl (dX rfl (dK (Ht rfl) rfl)) ?_)))
   refine Y.D_newp (Ei:=[]) (fun bb=>box bb 104 [pO (nW g m x.q).1.1,QM (nW g m x.q).1.2]) 8 rfl rfl rfl bX rfl rfl (by kernel_rfl) (eW (Ts:=[Is (.slice none 0 0),Is (.slice none 0 0)]) O_104 rfl (fun V=>aW zd (aW zd (aG)))) (Y.D_putN (Ei:=[(143,_)]) 7 rfl rfl rfl rfl rfl rfl (bQ (bZ 5 rfl rfl) bX) (fun bb=>mK Z_104 (Ht rfl) (Ht rfl) rfl (i:=0) rfl (aK rfl) rfl rfl) (Y.D_done aO rfl (by kernel_rfl) rfl (by simp [Y.okP]) rfl rfl (bU (bU (bU (bU (bU (bU (bU (Y.F_newp (fun B27=>Y.F_putN (Y.F_nil ?_))))))))))))
   refine ra rfl (eX (cK (Y.D_start (m:=9) [] (bY (Ei:=[(18,_)]) rfl rfl (bQ (bJ rfl rfl) bX) rfl rfl (dX rfl (eJ A_108 Z_108 (Ht rfl) (i:=1) rfl rfl rfl)) (bY (Ei:=[(3,_)]) rfl rfl (bQ (bJ rfl rfl) bX) rfl rfl (dX rfl (cX (Ht rfl))) (bY (Ei:=[(147,_)]) rfl rfl (bQ (bZ 1 rfl rfl) bX) rfl rfl (dX rfl (cZ Tryz.call50 (eQ (oA (l:=more) zo) (jQ (Us:=xs.map aT) (by rw [hxs]))) ⟨(Ht rfl),trivial⟩)) ?_))))))
   refine bY (Ei:=[(146,_),(148,_)]) rfl rfl (bQ (bZ 0 rfl rfl) (bQ (bZ 2 rfl rfl) bX)) rfl rfl (dX rfl (cZ Tryz.call57 (eQ (He (f:=g) (l:=m) (xs:=xs) (L:=2) ok swg fx zo (by decide) (by decide)) (nV (Us:=[Tc (gD r xs) (gD r (zO g m xs)),aL .i64 r]) (by rw [hr]))) ⟨(Ht rfl),(Ht rfl),trivial⟩)) ?_
   refine bY (Ei:=[(149,_)]) rfl rfl (bQ (bZ 3 rfl rfl) bX) rfl rfl (dX rfl (cX (Ht rfl))) (bY (Ei:=[(145,_)]) rfl rfl (bQ (bZ 4 rfl rfl) bX) rfl rfl (dX rfl (dK (Ht rfl) rfl)) (bY (Ei:=[(145,_)]) rfl rfl (bQ (bZ 4 rfl rfl) bX) rfl rfl (dX rfl (dK (Ht rfl) rfl)) (Y.D_newp (Ei:=[]) (fun bb=>box bb 108 [dB (gD r xs),Th (gD r (zO g m xs))]) 8 rfl rfl rfl bX rfl rfl (by kernel_rfl) (eW (Ts:=[Is (.slice none 0 0),Is (.slice none 0 0)]) O_108 rfl (fun V=>aW zd (aW zd (aG)))) ?_)))
   refine Y.D_putN (Ei:=[(150,_)]) 7 rfl rfl rfl rfl rfl rfl (bQ (bZ 5 rfl rfl) bX) (fun bb=>mK Z_108 (Ht rfl) (Ht rfl) rfl (i:=0) rfl (aK rfl) rfl rfl) (Y.D_done aO rfl (by kernel_rfl) rfl (by simp [Y.okP]) rfl rfl (bU (bU (bU (bU (bU (bU (bU (Y.F_newp (fun B29=>Y.F_putN (Y.F_nil ?_)))))))))))
   refine ra rfl (eX (cK (Y.D_start (m:=9) [] (bY (Ei:=[(20,_)]) rfl rfl (bQ (bJ rfl rfl) bX) rfl rfl (dX rfl (eJ A_113 Z_113 (Ht rfl) (i:=2) rfl rfl rfl)) (bY (Ei:=[(3,_)]) rfl rfl (bQ (bJ rfl rfl) bX) rfl rfl (dX rfl (cX (Ht rfl))) (bY (Ei:=[(154,_)]) rfl rfl (bQ (bZ 1 rfl rfl) bX) rfl rfl (dX rfl (cZ Tryz.call52 (eQ (oR (l:=more) zo) (jQ (Us:=xs.map QT) (by rw [hxs]))) ⟨(Ht rfl),trivial⟩)) ?_))))))
   refine bY (Ei:=[(153,_),(155,_)]) rfl rfl (bQ (bZ 0 rfl rfl) (bQ (bZ 2 rfl rfl) bX)) rfl rfl (dX rfl (cZ Tryz.call58 (eQ (Ef (f:=g) (l:=m) (xs:=xs) (L:=2) ok swg hone2 fx zo (by decide) (by decide)) (nV (Us:=[Dp (gD r xs) (gD r (zO g m xs)),aL .i64 r]) (by rw [hr]))) ⟨(Ht rfl),(Ht rfl),trivial⟩)) ?_
   refine bY (Ei:=[(156,_)]) rfl rfl (bQ (bZ 3 rfl rfl) bX) rfl rfl (dX rfl (cX (Ht rfl))) (bY (Ei:=[(152,_)]) rfl rfl (bQ (bZ 4 rfl rfl) bX) rfl rfl (dX rfl (dK (Ht rfl) rfl)) (bY (Ei:=[(152,_)]) rfl rfl (bQ (bZ 4 rfl rfl) bX) rfl rfl (dX rfl (dK (Ht rfl) rfl)) (Y.D_newp (Ei:=[]) (fun bb=>box bb 113 [pO (gD r xs),xJ (gD r (zO g m xs))]) 8 rfl rfl rfl bX rfl rfl (by kernel_rfl) (eW (Ts:=[Is (.slice none 0 0),Is (.slice none 0 0)]) O_113 rfl (fun V=>aW zd (aW zd (aG)))) ?_)))
   refine Y.D_putN (Ei:=[(157,_)]) 7 rfl rfl rfl rfl rfl rfl (bQ (bZ 5 rfl rfl) bX) (fun bb=>mK Z_113 (Ht rfl) (Ht rfl) rfl (i:=0) rfl (aK rfl) rfl rfl) (Y.D_done aO rfl (by kernel_rfl) rfl (by simp [Y.okP]) rfl rfl (bU (bU (bU (bU (bU (bU (bU (Y.F_newp (fun B31=>Y.F_putN (Y.F_nil ?_)))))))))))
   refine ra rfl (eX (ts (ro rfl (eJ A_80 Z_80 (Ht rfl) (i:=3) rfl rfl rfl) (rm rfl (ro rfl (eJ A_104 Z_104 (Ht rfl) (i:=4) rfl rfl rfl) (rm rfl (ro rfl (cZ Tryz.call59 (Mb (n:=(nW g m x.q).1) (e:=(nW g m x.q).2) hbk (by decide) (by decide)) ⟨(Ht rfl),(Ht rfl),(Ht rfl),(Ht rfl),trivial⟩) (rm rfl (fQ rfl rfl (eK rfl rfl (Ht rfl) (fun h=>cX (Ht rfl))) (fQ rfl rfl (eK rfl rfl (Ht rfl) (fun h=>cX (Ht rfl))) (fQ rfl rfl (eK rfl rfl (Ht rfl) (fun h=>iB (fJ rfl h) (fJ rfl h))) ?_)))))))))))
   refine ro rfl (cT (Ht rfl) (fun h=>(fJ rfl h))) (rm rfl (fQ rfl rfl (eK rfl rfl (Ht rfl) (fun h=>eJ A_108 Z_108 (Ht rfl) (i:=5) rfl rfl rfl)) (fQ rfl rfl (eK rfl rfl (Ht rfl) (fun h=>eJ A_113 Z_113 (Ht rfl) (i:=6) rfl rfl rfl)) (fQ rfl rfl (eK rfl rfl (Ht rfl) (fun h=>cZ Tryz.call53 (Pf (f:=gD r xs) (l:=gD r (zO g m xs)) gsw (Qy fun _=>(sJ g m xs).symm) (by decide) (by decide)) ⟨(fJ rfl h),(fJ rfl h),trivial⟩)) (ro rfl (cT (Ht rfl) (fun h=>(fJ rfl h))) (rm rfl ?_))))))
   refine fQ rfl rfl (eK rfl rfl (Ht rfl) (fun h=>cZ Tryz.call47 Dy trivial)) (ro rfl (cT (Ht rfl) (fun h=>(fJ rfl h))) (ra rfl (eX (fW rfl (fX (eU rfl) ?_)))))
   exact (dI (by simp))
end
section
open Go Go.ChangeShapes Go.WideShapes Go.ChangeAt Go.RowKit
section
variable {H:Type} {enc:TypeId × Value → H} {W:World} {base:Nat} {sp:Nat → Bool} {held:Bool}
theorem uX {n : Nat} {cs : List Value} {y : DataW H × List MemPlace} (h : DataW.trod enc Tryz.prog W base sp held n 77 cs = some y) : ∃ (v : Value) (l : List Rt), cs = [v] ∧ (jJ l).p v (hv W) :=
 Lc (F:=kV) Tryz.underlying77 (by kernel_rfl) (by decide) (fun n cs y h=>Rh h) h
theorem Gf {s:Nat} {Ts:List Ty} {v:Value} {V:aR} (h:(iS s Ts).p v V):v.cells.toList = [v] ∧ iZ v:=by obtain ⟨a,cap,rfl,_⟩:=h; exact ⟨rfl,trivial⟩
theorem zK {b0:Nat} {v:Value} {d:DataW H} {p:List MemPlace} (ho:Value.okWide Tryz.prog W .any b0 77 v) (h:DataW.Trod enc Tryz.prog W base sp held 77 v d p):∃ l:List Rt,(jJ l).p v (hv W):=by
 obtain ⟨a,n,k,rfl⟩:=okWide_slice Tryz.underlying77 ho
 obtain ⟨m,hm⟩:=h
 obtain ⟨v,l,e,hl⟩:=uX hm
 have:[Value.slice a n k] = [v]:=e
 simp only [List.cons.injEq,and_true] at this
 subst this
 exact ⟨l,hl⟩
end
end
section
open Go Go.ChangeShapes Go.WideShapes Go.ChangeAt Go.RowKit Go.Deep
section
variable {H:Type} {enc:TypeId × Value → H} {W:World} {base:Nat} {sp:Nat → Bool} {held:Bool}
theorem a1M:S3 Tryz.prog 101 5 77 77:=⟨⟨_,_,_,Tryz.underlying101,rfl,rfl,rfl,rfl,rfl,rfl⟩,by kernel_rfl,by kernel_rfl,by kernel_rfl,by kernel_rfl⟩
end
end
section
open Go Go.ChangeShapes Go.WideShapes Go.ChangeAt Go.RowKit Go.Deep
section
variable {H:Type} {enc:TypeId × Value → H} {W:World} {base:Nat} {sp:Nat → Bool} {held:Bool}
abbrev PB:={q:PE // q.1 < 256}
instance : Inhabited PB:=⟨⟨(0,[],[]),by decide⟩⟩
theorem a10:Tryz.prog.cellsOf 101 = 3:=by kernel_rfl
theorem Nc {n:Nat} {cs:List Value} {y:DataW H × List MemPlace} (h:DataW.trod enc Tryz.prog W base sp held n 101 cs = some y):∃ (e:PB) (x:Value),x.cells.toList = cs ∧ (Ah e.1).p x (hv W):=by
 obtain ⟨x0,x1,x2,m,y0,y1,y2,hcs,h0,h1,h2⟩:=a1M.open h
 obtain ⟨i,e0,_,w⟩:=DataW.trod_int Tryz.underlying5 h0
 obtain ⟨v1,z,e1,k1⟩:=uX h1
 obtain ⟨v2,s,e2,k2⟩:=uX h2
 simp only [List.cons.injEq,and_true] at e0 e1 e2
 subst e0 e1 e2
 have hw:=a1D w
 have e:((i.toNat:Nat):Int) = i:=by omega
 have hi:∀ V,(NT .u8 i.toNat).p (.int .u8 i) V:=fun V=>by rw [show NT .u8 i.toNat = aL .u8 i from congrArg (aL .u8) e]; rfl
 exact ⟨⟨(i.toNat,z,s),by show i.toNat < 256; omega⟩,.agg #[.int .u8 i,x1,x2],hcs.symm ▸ rfl,[.int .u8 i,x1,x2],rfl,aW ⟨hi _,trivial⟩ (aW ⟨k1,(Gf k1).2⟩ (aW ⟨k2,(Gf k2).2⟩ aG))⟩
theorem Hz {n : Nat} {cs : List Value} {y : DataW H × List MemPlace} (h : DataW.trod enc Tryz.prog W base sp held n 97 cs = some y) : ∃ (v : Value) (l : List PB), cs = [v] ∧ (iS 3 (l.map fun e => Ah e.1)).p v (hv W) :=
 Lc (F:=fun e:PB=>Ah e.1) Tryz.underlying97 a10 (by decide) (fun n cs y h=>Nc h) h
theorem Gl {b0:Nat} {v:Value} {d:DataW H} {p:List MemPlace} (ho:Value.okWide Tryz.prog W .any b0 97 v) (h:DataW.Trod enc Tryz.prog W base sp held 97 v d p):∃ l:List PE,(iS 3 (l.map Ah)).p v (hv W) ∧ ∀ q ∈ l,q.1 < 256:=by
 obtain ⟨a,n,k,rfl⟩:=okWide_slice Tryz.underlying97 ho
 obtain ⟨m,hm⟩:=h
 obtain ⟨v,l,e,hl⟩:=Hz hm
 have:[Value.slice a n k] = [v]:=e
 simp only [List.cons.injEq,and_true] at this
 subst this
 refine ⟨l.map Subtype.val,?_,fun q hq=>?_⟩
 ·rw [List.map_map]; exact hl
 ·obtain ⟨e, _, rfl⟩ := List.mem_map.1 hq
  exact e.2
end
end
end Go.Proofs.YthcmlodgnfekeaaGreat
