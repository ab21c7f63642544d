/- What functions of the program compute, proved by walks over their code, and the plain mathematics of it; a part of the proof in the last text. -/
import Derived.Test.YtdlciihkiefckaaGreatP04
set_option linter.unusedVariables false
set_option linter.unusedSimpArgs false
set_option maxRecDepth 100000
set_option maxHeartbeats 4000000
namespace Go.Proofs.YtdlciihkiefckaaGreat
section
open Go Go.RowKit
theorem Pq {h:List (List Qi)} {n L G0 V0:Nat} (hs:cB h n n) (hf:bE h L) (hL:1 ≤ L) (hLb:L ≤ 4000000000000) (hz:nP h n = true → SzD h n G0 V0) (hn:n ≤ 32):bB Tryz.prog 98 [dF h] (eH [aH (He h n),bC (dfW h n),aL .i64 (dfX h n)]):=by
 have hsl:=hs.1
 haveI h0:=lA
 refine bB.intro Tryz.func98 rfl Tryz.ntmps98 rfl (fun cx=>(ts (ro rfl (cX cW) (ro rfl (cX cW) (ro rfl (cX (cV 0)) (eW (cU (ts (rm rfl (ro rfl (cJ Tryz.call172 (Hb hs hn) ⟨(Ht rfl),trivial⟩) (ro rfl (eS (Ht rfl)) (eW (jQ (Ht rfl) (by rfl) ?_)))))))))))))
 refine cY (cU (ts (rm rfl (ro rfl (dY U_26 (Ht rfl) (by rw [List.length_map,hsl])) ?_))))
 refine ro rfl (cZ (cV 0)) (eW (eY ?_))
 refine cP (fun (i : Nat) => i ≤ n ∧ ∀ a, a < i → ∀ b, b < n → gm h a b = (gm h b a).conj) (fun (i : Nat) => n - i) (fun (i : Nat) => [(0, dF h), (19, dF h), (20, NT .i64 n), (21, NT .i64 i)]) (fun (i : Nat) => []) 0 ⟨Nat.zero_le _, fun a h => by omega⟩
  (zS rfl) aY (fun i ⟨hi,hh⟩=>?_)
 refine ts (ro rfl (gV (Ht rfl) (Ht rfl)) (eW (cU (dX (Ht rfl) (fun hc=>?_) (fun hc=>?_)))))
 ·have hin : i < n := by simp only [decide_eq_true_eq] at hc; omega
  have hri:=hs.row hin
  refine cY (cU (eY (ts (rm rfl (ro rfl (dJ U_26 Z_25 (Ht rfl) (Ht rfl) rfl (eZ (eX (d:=[]) zo))) (ro rfl (dW A_25 Z_25 (Ht rfl)) (ra rfl (ra rfl (eW (ts (rm rfl (ro rfl (dY U_25 (Ht rfl) (by rw [List.length_map,hri])) ?_))))))))))))
  refine ro rfl (cZ (cV 0)) (eW (eY ?_))
  refine cP (fun (k : Nat) => k ≤ n ∧ ∀ b, b < k → gm h i b = (gm h b i).conj) (fun (k : Nat) => n - k) (fun (k : Nat) => [(0, dF h), (5, NT .i64 i), (6, bC (h.getD i [])), (19, dF h), (20, NT .i64 n), (21, NT .i64 i), (27, NT .i64 n), (28, NT .i64 k)]) (fun (k : Nat) => []) 0 ⟨Nat.zero_le _, fun b h => by omega⟩
   (zS rfl) aY (fun k ⟨hk,hk0⟩=>?_)
  refine ts (ro rfl (gV (Ht rfl) (Ht rfl)) (eW (cU (dX (Ht rfl) (fun hd=>?_) (fun hd=>?_)))))
  ·have hkn : k < n := by simp only [decide_eq_true_eq] at hd; omega
   have hrk:=hs.row hkn
   haveI f1:aF (gm h i k) L:=hf.get hL i k
   haveI f2:aF (gm h k i) L:=hf.get hL k i
   haveI f3:aF (gm h k i).conj L:=fitConj
   refine cY (cU (eY (ts (rm rfl (ra rfl (eW (cU (fW (m:=12) (dp 6 rfl (cZ (Ht rfl)) (dp 7 rfl (cZ (Ht rfl)) (dE 31 0 32 1 rfl (dJ U_25 Z_60 (Ht rfl) (Ht rfl) rfl (eZ (eX (d:=Qi.zero) zo))) (dq 33 2 rfl (dW A_60 Z_60 (Ht rfl)) (dp 0 rfl (cZ (Ht rfl)) (dp 7 rfl (cZ (Ht rfl)) (dE 35 4 36 5 rfl (dJ U_26 Z_25 (Ht rfl) (Ht rfl) rfl (eZ (eX (d:=[]) zo))) (dq 37 6 rfl (dW A_25 Z_25 (Ht rfl)) (dp 5 rfl (cZ (Ht rfl)) ?_)))))))))))))))))
   refine dE 38 7 39 8 rfl (dJ U_25 Z_60 (Ht rfl) (Ht rfl) rfl (eZ (eX (d:=Qi.zero) zo))) (dq 40 9 rfl (dW A_60 Z_60 (Ht rfl)) (dq 41 10 rfl (cJ Tryz.call173 a03 ⟨(Ht rfl),trivial⟩) (fK aS rfl (by kernel_rfl) (zF (zF (zF (aV (ro rfl (cJ Tryz.call100 (Pu (x:=gm h i k) (y:=(gm h k i).conj) (L:=L) (M:=L) zo zo) ⟨(Ht rfl),(Ht rfl),trivial⟩) (ro rfl (eS (Ht rfl)) ?_)))))))))
   refine eW (dX (Ht rfl) (fun he=>?_) (fun he=>?_))
   ·have hne : ¬ gm h i k = (gm h k i).conj := by simpa using he
    have hf0:¬ nP h n = true:=fun e=>hne (of_decide_eq_true e i hin k hkn)
    refine ts (ro rfl (cX cW) (ro rfl (cX cW) (ro rfl (cX (cV 1)) (eW (wP rfl (fV (fX rfl) ?_) (fV (fX rfl) ?_) (fV (fX rfl) ?_))))))
    ·exact (fA (by rw [He,if_neg hf0]))
    ·exact (fun v V k=>by rw [dfW,if_neg hf0]; exact iP v V k)
    ·exact (aR (by rw [dfX,if_neg hf0]; rfl))
   ·have heq : gm h i k = (gm h k i).conj := by simpa using he
    refine cY (bM (dQ (ro rfl (dK (Ht rfl) (cV 1) z6) (rm rfl (eW ?_)))))
    refine gX (k + 1) ⟨hkn, fun b h1 => by
      by_cases e:b = k
      ·rw [e]; exact heq
      ·exact hk0 b zo⟩ zo (zS rfl) aY
  ·have hkn : k = n := by simp only [decide_eq_false_iff_not] at hd; omega
   refine gK rfl (bM (dQ (ro rfl (dK (Ht rfl) (cV 1) z6) (rm rfl (eW ?_)))))
   refine gX (i + 1) ⟨hin, fun a h1 b h2 => by
     by_cases e:a = i
     ·rw [e]; exact hk0 b zo
     ·exact hh a zo b h2⟩ zo (zS rfl) aY
 ·have hin : i = n := by simp only [decide_eq_false_iff_not] at hc; omega
  have hh0:nP h n = true:=decide_eq_true (fun a h1 b h2=>hh a zo b h2)
  have hz:=hz hh0
  have hg1:=hz.g1
  have hv1:=hz.v1
  have hzb:=hz.b
  clear hin hi hh hc
  refine gK rfl (ts (rm rfl (oS Tryz.call195 (Gv hs zo zo) ⟨(Ht rfl),cW,trivial⟩ rfl (fun B48 _=>(rm rfl (ro rfl (dY U_26 (Ht rfl) (by rw [List.length_map,hsl])) ?_))))))
  refine oS Tryz.call144 (a54 (n:=n) hn) ⟨(Ht rfl),trivial⟩ rfl (fun B51 _=>(ra rfl (ra rfl (eW (cU (ts (rm rfl (ro rfl (iV U_26 (Ht rfl)) (ro rfl (cZ (cV 0)) (eW (eY (Pk 1 (m:=n) (Us:=(rQ n).map bC) rfl (Nat.le_trans hn (by decide)) (by rw [dO,List.length_map,(nQ n).1]) (by rw [dO,List.map_map]; rfl) ?_))))))))))))
  refine Io 0 rfl (fun vs hvs=>?_)
  have hvs2:Hds vs n:=by have h:=hvs; rw [dO,List.length_map,hsl] at h; exact h
  refine cP (fun (i : Nat) => i ≤ n ∧ Bx h n (n - i) i = Bx h n n 0) (fun (i : Nat) => n - i) (fun (i : Nat) => [(8, Is (.slice (some ⟨B48, 0, none⟩) n n)), (9, Is (.slice (some ⟨B51, 0, none⟩) n n)), (53, NT .i64 n), (54, NT .i64 i)]) (fun (i : Nat) => [kD B48 25 60 5 vs vs (dO aI (gH h n i).1), bP 25 1 (.slice (some ⟨B51, 0, none⟩) n n) ((gH h n i).2.map bC)]) 0 ⟨Nat.zero_le _, rfl⟩
   (zS rfl) (dI.refl _) (fun i ⟨hi,hR⟩=>?_)
  refine ts (ro rfl (gV (Ht rfl) (Ht rfl)) (eW (cU (dX (Ht rfl) (fun hc=>?_) (fun hc=>?_)))))
  ·have hin : i < n := by simp only [decide_eq_true_eq] at hc; omega
   have hvl:=hvs2.len
   obtain ⟨hGs,hVs⟩:=pX hs i hi
   have hGf:=hz.g i hi
   have hVf:=hz.v i hi
   have r1:=a3j (h:=h) hin
   have r2:=a3i (h:=h) hin
   have r3:=a66 (h:=h) hin
   have r4:=sJ (h:=h) (n:=n) (i:=i)
   have r5:=Ad (h:=h) (n:=n) (i:=i)
   rw [hR] at r1 r2 r3
   obtain ⟨S,hS⟩:∃ S,S = gH h n (i + 1):=⟨_,rfl⟩
   rw [← hS] at r4 r5
   obtain ⟨D,hD⟩:∃ D,D = gH h n i:=⟨_,rfl⟩
   rw [← hD] at hGs hVs hGf hVf r1 r2 r3 r4 r5 ⊢
   obtain ⟨X,U⟩:=D
   dsimp only at hGs hVs hGf hVf r1 r2 r3 r4 r5 ⊢
   have hXl:=hGs.1
   have hUl:=hVs.1
   have hri:=hGs.row hin
   haveI g1:aF (gm X i i) G0:=hGf.get hg1 i i
   refine cY (cU (eY (ts (rm rfl (ra rfl (eW (cU (ts (rm rfl (rm rfl (ro rfl (gZ U_26 Z_25 (Ht rfl) (Ht rfl) rfl zo (by rw [Nat.mul_one,Nat.zero_add])) ?_)))))))))))
   refine ro rfl (gD A_25 Z_25 (Ht rfl) (j:=0) rfl zo) (rm rfl (ro rfl (iG U_25 Z_60 (Ht rfl) (Ht rfl) rfl (j:=0) rfl zo zo zo) (ro rfl (kP A_60 Z_60 (Ht rfl) (j:=0) rfl zo zo zo) (ro rfl (aM.imp (uZ ) qV) (ro rfl (cJ Tryz.call51 (a01 (x:=gm X i i) (y:=Qi.zero) (L:=G0) (M:=1) (hy:=aF.zero (Nat.le_refl 1)) zo) ⟨(Ht rfl),(Ht rfl),trivial⟩) (ro rfl (qW (Ht rfl) cW) (eW (dX (Ht rfl) (fun hng=>?_) (fun hng=>?_)))))))))
   ·have hq := r1 hng
    refine cU (fW (m:=5) (dp 9 rfl (cZ (Ht rfl)) (dp 10 rfl (cZ (Ht rfl)) (dE 67 0 68 1 rfl (dB U_26 Z_25 (Ht rfl) (Ht rfl) rfl (i:=1) rfl (by rw [List.length_map]; omega) rfl) ?_))))
    refine dq 69 2 rfl (pS A_25 Z_25 (Ht rfl) (i:=1) rfl rfl (eZ (eX (d:=[]) zo))) (d0 rfl (cX cW) (fK aS rfl (by kernel_rfl) (zF (aJ (aV (ra rfl (ro rfl (cX (cV 0)) (eW (wP rfl (fV (fX rfl) ?_) (fV (fX rfl) ?_) (fV (fX rfl) ?_))))))))))
    ·exact (fA (by rw [He,if_pos hh0,hq]))
    ·exact (kH (by rw [dfW,if_pos hh0,hq]))
    ·exact (aR (by rw [dfX,if_pos hh0]; rfl))
   ·have hng2 : Rc (gm X i i) ≠ true := by rw [Rc, hng]; simp
    refine cY (cU (ts (rm rfl (rm rfl (rm rfl (a2u Tryz.call196 (Pw (i:=i) (L:=G0) (M:=V0) hGs hVs hvs2 hGf hVf hg1 hv1 zo hin hn) (i:=0) (j:=1) rfl rfl (by decide) ⟨(Ht rfl),(Ht rfl),(Ht rfl),trivial⟩ rfl (fun uu _=>(ra rfl (eW (ts (rm rfl (ro rfl (Yf (q:=decide (Je X U n i ≠ [])) (by simp) U_25 (Ht rfl)) ?_))))))))))))
    refine eW (dX (Ht rfl) (fun hw=>?_) (fun hw=>?_))
    ·have hw2 : Je X U n i ≠ [] := by simpa using hw
     have hq:=r2 hng2 hw2
     refine ts (rm rfl (ro rfl (cX cW) (ra rfl (ro rfl (cX (cV 0)) (eW (wP rfl (fV (fX rfl) ?_) (fV (fX rfl) ?_) (fV (fX rfl) ?_)))))))
     ·exact (fA (by rw [He,if_pos hh0,hq]))
     ·exact (fun v V k=>by rw [dfW,if_pos hh0,hq]; exact k.elim (fun k=>absurd k.1 (by simpa using hw2)) (fun k=>k.2))
     ·exact (aR (by rw [dfX,if_pos hh0]; rfl))
    ·have hw2 : Je X U n i = [] := by simpa using hw
     have hq:=r3 hng2 hw2
     refine cY (cU (ts (rm rfl (rm rfl (ro rfl (gZ U_26 Z_25 (Ht rfl) (Ht rfl) rfl zo (by rw [Nat.mul_one,Nat.zero_add])) ?_)))))
     refine ro rfl (gD A_25 Z_25 (Ht rfl) (j:=0) rfl zo) (rm rfl (ro rfl (iG U_25 Z_60 (Ht rfl) (Ht rfl) rfl (j:=0) rfl zo zo zo) (ro rfl (kP A_60 Z_60 (Ht rfl) (j:=0) rfl zo zo zo) (ro rfl (cJ Tryz.call82 (xO (x:=gm X i i) (L:=G0) zo) ⟨(Ht rfl),trivial⟩) (ro rfl (eS (Ht rfl)) (eW (dX (Ht rfl) (fun hcl=>?_) (fun hcl=>?_))))))))
     ·have hx0 : gm X i i = Qi.zero := by simpa using hcl
      have e4:=r4 hx0
      refine gK rfl (dQ (ro rfl (dK (Ht rfl) (cV 1) z6) (rm rfl (eW (gX (i + 1) ⟨hin,hq.symm⟩ zo (zS rfl) (aU (qD (by rw [← hS,e4])) (aU (bD (by rw [← hS,e4])) aY)))))))
     ·have hx0 : ¬ gm X i i = Qi.zero := by simpa using hcl
      have e5:=r5 hx0
      refine cY (ts (rm rfl (ro rfl (dK (Ht rfl) (cV 1) z6) (ra rfl (eW (eY ?_))))))
      refine cP (fun (k : Nat) => i + 1 ≤ k ∧ k ≤ n) (fun (k : Nat) => n - k) (fun (k : Nat) => [(8, Is (.slice (some ⟨B48, 0, none⟩) n n)), (9, Is (.slice (some ⟨B51, 0, none⟩) n n)), (10, NT .i64 i), (12, NT .i64 k), (53, NT .i64 n), (54, NT .i64 i)]) (fun (k : Nat) => [kD B48 25 60 5 vs vs (dO aI (xT X n i k 0)), bP 25 1 (.slice (some ⟨B51, 0, none⟩) n n) ((pQ X U n i k).map bC)]) (i + 1) ⟨Nat.le_refl _, hin⟩
       (zS rfl) (aU (qD (by rw [Xh hGs])) (aU (bD (by rw [Qf hUl])) aY)) (fun k ⟨hk1,hk2⟩=>?_)
      refine cU (ts (rm rfl (rm rfl (ro rfl (iV U_26 (Ht rfl)) (ro rfl (gV (Ht rfl) (Ht rfl)) (eW (dX (Ht rfl) (fun hd=>?_) (fun hd=>?_))))))))
      ·have hkn : k < n := by simp only [decide_eq_true_eq] at hd; omega
       have hYs:=rK X n i k 0
       obtain ⟨Yk,hY⟩:∃ Yk,Yk = xT X n i k 0:=⟨_,rfl⟩
       have y1:gm Yk i k = gm X i k:=by rw [hY]; exact Jg hin hkn zo
       have y2:gm Yk i i = gm X i i:=by rw [hY]; exact Jg hin hin zo
       rw [← hY] at hYs ⊢
       have hYl:=hYs.1
       have hYi:=hYs.row hin
       haveI g2:aF (gm X i k) G0:=hGf.get hg1 i k
       haveI g3:aF (gm Yk i k) G0:=by rw [y1]; exact g2
       haveI g4:aF (gm Yk i i) G0:=by rw [y2]; exact g1
       have g5:aF (gm X i k / gm X i i) (G0 + 3 * G0 + 2):=oU g2 g1 hx0
       obtain ⟨Q,hQ⟩:∃ Q,Q = pQ X U n i k:=⟨_,rfl⟩
       have q1:Q.getD k [] = U.getD k []:=by rw [hQ]; exact Mg hkn zo
       have q2:Q.getD i [] = U.getD i []:=by rw [hQ]; exact Mg hin zo
       have hQl:Q.length = n:=by rw [hQ]; exact aE _ _
       have q3:bI (Q.getD k []) V0:=by rw [q1]; exact hVf.row k
       have q4:bI (Q.getD i []) V0:=by rw [q2]; exact hVf.row i
       have q5:(Q.getD k []).length = n:=by rw [q1]; exact hVs.row hkn
       have q6:(Q.getD i []).length = n:=by rw [q2]; exact hVs.row hin
       rw [← hQ]
       obtain ⟨F,hF⟩:∃ F,F = gm X i k / gm X i i:=⟨_,rfl⟩
       rw [← hF] at g5
       haveI g6:aF F (G0 + 3 * G0 + 2):=g5
       have g7:aF (-F) (G0 + 3 * G0 + 2):=fitNeg
       have hfd:gm Yk i k / gm Yk i i = F:=by rw [y1,y2,hF]
       refine cY (cU (eY (cU (Y.D_start (m:=20) [] (cQ (Ei:=[(8,_)]) rfl rfl (bQ (bJ rfl rfl) bX) rfl rfl (dZ rfl (cZ (Ht rfl))) (cQ (Ei:=[(10,_)]) rfl rfl (bQ (bJ rfl rfl) bX) rfl rfl (dZ rfl (cZ (Ht rfl))) (cQ (Ei:=[(96,_),(97,_)]) rfl rfl (bQ (bZ 0 rfl rfl) (bQ (bZ 1 rfl rfl) bX)) rfl rfl (dZ rfl (gZ U_26 Z_25 (Ht rfl) (Ht rfl) rfl zo (by rw [Nat.mul_one,Nat.zero_add]))) ?_)))))))
       refine cQ (Ei:=[(98,_)]) rfl rfl (bQ (bZ 2 rfl rfl) bX) rfl rfl (dZ rfl (gD A_25 Z_25 (Ht rfl) (j:=0) rfl zo)) (cQ (Ei:=[(12,_)]) rfl rfl (bQ (bJ rfl rfl) bX) rfl rfl (dZ rfl (cZ (Ht rfl))) (cQ (Ei:=[(99,_),(100,_)]) rfl rfl (bQ (bZ 3 rfl rfl) (bQ (bZ 4 rfl rfl) bX)) rfl rfl (dZ rfl (iG U_25 Z_60 (Ht rfl) (Ht rfl) rfl (j:=0) rfl zo zo zo)) (cQ (Ei:=[(101,_)]) rfl rfl (bQ (bZ 5 rfl rfl) bX) rfl rfl (dZ rfl (kP A_60 Z_60 (Ht rfl) (j:=0) rfl zo zo zo)) ?_)))
       refine cQ (Ei:=[(8,_)]) rfl rfl (bQ (bJ rfl rfl) bX) rfl rfl (dZ rfl (cZ (Ht rfl))) (cQ (Ei:=[(10,_)]) rfl rfl (bQ (bJ rfl rfl) bX) rfl rfl (dZ rfl (cZ (Ht rfl))) (cQ (Ei:=[(103,_),(104,_)]) rfl rfl (bQ (bZ 7 rfl rfl) (bQ (bZ 8 rfl rfl) bX)) rfl rfl (dZ rfl (gZ U_26 Z_25 (Ht rfl) (Ht rfl) rfl zo (by rw [Nat.mul_one,Nat.zero_add]))) ?_))
       refine cQ (Ei:=[(105,_)]) rfl rfl (bQ (bZ 9 rfl rfl) bX) rfl rfl (dZ rfl (gD A_25 Z_25 (Ht rfl) (j:=0) rfl zo)) (cQ (Ei:=[(10,_)]) rfl rfl (bQ (bJ rfl rfl) bX) rfl rfl (dZ rfl (cZ (Ht rfl))) (cQ (Ei:=[(106,_),(107,_)]) rfl rfl (bQ (bZ 10 rfl rfl) (bQ (bZ 11 rfl rfl) bX)) rfl rfl (dZ rfl (iG U_25 Z_60 (Ht rfl) (Ht rfl) rfl (j:=0) rfl zo zo zo)) (cQ (Ei:=[(108,_)]) rfl rfl (bQ (bZ 12 rfl rfl) bX) rfl rfl (dZ rfl (kP A_60 Z_60 (Ht rfl) (j:=0) rfl zo zo zo)) ?_)))
       refine cQ (Ei:=[(102,_),(109,_)]) rfl rfl (bQ (bZ 6 rfl rfl) (bQ (bZ 13 rfl rfl) bX)) rfl rfl (dZ rfl (cJ K_64 (eJ (tX (x:=gm Yk i k) (y:=gm Yk i i) (L:=G0) (M:=G0) zo) (by rw [hfd]; exact fun _ _ k=>k)) ⟨(Ht rfl),(Ht rfl),trivial⟩)) ?_
       refine cQ (Ei:=[(110,_)]) rfl rfl (bQ (bZ 14 rfl rfl) bX) rfl rfl (dZ rfl (cZ (Ht rfl))) (cQ (Ei:=[(95,_)]) rfl rfl (bQ (bZ 15 rfl rfl) bX) rfl rfl (dZ rfl (eQ (Ht rfl) rfl)) (cQ (Ei:=[(95,_)]) rfl rfl (bQ (bZ 15 rfl rfl) bX) rfl rfl (dZ rfl (eQ (Ht rfl) rfl)) (Y.D_newp (Ei:=[]) (fun bb=>box bb 60 [aH (decide (F.a < 0)),aN F.a.natAbs,aH (decide (F.b < 0)),aN F.b.natAbs,aN (du F)]) 19 rfl rfl rfl bX rfl rfl (by kernel_rfl) (eU (Ts:=[Is (.bool false),Is (.slice none 0 0),Is (.bool false),Is (.slice none 0 0),Is (.slice none 0 0)]) O_60 rfl (fun V=>aW zd (aW zd (aW zd (aW zd (aW zd (aG))))))) ?_)))
       refine Y.D_putN (Ei:=[(111,_)]) 18 rfl rfl rfl rfl rfl rfl (bQ (bZ 16 rfl rfl) bX) (fun bb=>mO Z_60 (Ht rfl) (Ht rfl) rfl (i:=0) rfl (aK rfl) rfl rfl) (Y.D_done aS rfl (by kernel_rfl) rfl (by simp [Y.okP]) rfl rfl (bU (bU (bU (bU (bU (bU (bU (bU (bU (bU (bU (bU (bU (bU (bU (bU (bU (bU (Y.F_newp (fun B13=>Y.F_putN (Y.F_nil ?_))))))))))))))))))))))
       refine ra rfl (eW (cU (fW (m:=13) (dp 9 rfl (cZ (Ht rfl)) (dp 12 rfl (cZ (Ht rfl)) (dp 9 rfl (cZ (Ht rfl)) (dp 12 rfl (cZ (Ht rfl)) (dE 115 2 116 3 rfl (dB U_26 Z_25 (Ht rfl) (Ht rfl) rfl (i:=1) rfl (by rw [List.length_map]; omega) rfl) ?_))))))))
       refine dq 117 4 rfl (pS A_25 Z_25 (Ht rfl) (i:=1) rfl rfl (eZ (eX (d:=[]) zo))) (dp 13 rfl (eK A_60 Z_60 (Ht rfl) (i:=2) rfl rfl rfl) (dq 119 6 rfl (cJ Tryz.call168 Sq ⟨(Ht rfl),trivial⟩) (dp 9 rfl (cZ (Ht rfl)) (dp 10 rfl (cZ (Ht rfl)) (dE 121 8 122 9 rfl (dB U_26 Z_25 (Ht rfl) (Ht rfl) rfl (i:=1) rfl (by rw [List.length_map]; omega) rfl) ?_)))))
       refine dq 123 10 rfl (pS A_25 Z_25 (Ht rfl) (i:=1) rfl rfl (eZ (eX (d:=[]) zo))) (C.D_step (Ei:=[(118,_),(120,_),(124,_)]) rfl rfl (bV (bG 5 rfl rfl) (bV (bG 7 rfl rfl) (bV (bG 11 rfl rfl) bW))) (dZ rfl (cJ Tryz.call197 (Sw (n:=n) (L:=V0) (N:=V0) q3 g7 q4 hv1 hv1 zo q5 q6 zo) ⟨(Ht rfl),(Ht rfl),(Ht rfl),trivial⟩)) (fK aS rfl (by kernel_rfl) (zF (zF (zF (aJ (aV ?_)))))))
       refine ro rfl (dB U_26 Z_25 (Ht rfl) (Ht rfl) rfl (i:=1) rfl (by rw [List.length_map]; omega) rfl) ?_
       refine mP Z_25 (Ht rfl) (Ht rfl) El.one (i:=1) rfl rfl (by rw [List.length_map]; omega) rfl ?_
       refine eW (ts (rm rfl (ro rfl (dK (Ht rfl) (cV 1) z6) (ra rfl (eW (eY ?_))))))
       refine cP (fun (l : Nat) => i + 1 ≤ l ∧ l ≤ n) (fun (l : Nat) => n - l) (fun (l : Nat) => [(8, Is (.slice (some ⟨B48, 0, none⟩) n n)), (9, Is (.slice (some ⟨B51, 0, none⟩) n n)), (10, NT .i64 i), (12, NT .i64 k), (13, cC B13 0), (15, NT .i64 l), (53, NT .i64 n), (54, NT .i64 i)]) (fun (l : Nat) => [kD B48 25 60 5 vs vs (dO aI (xT X n i k l)), bP 25 1 (.slice (some ⟨B51, 0, none⟩) n n) ((pQ X U n i (k + 1)).map bC), box B13 60 [aH (decide (F.a < 0)), aN F.a.natAbs, aH (decide (F.b < 0)), aN F.b.natAbs, aN (du F)]]) (i + 1) ⟨Nat.le_refl _, hin⟩
        (zS rfl) (aU (qD (by rw [hY,a3l])) (aU (bD (by rw [← List.map_set,q1,q2,hF,hQ]; exact congrArg _ (Xi hkn zo))) (aU (aD rfl) aY))) (fun l ⟨hl1,hl2⟩=>?_)
       refine cU (ts (rm rfl (rm rfl (ro rfl (iV U_26 (Ht rfl)) (ro rfl (gV (Ht rfl) (Ht rfl)) (eW (dX (Ht rfl) (fun he=>?_) (fun he=>?_))))))))
       ·have hln : l < n := by simp only [decide_eq_true_eq] at he; omega
        have hTs:=rK X n i k l
        have hst:=a0t (G:=X) (n:=n) (i:=i) (k:=k) (l:=l) hln hkn zo zo
        obtain ⟨T,hT⟩:∃ T,T = xT X n i k l:=⟨_,rfl⟩
        have t1:gm T l k = gm X l k:=by rw [hT]; exact Jg hln hkn zo
        have t2:gm T l i = gm X l i:=by rw [hT]; exact Jg hln hin zo
        rw [← hF,← t1,← t2,← hT] at hst
        rw [← hT] at hTs ⊢
        have hTl:=hTs.1
        have hTr:=hTs.row hln
        have hTg:(T.getD l []).length = n:=hTr
        haveI p1:aF (gm T l k) G0:=by rw [t1]; exact hGf.get hg1 l k
        haveI p2:aF (gm T l i) G0:=by rw [t2]; exact hGf.get hg1 l i
        haveI p3:aF (gm T l i * F) (G0 + (G0 + 3 * G0 + 2) + 1):=fitMul
        refine cY (cU (eY (fW (m:=22) (dp 8 rfl (cZ (Ht rfl)) (dp 15 rfl (cZ (Ht rfl)) (dE 135 0 136 1 rfl (gZ U_26 Z_25 (Ht rfl) (Ht rfl) rfl zo (by rw [Nat.mul_one,Nat.zero_add])) ?_))))))
        refine dq 137 2 rfl (gD A_25 Z_25 (Ht rfl) (j:=0) rfl zo) (dp 12 rfl (cZ (Ht rfl)) (dp 8 rfl (cZ (Ht rfl)) (dp 15 rfl (cZ (Ht rfl)) (dE 140 5 141 6 rfl (gZ U_26 Z_25 (Ht rfl) (Ht rfl) rfl zo (by rw [Nat.mul_one,Nat.zero_add])) ?_))))
        refine dq 142 7 rfl (gD A_25 Z_25 (Ht rfl) (j:=0) rfl zo) (dp 12 rfl (cZ (Ht rfl)) (dE 143 8 144 9 rfl (iG U_25 Z_60 (Ht rfl) (Ht rfl) rfl (j:=0) rfl zo zo zo) (dq 145 10 rfl (kP A_60 Z_60 (Ht rfl) (j:=0) rfl zo zo zo) (dp 8 rfl (cZ (Ht rfl)) (dp 15 rfl (cZ (Ht rfl)) (dE 147 12 148 13 rfl (gZ U_26 Z_25 (Ht rfl) (Ht rfl) rfl zo (by rw [Nat.mul_one,Nat.zero_add])) ?_))))))
        refine dq 149 14 rfl (gD A_25 Z_25 (Ht rfl) (j:=0) rfl zo) (dp 10 rfl (cZ (Ht rfl)) (dE 150 15 151 16 rfl (iG U_25 Z_60 (Ht rfl) (Ht rfl) rfl (j:=0) rfl zo zo zo) (dq 152 17 rfl (kP A_60 Z_60 (Ht rfl) (j:=0) rfl zo zo zo) (dp 13 rfl (eK A_60 Z_60 (Ht rfl) (i:=2) rfl rfl rfl) (dE 153 18 154 19 rfl (cJ K_70 (lS (x:=gm T l i) (y:=F) (L:=G0) (M:=G0 + 3 * G0 + 2) zo) ⟨(Ht rfl),(Ht rfl),trivial⟩) ?_)))))
        refine dE 146 11 155 20 rfl (cJ K_69 (wI (x:=gm T l k) (y:=gm T l i * F) (L:=G0) (M:=G0 + (G0 + 3 * G0 + 2) + 1) zo) ⟨(Ht rfl),(Ht rfl),trivial⟩) (fK aS rfl (by kernel_rfl) (zF (zF (zF (zF (zF (aJ (aJ (aV (ro rfl (iG U_25 Z_60 (Ht rfl) (Ht rfl) rfl (j:=0) rfl zo zo zo) (a4Y Z_60 (Ht rfl) (Ht rfl) (j:=0) rfl (El.ag rfl) (F:=aI) (z:=gm T l k - gm T l i * F) zo zo zo rfl ?_)))))))))))
        refine eW (bM (dQ (rm rfl (ro rfl (dK (Ht rfl) (cV 1) z6) (ra rfl (eW (gX (l + 1) ⟨by omega,hln⟩ zo (zS rfl) (aU (qD (congrArg _ hst)) (aU (fun _ _ _ h=>h) (aU (aD rfl) aY))))))))))
       ·have hln : l = n := by simp only [decide_eq_false_iff_not] at he; omega
        rw [hln,a3k]
        refine gK rfl (bM (dQ (rm rfl (ro rfl (dK (Ht rfl) (cV 1) z6) (ra rfl (eW (cM [0,1] rfl (by decide) (gX (k + 1) ⟨by omega,hkn⟩ zo (zS rfl) (aU (fun _ _ _ h=>h) (aU (fun _ _ _ h=>h) aY))))))))))
      ·have hkn : k = n := by simp only [decide_eq_false_iff_not] at hd; omega
       rw [hkn]
       refine gK rfl (bM (dQ (ro rfl (dK (Ht rfl) (cV 1) z6) (rm rfl (eW (gX (i + 1) ⟨hin,hq.symm⟩ zo (zS rfl) (aU (qD (by rw [← hS,e5]; rfl)) (aU (bD (by rw [← hS,e5])) aY))))))))
  ·have hin : i = n := by simp only [decide_eq_false_iff_not] at hc; omega
   have hq:Bx h n n 0 = (true,[]):=by rw [← hR,hin,Nat.sub_self]; rfl
   refine gK rfl (ts (ro rfl (cX cW) (ro rfl (cX cW) (ro rfl (cX (cV 0)) (eW (wP rfl (fV (fX rfl) ?_) (fV (fX rfl) ?_) (fV (fX rfl) ?_)))))))
   ·exact (fA (by rw [He,if_pos hh0,hq]))
   ·exact (fun v V k=>by rw [dfW,if_pos hh0,hq]; exact iP v V k)
   ·exact (aR (by rw [dfX,if_pos hh0]; rfl))
end
section
open Go Go.RowKit
theorem a0Y:Tryz.prog.info? 3 = some Tryz.t3:=by kernel_rfl
theorem Wk:Tryz.prog.underlying 103 = some (.slice 3):=by kernel_rfl
end
section
open Go Go.RowKit
theorem Pr {l:List Int} {v:Int} (hl:l.length ≤ 1000000):bB Tryz.prog 230 [kU 1 (l.map (aL .i64)),aL .i64 v] (aL .i64 (Jt (fun x=>decide (v = x)) l)):=by
 refine bB.intro Tryz.func230 rfl Tryz.ntmps230 rfl (fun cx=>(ts (ro rfl (cX (cV 0)) (eW (cU (ts (rm rfl (ro rfl (dY U_103 (Ht rfl) aB) (ro rfl (cZ (cV 0)) (eW (eY ?_)))))))))))
 refine cP (fun (k : Nat) => k ≤ l.length ∧ ∀ (i : Nat) (x : Int), i < k → l[i]? = some x → decide (v = x) = false) (fun (k : Nat) => l.length - k) (fun (k : Nat) => [(0, kU 1 (l.map (aL .i64))), (1, aL .i64 v), (7, NT .i64 l.length), (8, NT .i64 k)]) (fun (k : Nat) => []) 0 ⟨Nat.zero_le _, fun i x h => by omega⟩
  (zS rfl) aY (fun k ⟨hk,hn⟩=>?_)
 refine ts (ro rfl (gV (Ht rfl) (Ht rfl)) (eW (cU (dX (Ht rfl) (fun hb=>?_) (fun hb=>?_)))))
 ·simp only [decide_eq_true_eq] at hb
  refine cY (cU (eY (ts (rm rfl (ra rfl (eW (ts (rm rfl (rm rfl (rm rfl (ro rfl (dJ U_103 Z_3 (Ht rfl) (Ht rfl) rfl (eZ (tY hb))) (ro rfl (dW A_3 Z_3 (Ht rfl)) (ro rfl (lY (Ht rfl) (Ht rfl)) (eW (dX (Ht rfl) (fun hc=>?_) (fun hc=>?_))))))))))))))))
  ·refine ts (rm rfl (ra rfl (eW (fU rfl (fV (fX rfl) ?_)))))
   exact (aR (Ju (p:=fun x=>decide (v = x)) (tY hb) hc hn).symm)
  ·refine cY (bM (dQ (ro rfl (dK (Ht rfl) (cV 1) z6) (rm rfl (eW ?_)))))
   refine gX (k + 1) ⟨hb, fun i x h1 h2 => by
    by_cases e:i = k
    ·subst e; rw [tY hb] at h2; obtain rfl:=Option.some.inj h2; exact hc
    ·exact hn i x zo h2⟩ zo (zS rfl) aY
 ·simp only [decide_eq_false_iff_not] at hb
  refine gK rfl (ts (ro rfl (cX cW) (eW (fU rfl (fV (fX rfl) ?_)))))
  exact (aR (Aj (p:=fun x=>decide (v = x)) (fun i x h=>hn i x (by have:=(List.getElem?_eq_some_iff.1 h).1; omega) h)).symm)
theorem wH {l:List Int} {v:Int} (hl:l.length ≤ 1000000):bB Tryz.prog 145 [kU 1 (l.map (aL .i64)),aL .i64 v] (aH (l.any fun x=>decide (v = x))):=by
 refine bB.intro Tryz.func145 rfl Tryz.ntmps145 rfl (fun cx=>(ts (ro rfl (cX cW) (eW (ts (rm rfl (rm rfl (ro rfl (cJ Tryz.call230 (Pr zo) ⟨(Ht rfl),(Ht rfl),trivial⟩) (ro rfl (nY (Ht rfl) cW) (ra rfl (eW (fU rfl (fV (fX rfl) ?_)))))))))))))
 exact (fA (Ep _ l))
theorem Ix {z:List Qi} {s:List (List Qi)} {G:List Nat} (hl:z.length ≤ 1000) (hG:G.length ≤ 1000):bB Tryz.prog 124 [cO z s,kU 1 ((gnI G).map (aL .i64))] (jC ((gN G z.length).map Nat.succ)):=by
 refine bB.intro Tryz.func124 rfl Tryz.ntmps124 rfl (fun cx=>(ts (rn rfl (fY (Ht rfl)) fun B2=>(ro rfl (cX cW) (eW (ts (ro rfl (cX cW) (eW (cU (ts (ro rfl (cX (cV 1)) (eW (eY (uA 3 1 ?_))))))))))))))
 refine fP (fun (i : Nat) (v : Value) => i ≤ z.length) (fun (i : Nat) (v : Value) => z.length - i) (fun (i : Nat) (v : Value) => [(1, kU 1 ((gnI G).map (aL .i64))), (2, cC B2 0), (5, Is v), (6, NT .i64 (i + 1))]) (fun (i : Nat) (v : Value) => [box B2 28 [bC z, dF s], bP 3 1 v (((gN G i).map Nat.succ).map (NT .i64))]) 0 (.slice none 0 0) (Nat.zero_le _)
  (zS rfl) (aU (aD rfl) (aU (bD rfl) aY)) (fun i v hi=>?_)
 refine cU (ts (rm rfl (ro rfl (eG eP (Ht rfl) rfl) (ro rfl (fZ A_25 Z_25 (Ht rfl) (i:=0) rfl rfl) (ro rfl (dY U_25 (Ht rfl) aB) (ro rfl (Co (Ht rfl) (Ht rfl)) (eW (dX (Ht rfl) (fun hd=>?_) (fun hd=>?_)))))))))
 ·simp only [decide_eq_true_eq] at hd
  have hcl:=Ci G i
  refine cY (cU (eY (jU (fun (v2:Value)=>True) (fun (v2:Value)=>[(1,kU 1 ((gnI G).map (aL .i64))),(2,cC B2 0),(5,Is v2),(6,NT .i64 (i + 1))]) (fun (v2:Value)=>[box B2 28 [bC z,dF s],bP 3 1 v2 (((gN G (i + 1)).map Nat.succ).map (NT .i64))]) ?_ (fun v2 _=>?_))))
  ·refine ts (rm rfl (rm rfl (ro rfl (cJ Tryz.call145 (wH (l := gnI G) (v := ((i + 1 : Nat) : Int)) (by rw [List.length_map]; omega)) ⟨(Ht rfl), (Ht rfl), trivial⟩) ?_)))
   refine ro rfl (eS (Ht rfl)) (eW (dX (Ht rfl) (fun he=>?_) (fun he=>?_)))
   ·rw [a0V] at he
    have he2:i ∉ G:=by simpa using he
    have hnx:gN G (i + 1) = gN G i ++ [i]:=by rw [gN,if_neg he2]
    refine dQ (rm rfl (rm rfl (ro rfl (eB (xs:=[.tmp 19]) U_103 Z_3 O_3 (cG (Ht rfl) cK) rfl rfl rfl) (sD (inf:=Tryz.t3) Wk a0Y rfl rfl rfl (Ht rfl) (Ht rfl) (i:=1) rfl (by simp) (fun T hT=>by simp at hT; subst hT; exact El.one) (by show _ * 8 ≤ _; simp only [List.length_map,List.length_cons,List.length_nil]; omega) (by simp only [List.length_map,List.length_cons,List.length_nil]; omega) rfl (fun v3=>?_)))))
    refine ra rfl (eW (aT v3 trivial (zS rfl) (aU (aD rfl) (aU (bD (by rw [hnx,List.map_append,List.map_append]; rfl)) aY))))
   ·rw [a0V] at he
    have he2:i ∈ G:=by simpa using he
    have hnx:gN G (i + 1) = gN G i:=by rw [gN,if_pos he2,List.append_nil]
    refine cY (aT v trivial (zS rfl) (aU (aD rfl) (aU (bD (by rw [hnx])) aY)))
  ·refine bM (dQ (rm rfl (ro rfl (dK (Ht rfl) (cV 1) z6) (ra rfl (eW (gX (i + 1,v2) hd (by dsimp only; omega) (zS rfl) (dI.refl _)))))))
 ·simp only [decide_eq_false_iff_not] at hd
  obtain rfl:z.length = i:=Nat.le_antisymm zo hi
  refine gK rfl (gG (i:=1) (tt:=5) rfl rfl fR (ts (rm rfl (ra rfl (eW ?_)))))
  exact fU rfl (fX rfl)
theorem a5S {z:List Qi} {s:List (List Qi)} {p:Nat} (hp:p < z.length) (hl:z.length ≤ 1000):bB Tryz.prog 124 [cO z s,kU 1 [aL .i64 ((p:Int) + 1)]] (jC (Ex p (z.length - 1))):=by
 rw [← a3L hp]; exact Ix (G:=[p]) hl (by simp)
theorem Sx {z:List Qi} {s:List (List Qi)} {Q:List Nat} {m:Nat} (hs:cB s z.length z.length) (hQ:∀ x,x ∈ Q → x < z.length) (hm:Q.length = m) (hm2:m ≤ 1000) (hl:z.length ≤ 1000) {i j:Nat} (hi:i < m) (hj:j < m):bB Tryz.prog 220 [NT .i64 i,NT .i64 j,PT (cO z s),PT (jC (Q.map Nat.succ))] (aI (gm s (cR Q i) (cR Q j))):=by
 have hki:cR Q i < z.length:=sA hQ zo
 have hkj:cR Q j < z.length:=sA hQ zo
 have hsl:=hs.1
 have hsr:=hs.row hki
 refine bB.intro Tryz.func220 rfl Tryz.ntmps220 rfl (fun cx=>(ts (rn rfl (eU (Ts:=[Is (.bool false),Is (.slice none 0 0),Is (.bool false),Is (.slice none 0 0),Is (.slice none 0 0)]) O_60 rfl (fun V=>aW zd (aW zd (aW zd (aW zd (aW zd (aG))))))) fun B6=>(eW (cU (fW (m:=14) (dp 2 rfl (gR eD (Ht rfl) rfl) (dq 7 0 rfl (dW A_26 Z_26 (Ht rfl)) (dp 3 rfl (dW A_103 Z_103 (Ht rfl)) (dp 0 rfl (cZ (Ht rfl)) ?_))))))))))
 refine dE 9 2 10 3 rfl (dJ U_103 Z_3 (Ht rfl) (Ht rfl) rfl (eZ (qE zo))) (dq 11 4 rfl (dW A_3 Z_3 (Ht rfl)) (dq 12 5 rfl (aM.nat (dU (Ht rfl) (cV 1) zo z6) (show cR Q i + 1 - 1 = cR Q i by omega)) (dE 8 1 13 6 rfl (dJ U_26 Z_25 (Ht rfl) (Ht rfl) rfl (eZ (eX (d:=[]) zo))) (dq 14 7 rfl (dW A_25 Z_25 (Ht rfl)) (dp 3 rfl (dW A_103 Z_103 (Ht rfl)) ?_)))))
 refine dp 1 rfl (cZ (Ht rfl)) (dE 16 9 17 10 rfl (dJ U_103 Z_3 (Ht rfl) (Ht rfl) rfl (eZ (qE zo))) (dq 18 11 rfl (dW A_3 Z_3 (Ht rfl)) (dq 19 12 rfl (aM.nat (dU (Ht rfl) (cV 1) zo z6) (show cR Q j + 1 - 1 = cR Q j by omega)) (fK aS rfl (by kernel_rfl) (zF (zF (zF (aJ (aJ (aV (ro rfl (dJ U_25 Z_60 (Ht rfl) (Ht rfl) rfl (eZ (eX (d:=Qi.zero) zo))) ?_)))))))))))
 refine ro rfl (dW A_60 Z_60 (Ht rfl)) (gJ Z_60 (Ht rfl) (Ht rfl) rfl (i:=0) rfl (aK rfl) rfl rfl (eW ?_))
 exact fU rfl (gQ A_60 Z_60 rfl (i:=0) rfl rfl)
theorem Sy {z:List Qi} {s:List (List Qi)} {Q:List Nat} {m:Nat} (hs:cB s z.length z.length) (hQ:∀ x,x ∈ Q → x < z.length) (hm:Q.length = m) (hm2:m ≤ 1000) (hl:z.length ≤ 1000):jM Tryz.prog 125 [cO z s,jC (Q.map Nat.succ)] [] (Nat) (fun B=>eT [bC (oG z Q),Is (.slice (some ⟨B,0,none⟩) m m)]) (fun B=>[qC B 25 60 5 (dO aI (rG s Q))]) (fun _=>True):=by
 have hll:(Q.map Nat.succ).length = m:=by rw [List.length_map]; exact hm
 refine jM.intro Tryz.func125 rfl Tryz.ntmps125 rfl (fun cx Z=>(ts (rn rfl (fY (Ht rfl)) fun B2=>(rn rfl (nV (Ht rfl)) fun B3=>(rn rfl (eU (Ts:=[Is (.slice none 0 0),Is (.slice none 0 0)]) O_28 rfl (fun V=>aW zd (aW zd (aG)))) fun B4=>(eW (cU (gG (i:=1) (tt:=2) rfl rfl jF (gG (i:=2) (tt:=3) rfl rfl jE (dQ (ro rfl (dW A_103 Z_103 (Ht rfl)) (ro rfl (dY U_103 (Ht rfl) (by rw [List.length_map,hll])) ?_))))))))))))
 refine rn rfl (iU (T:=aI Qi.zero) (i:=Tryz.t60) lE jH rfl rfl (Ht rfl) rfl jB (El.ag rfl) (by show 88 * _ ≤ _; omega) zo) fun B10=>ra rfl (eW (cU (ts (ro rfl (dW A_103 Z_103 (Ht rfl)) (ro rfl (dY U_103 (Ht rfl) (by rw [List.length_map,hll])) ?_)))))
 refine ro rfl (cZ (cV 0)) (eW (eY (cM [0,3,4] rfl (by decide) ?_)))
 refine cP (fun (i : Nat) => i ≤ m) (fun (i : Nat) => m - i) (fun (i : Nat) => [(2, PT (cO z s)), (3, PT (jC (Q.map Nat.succ))), (4, cC B4 0), (5, Is B10), (11, jC (Q.map Nat.succ)), (12, NT .i64 m), (13, NT .i64 i)]) (fun (i : Nat) => [Z, box B4 28 [Is (.slice none 0 0), Is (.slice none 0 0)], bP 60 5 B10 ((nA (fun i => gv z (cR Q i)) Qi.zero m i).map aI)]) 0 (Nat.zero_le _)
  (zS rfl) (aU (fun _ _ _ h=>h) (aU (fun _ _ _ h=>h) (aU (bD (by rw [← kF]; exact rU aI m)) aY))) (fun i hi=>?_)
 refine ts (ro rfl (gV (Ht rfl) (Ht rfl)) (eW (cU (dX (Ht rfl) (fun hd=>?_) (fun hd=>?_)))))
 ·simp only [decide_eq_true_eq] at hd
  have hki:cR Q i < z.length:=sA hQ zo
  refine cY (cU (eY (ts (rm rfl (ro rfl (dJ U_103 Z_3 (Ht rfl) (Ht rfl) rfl (eZ (qE zo))) (ro rfl (dW A_3 Z_3 (Ht rfl)) (ra rfl (ra rfl (eW (dQ (rm rfl (rm rfl (ro rfl (gR eP (Ht rfl) rfl) (ro rfl (dW A_25 Z_25 (Ht rfl)) (rm rfl (ro rfl (aM.nat (dU (Ht rfl) (cV 1) zo z6) (show cR Q i + 1 - 1 = cR Q i by omega)) (ro rfl (dJ U_25 Z_60 (Ht rfl) (Ht rfl) rfl (eZ (eX (d:=Qi.zero) hki))) ?_)))))))))))))))))
  refine ro rfl (dW A_60 Z_60 (Ht rfl)) (ro rfl (dB U_25 Z_60 (Ht rfl) (Ht rfl) rfl (i:=2) rfl (by rw [List.length_map,eR]; omega) rfl) ?_)
  refine mP Z_60 (Ht rfl) (Ht rfl) (El.ag rfl) (i:=2) rfl rfl (by rw [List.length_map,eR]; omega) rfl ?_
  refine eW (bM (dQ (ro rfl (dK (Ht rfl) (cV 1) z6) (rm rfl (eW (gX (i + 1) hd zo (zS rfl) (aU (fun _ _ _ h=>h) (aU (fun _ _ _ h=>h) (aU (bD (by rw [iR,← lN (f:=(fun i=>gv z (cR Q i)))])) aY)))))))))
 ·simp only [decide_eq_false_iff_not] at hd
  obtain rfl:m = i:=Nat.le_antisymm zo hi
  rw [lM]
  refine gK rfl (gG (i:=2) (tt:=5) rfl rfl fR ?_)
  rw [show oG z Q = tab m fun i=>gv z (cR Q i) from by rw [oG,hm],show rG s Q = tab m fun i=>tab m fun j=>gm s (cR Q i) (cR Q j) from by rw [rG,hm]]
  refine ts (rm rfl (ro rfl (dW A_103 Z_103 (Ht rfl)) (ro rfl (dY U_103 (Ht rfl) (by rw [List.length_map,hll])) ?_)))
  refine ro rfl (lO (γ:=Fin m × Fin m) (Ts:=fun x=>[NT .i64 x.1.1,NT .i64 x.2.1]) (U:=fun x=>aI (gm s (cR Q x.1.1) (cR Q x.2.1))) Tryz.call220 (fun x=>Sx hs hQ hm hm2 hl x.1.2 x.2.2) ⟨(Ht rfl),(Ht rfl),trivial⟩) (oS K_110 (Iw (n:=m) (f:=fun i j=>gm s (cR Q i) (cR Q j)) zo) ⟨(Ht rfl),(Ht rfl),trivial⟩ rfl (fun B32 _=>(ro rfl (oK (Ht rfl) (Ht rfl)) (gJ Z_28 (Ht rfl) (Ht rfl) rfl (i:=1) rfl (aK rfl) rfl rfl (eW ?_)))))
  exact lJ B32 trivial [0,3] ⟨⟨_,rfl,fun _ _ _ h=>h⟩,⟨_,rfl,fun _ _ _ h=>h⟩,trivial⟩ (by decide) (zJ rfl (gQ A_28 Z_28 rfl (i:=1) rfl rfl))
theorem a33 {z:List Qi} {s:List (List Qi)} {p m:Nat} (hs:cB s z.length z.length) (hp:p < z.length) (hm:m = z.length - 1) (hl:z.length ≤ 1000):jM Tryz.prog 125 [cO z s,jC (Ex p m)] [] Nat (fun B=>eT [bC (zA z p m),Is (.slice (some ⟨B,0,none⟩) m m)]) (fun B=>[qC B 25 60 5 (dO aI (a8f s p m))]) (fun _=>True):=by
 have h:=Sy (Q:=tab m (lI p)) hs (a4M hp hm) (aE _ _) zo hl
 rw [Oo,a2e,a3N] at h
 exact h
theorem tH {n:Int} (h1:-9223372036854775808 ≤ n) (h2:n ≤ 9223372036854775807):bB Tryz.prog 118 [aL .i64 n] (aI (Qi.ofInt n)):=by
 refine bB.intro Tryz.func118 rfl Tryz.ntmps118 rfl (fun cx=>(ts (rn rfl (eU (Ts:=[Is (.bool false),Is (.slice none 0 0),Is (.bool false),Is (.slice none 0 0),Is (.slice none 0 0)]) O_60 rfl (fun V=>aW zd (aW zd (aW zd (aW zd (aW zd (aG))))))) fun B2=>(eW (ts (rn rfl (eU (Ts:=[Is (.bool false),Is (.slice none 0 0),Is (.bool false),Is (.slice none 0 0),Is (.slice none 0 0)]) O_60 rfl (fun V=>aW zd (aW zd (aW zd (aW zd (aW zd (aG))))))) fun B3=>?_))))))
 refine eW (cU (fW (m:=4) (dp 3 rfl (eK A_60 Z_60 (Ht rfl) (i:=1) rfl rfl rfl) (dq 4 0 rfl (bT cD (Ht rfl)) (dp 0 rfl (cZ (Ht rfl)) (dq 6 2 rfl (cJ K_52 (Dq (n:=n) h1 h2) ⟨(Ht rfl),trivial⟩) (fK aS rfl (by kernel_rfl) (zF (aV (ro rfl (bF qT Tryz.call304 Lo (Ht rfl) ⟨(Ht rfl),trivial⟩) (gJ Z_60 (Ht rfl) (Ht rfl) rfl (i:=0) rfl (aK rfl) rfl rfl (eW ?_))))))))))))
 exact fU rfl (gQ A_60 Z_60 rfl (i:=0) rfl rfl)
end
section
open Go Go.RowKit
theorem a0e {z:List Qi} {s:List (List Qi)} {port:Int} {g:Qi} {L:Nat} (hs:cB s z.length z.length) (hf:bE s L) (hg:aF g L) (hL:1 ≤ L) (hLb:L ≤ 1000000) (hl:z.length ≤ 1000):bB Tryz.prog 40 [cO z s,aL .i64 port,aI g] (eH [cO (nG z s port g) (pO z s port g),aL .i64 (oQ z s port g)]):=by
 haveI:=hg
 have hsl:=hs.1
 refine bB.intro Tryz.func40 rfl Tryz.ntmps40 rfl (fun cx=>(ts (rn rfl (fY (Ht rfl)) fun B3=>(rn rfl (fY (Ht rfl)) fun B5=>(rn rfl (eU (Ts:=[Is (.slice none 0 0),Is (.slice none 0 0)]) O_28 rfl (fun V=>aW zd (aW zd (aG)))) fun B6=>(ro rfl (cX (cV 0)) (eW (cU (eY (ts (ro rfl (eK A_28 Z_28 (Ht rfl) (i:=0) rfl rfl rfl) (rm rfl (ro rfl (cJ K_138 Gx ⟨(Ht rfl),(Ht rfl),trivial⟩) (ro rfl (eS (Ht rfl)) (ra rfl (eW (dX (Ht rfl) (fun hb=>?_) (fun hb=>?_))))))))))))))))))
 ·have he : oQ z s port g = 1 := a7m (by simpa only [Bool.not_eq_true', decide_eq_false_iff_not] using hb)
  refine ts (ro rfl (aM.imp (kY ) lC) (gJ Z_28 (Ht rfl) (Ht rfl) rfl (i:=2) rfl (aK rfl) rfl rfl (ro rfl (cX (cV 1)) (eW (bN rfl (fV (gQ A_28 Z_28 rfl (i:=2) rfl rfl) ?_) (fV (fX rfl) ?_))))))
  ·exact (Lb he (by decide))
  ·exact (aR he.symm)
 ·have hb2 : 1 ≤ port ∧ port ≤ (z.length : Int) := by simpa using hb
  obtain ⟨p,rfl⟩:∃ p:Nat,port = (p:Int) + 1:=⟨(port - 1).toNat,by omega⟩
  have hp:p < z.length:=by omega
  refine ts (ro rfl (eG eP (Ht rfl) rfl) (ro rfl (fZ A_25 Z_25 (Ht rfl) (i:=0) rfl rfl) (ro rfl (dY U_25 (Ht rfl) aB) (ro rfl (cL (Ht rfl) (cV 1)) (ra rfl (eW (dX (Ht rfl) (fun hc=>?_) (fun hc=>?_))))))))
  ·have he : oQ z s ((p : Int) + 1) g = 4 := a7n hb2 (by simpa using hc)
   refine ts (ro rfl (aM.imp (kY ) lC) (gJ Z_28 (Ht rfl) (Ht rfl) rfl (i:=2) rfl (aK rfl) rfl rfl (ro rfl (cX (cV 4)) (eW (bN rfl (fV (gQ A_28 Z_28 rfl (i:=2) rfl rfl) ?_) (fV (fX rfl) ?_))))))
   ·exact (Lb he (by decide))
   ·exact (aR he.symm)
  ·have hn1 : ¬ z.length = 1 := by simpa using hc
   have htd:=a7o (s:=s) (g:=g) hp hn1
   obtain ⟨m,hm⟩:∃ m,m = z.length - 1:=⟨_,rfl⟩
   have hspl:=hs.row hp
   haveI f0:aF (Qi.ofInt 1) 1:=lA
   haveI f1:aF (gm s p p) L:=hf.get hL p p
   refine cY (bM (ts (rm rfl (ro rfl (iN (Ht rfl) cW (r:=((p:Nat):Int)) ((xK (z:=(p:Int) + 1 - 1) zo).trans zo)) ?_))))
   refine ra rfl (eW (cU (Y.D_start (m:=22) [] (cQ (Ei:=[(5,_)]) rfl rfl (bQ (bJ rfl rfl) bX) rfl rfl (dZ rfl (eK A_60 Z_60 (Ht rfl) (i:=1) rfl rfl rfl)) (cQ (Ei:=[(32,_)]) rfl rfl (bQ (bZ 0 rfl rfl) bX) rfl rfl (dZ rfl (bT cD (Ht rfl))) (cQ (Ei:=[]) rfl rfl bX rfl rfl (dZ rfl (cJ K_118 (tH (n:=1) (by decide) (by decide)) ⟨(cV 1),trivial⟩)) (cQ (Ei:=[(34,_)]) rfl rfl (bQ (bZ 2 rfl rfl) bX) rfl rfl (dZ rfl (bT cD (Ht rfl))) ?_)))))))
   refine cQ (Ei:=[(3,_)]) rfl rfl (bQ (bJ rfl rfl) bX) rfl rfl (dZ rfl (eG eD (Ht rfl) rfl)) (cQ (Ei:=[(36,_)]) rfl rfl (bQ (bZ 4 rfl rfl) bX) rfl rfl (dZ rfl (fZ A_26 Z_26 (Ht rfl) (i:=0) rfl rfl)) (cQ (Ei:=[(8,_)]) rfl rfl (bQ (bJ rfl rfl) bX) rfl rfl (dZ rfl (cZ (Ht rfl))) (cQ (Ei:=[(37,_),(38,_)]) rfl rfl (bQ (bZ 5 rfl rfl) (bQ (bZ 6 rfl rfl) bX)) rfl rfl (dZ rfl (dJ U_26 Z_25 (Ht rfl) (Ht rfl) rfl (eZ (eX (d:=[]) zo)))) ?_)))
   refine cQ (Ei:=[(39,_)]) rfl rfl (bQ (bZ 7 rfl rfl) bX) rfl rfl (dZ rfl (dW A_25 Z_25 (Ht rfl))) (cQ (Ei:=[(8,_)]) rfl rfl (bQ (bJ rfl rfl) bX) rfl rfl (dZ rfl (cZ (Ht rfl))) (cQ (Ei:=[(40,_),(41,_)]) rfl rfl (bQ (bZ 8 rfl rfl) (bQ (bZ 9 rfl rfl) bX)) rfl rfl (dZ rfl (dJ U_25 Z_60 (Ht rfl) (Ht rfl) rfl (eZ (eX (d:=Qi.zero) zo)))) (cQ (Ei:=[(42,_)]) rfl rfl (bQ (bZ 10 rfl rfl) bX) rfl rfl (dZ rfl (dW A_60 Z_60 (Ht rfl))) ?_)))
   refine cQ (Ei:=[(43,_)]) rfl rfl (bQ (bZ 11 rfl rfl) bX) rfl rfl (dZ rfl (bT cD (Ht rfl))) (cQ (Ei:=[(5,_)]) rfl rfl (bQ (bJ rfl rfl) bX) rfl rfl (dZ rfl (eK A_60 Z_60 (Ht rfl) (i:=1) rfl rfl rfl)) (cQ (Ei:=[(44,_),(45,_)]) rfl rfl (bQ (bZ 12 rfl rfl) (bQ (bZ 13 rfl rfl) bX)) rfl rfl (dZ rfl (bF eM K_70 (lS (x:=gm s p p) (y:=g) (L:=L) (M:=L) zo) (Ht rfl) ⟨(Ht rfl),trivial⟩)) (cQ (Ei:=[(35,_),(46,_)]) rfl rfl (bQ (bZ 3 rfl rfl) (bQ (bZ 14 rfl rfl) bX)) rfl rfl (dZ rfl (bF lW K_69 (wI (x:=Qi.ofInt 1) (y:=gm s p p * g) (L:=1) (M:=L + L + 1) (hx:=f0) zo) (Ht rfl) ⟨(Ht rfl),trivial⟩)) ?_)))
   refine cQ (Ei:=[(33,_),(47,_)]) rfl rfl (bQ (bZ 1 rfl rfl) (bQ (bZ 15 rfl rfl) bX)) rfl rfl (dZ rfl (bF lV K_64 (tX (x:=g) (y:=Qi.ofInt 1 - gm s p p * g) (L:=L) (M:=1 + (L + L + 1) + 1) (hy:=@fitSub _ _ _ _ f0 inferInstance) zo) (Ht rfl) ⟨(Ht rfl),trivial⟩)) (cQ (Ei:=[(48,_)]) rfl rfl (bQ (bZ 16 rfl rfl) bX) rfl rfl (dZ rfl (cZ (Ht rfl))) (cQ (Ei:=[(31,_)]) rfl rfl (bQ (bZ 17 rfl rfl) bX) rfl rfl (dZ rfl (eQ (Ht rfl) rfl)) ?_))
   refine cQ (Ei:=[(31,_)]) rfl rfl (bQ (bZ 17 rfl rfl) bX) rfl rfl (dZ rfl (eQ (Ht rfl) rfl)) (Y.D_newp (Ei:=[]) (fun bb=>box bb 60 [aH (decide ((kW s p g).a < 0)),aN (kW s p g).a.natAbs,aH (decide ((kW s p g).b < 0)),aN (kW s p g).b.natAbs,aN (du (kW s p g))]) 21 rfl rfl rfl bX rfl rfl (by kernel_rfl) (eU (Ts:=[Is (.bool false),Is (.slice none 0 0),Is (.bool false),Is (.slice none 0 0),Is (.slice none 0 0)]) O_60 rfl (fun V=>aW zd (aW zd (aW zd (aW zd (aW zd (aG))))))) ?_)
   refine Y.D_putN (Ei:=[(49,_)]) 20 rfl rfl rfl rfl rfl rfl (bQ (bZ 18 rfl rfl) bX) (fun bb=>mO Z_60 (Ht rfl) (Ht rfl) rfl (i:=0) rfl (aK rfl) rfl rfl) (Y.D_done aS rfl (by kernel_rfl) rfl (by simp [Y.okP]) rfl rfl (bU (bU (bU (bU (bU (bU (bU (bU (bU (bU (bU (bU (bU (bU (bU (bU (bU (bU (bU (bU (Y.F_newp (fun B9=>Y.F_putN (Y.F_nil ?_))))))))))))))))))))))))
   refine ra rfl (eW (cU (ts (rm rfl (ro rfl (iM (Ht rfl) cW) (eW (dX (Ht rfl) (fun he=>?_) (fun he=>?_))))))))
   ·have hz : Qi.ofInt 1 - gm s p p * g = Qi.zero := by simp at he; exact he
    have he:oQ z s ((p:Int) + 1) g = 6:=by rw [htd,if_pos hz]
    refine ts (ro rfl (aM.imp (kY ) lC) (gJ Z_28 (Ht rfl) (Ht rfl) rfl (i:=2) rfl (aK rfl) rfl rfl (ro rfl (cX (cV 6)) (eW (bN rfl (fV (gQ A_28 Z_28 rfl (i:=2) rfl rfl) ?_) (fV (fX rfl) ?_))))))
    ·exact (Lb he (by decide))
    ·exact (aR he.symm)
   ·have hz : Qi.ofInt 1 - gm s p p * g ≠ Qi.zero := by simp at he; exact he
    have he:oQ z s ((p:Int) + 1) g = 0:=by rw [htd,if_neg hz]
    haveI ff:aF (kW s p g) (7 * L + 11):=Ow hf hg hL hz
    have hll:(Ex p m).length = m:=aE _ _
    refine cY (ts (ro rfl (eK A_28 Z_28 (Ht rfl) (i:=0) rfl rfl rfl) (rm rfl (ro rfl (eB (xs:=[.tmp 55]) U_103 Z_3 O_3 (cG (Ht rfl) cK) rfl rfl rfl) (ro rfl (cJ Tryz.call124 (eJ (a5S (z:=z) (s:=s) (p:=p) hp hl) (kH (by rw [← hm]))) ⟨(Ht rfl),(Ht rfl),trivial⟩) ?_)))))
    refine ra rfl (eW (ts (ro rfl (eK A_28 Z_28 (Ht rfl) (i:=0) rfl rfl rfl) (rm rfl (oS Tryz.call125 (a33 (p:=p) (m:=m) hs hp hm hl) ⟨(Ht rfl),(Ht rfl),trivial⟩ rfl (fun B60 _=>(rn rfl (eU (Ts:=[Is (.slice none 0 0),Is (.slice none 0 0)]) O_28 rfl (fun V=>aW zd (aW zd (aG)))) fun B12=>(gJ Z_28 (Ht rfl) (Ht rfl) rfl (i:=5) rfl (aK rfl) rfl rfl (eW (cU (ts (rm rfl (ro rfl (dY U_103 (Ht rfl) (by rw [List.length_map,hll])) ?_)))))))))))))
    refine ro rfl (cZ (cV 0)) (eW (eY (cM [0,2,3,4,5] rfl (by decide) ?_)))
    refine cP (fun (i : Nat) => i ≤ m) (fun (i : Nat) => m - i) (fun (i : Nat) => [(3, cC B3 0), (6, cC B6 0), (8, NT .i64 p), (9, cC B9 0), (11, jC (Ex p m)), (12, cC B12 0), (61, jC (Ex p m)), (62, NT .i64 m), (63, NT .i64 i)]) (fun (i : Nat) => [box B3 28 [bC z, dF s], box B6 28 [Is (.slice none 0 0), Is (.slice none 0 0)], box B9 60 [aH (decide ((kW s p g).a < 0)), aN (kW s p g).a.natAbs, aH (decide ((kW s p g).b < 0)), aN (kW s p g).b.natAbs, aN (du (kW s p g))], qC B60 25 60 5 (dO aI (pK (fun i => tab m fun j => La s p (kW s p g) i j) (fun i => tab m fun j => gm s (lI p i) (lI p j)) m i)), box B12 28 [bC (zA z p m), Is (.slice (some ⟨B60, 0, none⟩) m m)]]) 0 (Nat.zero_le _)
     (zS rfl) (aU (fun _ _ _ h=>h) (aU (fun _ _ _ h=>h) (aU (aD rfl) (aU (fT (by rw [← vL]; rfl)) (aU (aD rfl) aY))))) (fun i hi=>?_)
    refine ts (ro rfl (gV (Ht rfl) (Ht rfl)) (eW (cU (dX (Ht rfl) (fun hd=>?_) (fun hd=>?_)))))
    ·simp only [decide_eq_true_eq] at hd
     have hki:lI p i < z.length:=xC zo hp
     have hsr:=hs.row hki
     refine tD 3 (i) rfl (Hm hd) (fun v=>(cY (cU (eY (ts (rm rfl (ro rfl (dJ U_103 Z_3 (Ht rfl) (Ht rfl) rfl (eZ (Uv hd))) (ro rfl (dW A_3 Z_3 (Ht rfl)) (ra rfl (ra rfl (eW (ts (rm rfl (ro rfl (dY U_103 (Ht rfl) (by rw [List.length_map,hll])) ?_))))))))))))))
     refine ro rfl (cZ (cV 0)) (eW (eY ?_))
     refine cP (fun (j : Nat) => j ≤ m) (fun (j : Nat) => m - j) (fun (j : Nat) => [(3, cC B3 0), (6, cC B6 0), (8, NT .i64 p), (9, cC B9 0), (11, jC (Ex p m)), (12, cC B12 0), (13, NT .i64 i), (14, NT .i64 (lI p i + 1)), (61, jC (Ex p m)), (62, NT .i64 m), (63, NT .i64 i), (68, jC (Ex p m)), (69, NT .i64 m), (70, NT .i64 j)]) (fun (j : Nat) => [box B3 28 [bC z, dF s], box B6 28 [Is (.slice none 0 0), Is (.slice none 0 0)], box B9 60 [aH (decide ((kW s p g).a < 0)), aN (kW s p g).a.natAbs, aH (decide ((kW s p g).b < 0)), aN (kW s p g).b.natAbs, aN (du (kW s p g))], Xy B60 25 60 5 (dO aI (pK (fun i => tab m fun j => La s p (kW s p g) i j) (fun i => tab m fun j => gm s (lI p i) (lI p j)) m i)) i v, box B12 28 [bC (zA z p m), Is (.slice (some ⟨B60, 0, none⟩) m m)], bP 60 5 v ((pK (fun j => La s p (kW s p g) i j) (fun j => gm s (lI p i) (lI p j)) m j).map aI)]) 0 (Nat.zero_le _)
      (zS rfl) (aU (fun _ _ _ h=>h) (aU (fun _ _ _ h=>h) (aU (fun _ _ _ h=>h) (aU (fun _ _ _ h=>h) (aU (fun _ _ _ h=>h) (aU (bD (by rw [← vL])) aY)))))) (fun j hj=>?_)
     refine ts (ro rfl (gV (Ht rfl) (Ht rfl)) (eW (cU (dX (Ht rfl) (fun hf2=>?_) (fun hf2=>?_)))))
     ·simp only [decide_eq_true_eq] at hf2
      have hkj:lI p j < z.length:=xC zo hp
      have hrl:=qU (fun j=>La s p (kW s p g) i j) (fun j=>gm s (lI p i) (lI p j)) m j
      haveI g1:aF (gm s (lI p i) (lI p j)) L:=hf.get hL _ _
      haveI g2:aF (gm s (lI p i) p) L:=hf.get hL _ _
      haveI g3:aF (gm s p (lI p j)) L:=hf.get hL _ _
      refine cY (cU (eY (ts (rm rfl (ro rfl (dJ U_103 Z_3 (Ht rfl) (Ht rfl) rfl (eZ (Uv hf2))) (ro rfl (dW A_3 Z_3 (Ht rfl)) (ra rfl (ra rfl (eW (fW (m:=39) (dp 12 rfl (eG eD (Ht rfl) rfl) (dq 75 0 rfl (fZ A_26 Z_26 (Ht rfl) (i:=4) rfl rfl) (dp 13 rfl (cZ (Ht rfl)) (dE 76 1 77 2 rfl (gZ U_26 Z_25 (Ht rfl) (Ht rfl) rfl zo (by rw [Nat.mul_one,Nat.zero_add])) ?_))))))))))))))
      refine dq 78 3 rfl (pR A_25 Z_25 (Ht rfl) (j:=3) rfl) (dp 15 rfl (cZ (Ht rfl)) (dp 12 rfl (eG eD (Ht rfl) rfl) (dq 81 6 rfl (fZ A_26 Z_26 (Ht rfl) (i:=4) rfl rfl) (dp 13 rfl (cZ (Ht rfl)) (dE 82 7 83 8 rfl (gZ U_26 Z_25 (Ht rfl) (Ht rfl) rfl zo (by rw [Nat.mul_one,Nat.zero_add])) ?_)))))
      refine dq 84 9 rfl (pR A_25 Z_25 (Ht rfl) (j:=3) rfl) (dp 15 rfl (cZ (Ht rfl)) (dE 85 10 86 11 rfl (dB U_25 Z_60 (Ht rfl) (Ht rfl) rfl (i:=5) rfl (by simp only [List.length_map,hrl]; omega) rfl) ?_))
      refine dq 87 12 rfl (pS A_60 Z_60 (Ht rfl) (i:=5) rfl rfl (eZ (Fa hf2))) (dq 88 13 rfl (bT cD (Ht rfl)) (dp 3 rfl (eG eD (Ht rfl) rfl) (dq 90 15 rfl (fZ A_26 Z_26 (Ht rfl) (i:=0) rfl rfl) (dp 14 rfl (cZ (Ht rfl)) (dq 92 17 rfl (aM.nat (dU (Ht rfl) (cV 1) zo z6) (show lI p i + 1 - 1 = lI p i by omega)) (dE 91 16 93 18 rfl (dJ U_26 Z_25 (Ht rfl) (Ht rfl) rfl (eZ (eX (d:=[]) zo))) ?_))))))
      refine dq 94 19 rfl (dW A_25 Z_25 (Ht rfl)) (dp 8 rfl (cZ (Ht rfl)) (dE 95 20 96 21 rfl (dJ U_25 Z_60 (Ht rfl) (Ht rfl) rfl (eZ (eX (d:=Qi.zero) zo))) (dq 97 22 rfl (dW A_60 Z_60 (Ht rfl)) (dq 98 23 rfl (bT cD (Ht rfl)) (dp 9 rfl (eK A_60 Z_60 (Ht rfl) (i:=2) rfl rfl rfl) (dq 100 25 rfl (bT cD (Ht rfl)) (dp 3 rfl (eG eD (Ht rfl) rfl) (dq 102 27 rfl (fZ A_26 Z_26 (Ht rfl) (i:=0) rfl rfl) (dp 8 rfl (cZ (Ht rfl)) ?_)))))))))
      refine dE 103 28 104 29 rfl (dJ U_26 Z_25 (Ht rfl) (Ht rfl) rfl (eZ (eX (d:=[]) zo))) (dq 105 30 rfl (dW A_25 Z_25 (Ht rfl)) (dp 16 rfl (cZ (Ht rfl)) (dq 107 32 rfl (aM.nat (dU (Ht rfl) (cV 1) zo z6) (show lI p j + 1 - 1 = lI p j by omega)) (dE 106 31 108 33 rfl (dJ U_25 Z_60 (Ht rfl) (Ht rfl) rfl (eZ (eX (d:=Qi.zero) zo))) (dq 109 34 rfl (dW A_60 Z_60 (Ht rfl)) ?_)))))
      refine dE 101 26 110 35 rfl (bF eM K_70 (lS (x:=kW s p g) (y:=gm s p (lI p j)) (L:=7 * L + 11) (M:=L) zo) (Ht rfl) ⟨(Ht rfl),trivial⟩) (dE 99 24 111 36 rfl (bF eM K_70 (lS (x:=gm s (lI p i) p) (y:=kW s p g * gm s p (lI p j)) (L:=L) (M:=7 * L + 11 + L + 1) zo) (Ht rfl) ⟨(Ht rfl),trivial⟩) (dE 89 14 112 37 rfl (bF lU K_71 (tW (x:=gm s (lI p i) (lI p j)) (y:=gm s (lI p i) p * (kW s p g * gm s p (lI p j))) (L:=L) (M:=L + (7 * L + 11 + L + 1) + 1) zo) (Ht rfl) ⟨(Ht rfl),trivial⟩) ?_))
      refine fK aS rfl (by kernel_rfl) (zF (zF (zF (zF (zF (zF (zF (zF (zF (aJ (aJ (aJ (aV (ro rfl (dB U_25 Z_60 (Ht rfl) (Ht rfl) rfl (i:=5) rfl (by simp only [List.length_map,hrl]; omega) rfl) ?_))))))))))))))
      refine mP Z_60 (Ht rfl) (Ht rfl) (El.ag rfl) (i:=5) rfl rfl (by simp only [List.length_map,hrl]; omega) rfl ?_
      refine eW (bM (dQ (ro rfl (dK (Ht rfl) (cV 1) z6) (rm rfl (eW (gX (j + 1) hf2 zo (zS rfl) (aU (fun _ _ _ h=>h) (aU (fun _ _ _ h=>h) (aU (fun _ _ _ h=>h) (aU (fun _ _ _ h=>h) (aU (fun _ _ _ h=>h) (aU (bD (by rw [iR,← yL (f:=fun j=>La s p (kW s p g) i j)]; rfl)) aY))))))))))))
     ·simp only [decide_eq_false_iff_not] at hf2
      obtain rfl:m = j:=Nat.le_antisymm zo hj
      refine gK rfl (bM (nB 3 5 rfl rfl (by decide) (by simp only [dO,List.length_map,qU]; omega) ?_))
      refine dQ (ro rfl (dK (Ht rfl) (cV 1) z6) (rm rfl (eW (cM [0,1,2,3,4] rfl (by decide) (gX (i + 1) hd zo (zS rfl) (aU (fun _ _ _ h=>h) (aU (fun _ _ _ h=>h) (aU (fun _ _ _ h=>h) (aU (fT (by rw [oA,yK,← yL (f:=(fun i=>tab m fun j=>La s p (kW s p g) i j))])) (aU (fun _ _ _ h=>h) aY))))))))))
    ·simp only [decide_eq_false_iff_not] at hd
     obtain rfl:m = i:=Nat.le_antisymm zo hi
     rw [yK]
     refine gK rfl (cU (Dm 4 3 1 rfl rfl rfl (by decide) (a7X (q:=fun _=>True) (M:=Ox s p m (kW s p g)) (aE _ _).symm) ?_))
     subst hm
     refine dQ (ro rfl (eK A_28 Z_28 (Ht rfl) (i:=4) rfl rfl rfl) (gJ Z_28 (Ht rfl) (Ht rfl) rfl (i:=1) rfl (aK rfl) rfl rfl (ro rfl (cX (cV 0)) (eW (bN rfl (fV (gQ A_28 Z_28 rfl (i:=1) rfl rfl) ?_) (fV (fX rfl) ?_))))))
     ·exact (a2m he)
     ·exact (aR he.symm)
end
section
open Go Go.RowKit
theorem Lq  : bB Tryz.prog 27 [] (aH true):=by
 refine bB.intro Tryz.func27 rfl Tryz.ntmps27 rfl (fun cx=>(ts (ro rfl (cX cW) (eW (ts (ro rfl (Dp cW cW) (rn rfl (eU (Ts:=[Is (.int .i64 0),Is (.int .i64 0),Is (.int .i64 0)]) O_48 rfl (fun V=>aW zd (aW zd (aW zd (aG))))) fun B1=>(gJ Z_48 (Ht rfl) (Ht rfl) rfl (i:=0) rfl (aK rfl) rfl rfl (eW (cU (Y.D_start (m:=18) [] (cQ (Ei:=[]) rfl rfl bX rfl rfl (dZ rfl (Do cW)) (cQ (Ei:=[]) rfl rfl bX rfl rfl (dZ rfl (Do cW)) ?_)))))))))))))
 refine cQ (Ei:=[(12,_),(13,_)]) rfl rfl (bQ (bZ 0 rfl rfl) (bQ (bZ 1 rfl rfl) bX)) rfl rfl (dZ rfl (eB (xs:=[.tmp 12,.tmp 13]) U_22 Z_48 O_48 (cG (Ht rfl) (cG (Ht rfl) cK)) rfl rfl rfl)) (cQ (Ei:=[(14,_)]) rfl rfl (bQ (bZ 2 rfl rfl) bX) rfl rfl (dZ rfl (cJ Tryz.call48 (zW (l:=[r50,r50]) (by decide)) ⟨(Ht rfl),trivial⟩)) (cQ (Ei:=[(1,_)]) rfl rfl (bQ (bJ rfl rfl) bX) rfl rfl (dZ rfl (eK A_48 Z_48 (Ht rfl) (i:=0) rfl rfl rfl)) ?_))
 refine cQ (Ei:=[(1,_)]) rfl rfl (bQ (bJ rfl rfl) bX) rfl rfl (dZ rfl (eK A_48 Z_48 (Ht rfl) (i:=0) rfl rfl rfl)) (cQ (Ei:=[(16,_),(17,_)]) rfl rfl (bQ (bZ 4 rfl rfl) (bQ (bZ 5 rfl rfl) bX)) rfl rfl (dZ rfl (eB (xs:=[.tmp 16,.tmp 17]) U_22 Z_48 O_48 (cG (Ht rfl) (cG (Ht rfl) cK)) rfl rfl rfl)) (cQ (Ei:=[(1,_)]) rfl rfl (bQ (bJ rfl rfl) bX) rfl rfl (dZ rfl (eK A_48 Z_48 (Ht rfl) (i:=0) rfl rfl rfl)) ?_))
 refine cQ (Ei:=[(1,_)]) rfl rfl (bQ (bJ rfl rfl) bX) rfl rfl (dZ rfl (eK A_48 Z_48 (Ht rfl) (i:=0) rfl rfl rfl)) (cQ (Ei:=[(19,_),(20,_)]) rfl rfl (bQ (bZ 7 rfl rfl) (bQ (bZ 8 rfl rfl) bX)) rfl rfl (dZ rfl (eB (xs:=[.tmp 19,.tmp 20]) U_22 Z_48 O_48 (cG (Ht rfl) (cG (Ht rfl) cK)) rfl rfl rfl)) (cQ (Ei:=[(18,_),(21,_)]) rfl rfl (bQ (bZ 6 rfl rfl) (bQ (bZ 9 rfl rfl) bX)) rfl rfl (dZ rfl (eB (xs:=[.tmp 18,.tmp 21]) U_75 Z_22 Tryz.zeroValue22 (cG (Ht rfl) (cG (Ht rfl) cK)) rfl rfl rfl)) ?_))
 refine cQ (Ei:=[(22,_)]) rfl rfl (bQ (bZ 10 rfl rfl) bX) rfl rfl (dZ rfl (cJ Tryz.call94 (Gy (m:=[[Bh,Bh],[Bh,Bh]]) (by decide) (by intro r hr; simp at hr; subst hr; decide)) ⟨(Ht rfl),trivial⟩)) ?_
 refine cQ (Ei:=[(15,_),(23,_)]) rfl rfl (bQ (bZ 3 rfl rfl) (bQ (bZ 11 rfl rfl) bX)) rfl rfl (dZ rfl (cJ Tryz.call93 (eJ (Ls (z:=Em) (s:=Hn) (L:=2) a7Z (by decide) (by decide) (by decide)) a6e) ⟨(Ht rfl),(Ht rfl),trivial⟩)) (cQ (Ei:=[(24,_)]) rfl rfl (bQ (bZ 12 rfl rfl) bX) rfl rfl (dZ rfl (cZ (Ht rfl))) (cQ (Ei:=[(11,_)]) rfl rfl (bQ (bZ 13 rfl rfl) bX) rfl rfl (dZ rfl (eQ (Ht rfl) rfl)) (cQ (Ei:=[(11,_)]) rfl rfl (bQ (bZ 13 rfl rfl) bX) rfl rfl (dZ rfl (eQ (Ht rfl) rfl)) ?_)))
 refine Y.D_newp (Ei:=[]) (fun bb=>box bb 28 [bC Em,dF Hn]) 17 rfl rfl rfl bX rfl rfl (by kernel_rfl) (eU (Ts:=[Is (.slice none 0 0),Is (.slice none 0 0)]) O_28 rfl (fun V=>aW zd (aW zd (aG)))) (Y.D_putN (Ei:=[(25,_)]) 16 rfl rfl rfl rfl rfl rfl (bQ (bZ 14 rfl rfl) bX) (fun bb=>mO Z_28 (Ht rfl) (Ht rfl) rfl (i:=0) rfl (aK rfl) rfl rfl) (Y.D_done aS rfl (by kernel_rfl) rfl (by simp [Y.okP]) rfl rfl (bU (bU (bU (bU (bU (bU (bU (bU (bU (bU (bU (bU (bU (bU (bU (bU (Y.F_newp (fun B2=>Y.F_putN (Y.F_nil ?_)))))))))))))))))))))
 refine ra rfl (eW (cU (Y.D_start (m:=8) [] (cQ (Ei:=[(2,_)]) rfl rfl (bQ (bJ rfl rfl) bX) rfl rfl (dZ rfl (eK A_28 Z_28 (Ht rfl) (i:=1) rfl rfl rfl)) (cQ (Ei:=[]) rfl rfl bX rfl rfl (dZ rfl (cJ K_52 (Dq (n:=1) (by decide) (by decide)) ⟨(cV 1),trivial⟩)) (cQ (Ei:=[(28,_),(29,_)]) rfl rfl (bQ (bZ 0 rfl rfl) (bQ (bZ 1 rfl rfl) bX)) rfl rfl (dZ rfl (cJ Tryz.call40 (eJ (a0e (z:=Em) (s:=Hn) (port:=((2:Nat):Int)) (g:=Qi.ofInt 1) (L:=2) a0O a5h a5g (by decide) (by decide) (by decide)) a6f) ⟨(Ht rfl),(cV 2),(Ht rfl),trivial⟩)) ?_))))))
 refine cQ (Ei:=[(30,_)]) rfl rfl (bQ (bZ 2 rfl rfl) bX) rfl rfl (dZ rfl (cZ (Ht rfl))) (cQ (Ei:=[(27,_)]) rfl rfl (bQ (bZ 3 rfl rfl) bX) rfl rfl (dZ rfl (eQ (Ht rfl) rfl)) (cQ (Ei:=[(27,_)]) rfl rfl (bQ (bZ 3 rfl rfl) bX) rfl rfl (dZ rfl (eQ (Ht rfl) rfl)) (Y.D_newp (Ei:=[]) (fun bb=>box bb 28 [bC Jq,dF Xp]) 7 rfl rfl rfl bX rfl rfl (by kernel_rfl) (eU (Ts:=[Is (.slice none 0 0),Is (.slice none 0 0)]) O_28 rfl (fun V=>aW zd (aW zd (aG)))) ?_)))
 refine Y.D_putN (Ei:=[(31,_)]) 6 rfl rfl rfl rfl rfl rfl (bQ (bZ 4 rfl rfl) bX) (fun bb=>mO Z_28 (Ht rfl) (Ht rfl) rfl (i:=0) rfl (aK rfl) rfl rfl) (Y.D_done aS rfl (by kernel_rfl) rfl (by simp [Y.okP]) rfl rfl (bU (bU (bU (bU (bU (bU (Y.F_newp (fun B4=>Y.F_putN (Y.F_nil ?_))))))))))
 refine ra rfl (eW (ts (ro rfl (eK A_28 Z_28 (Ht rfl) (i:=2) rfl rfl rfl) (ro rfl (cJ Tryz.call39 (eJ (a5M (z:=Jq) (s:=Xp) (i:=((1:Nat):Int)) (j:=((1:Nat):Int)) a6h (by rw [a0P]; decide)) a7Y) ⟨(Ht rfl),(cV 1),(cV 1),trivial⟩) ?_))))
 refine rm rfl (ro rfl (eQ (Ht rfl) rfl) (ro rfl (eQ (Ht rfl) rfl) (rn rfl (eU (Ts:=[Is (.bool false),Is (.slice none 0 0),Is (.bool false),Is (.slice none 0 0),Is (.slice none 0 0)]) O_60 rfl (fun V=>aW zd (aW zd (aW zd (aW zd (aW zd (aG))))))) fun B6=>(gJ Z_60 (Ht rfl) (Ht rfl) rfl (i:=3) rfl (aK rfl) rfl rfl (ra rfl (eW (ts (ro rfl (eK A_28 Z_28 (Ht rfl) (i:=1) rfl rfl rfl) ?_))))))))
 refine ro rfl (cJ Tryz.call114 (a5N (z:=Em) (s:=Hn) (L:=2) a0O a5h (by decide) (by decide) (by decide) (by decide +kernel) (by decide +kernel) a6d) ⟨(Ht rfl),trivial⟩) (rm rfl (ro rfl (eQ (Ht rfl) rfl) (ro rfl (eQ (Ht rfl) rfl) (ra rfl (ra rfl (eW (ts (rm rfl (ro rfl (lY (Ht rfl) cW) (rm rfl (fJ rfl rfl (fQ rfl rfl (Ht rfl) (fun h=>cZ (Ht rfl))) (fJ rfl rfl (fQ rfl rfl (Ht rfl) (fun h=>lY (fG rfl h) cW)) (ro rfl (fC (Ht rfl) (fun h=>(fG rfl h))) (rm rfl (fJ rfl rfl (fQ rfl rfl (Ht rfl) (fun h=>cZ (Ht rfl))) ?_)))))))))))))))
 refine fJ rfl rfl (fQ rfl rfl (Ht rfl) (fun h=>lY (fG rfl h) cW)) (ro rfl (fC (Ht rfl) (fun h=>(fG rfl h))) (rm rfl (fJ rfl rfl (fQ rfl rfl (Ht rfl) (fun h=>cZ (Ht rfl))) (fJ rfl rfl (fQ rfl rfl (Ht rfl) (fun h=>lY (fG rfl h) cW)) (ro rfl (fC (Ht rfl) (fun h=>(fG rfl h))) (rm rfl (fJ rfl rfl (fQ rfl rfl (Ht rfl) (fun h=>eK A_28 Z_28 (Ht rfl) (i:=1) rfl rfl rfl)) (fJ rfl rfl (fQ rfl rfl (Ht rfl) (fun h=>cJ K_31 nL ⟨(fG rfl h),trivial⟩)) (fJ rfl rfl (fQ rfl rfl (Ht rfl) (fun h=>cL (fG rfl h) (cV 2))) ?_)))))))))
 refine ro rfl (fC (Ht rfl) (fun h=>(fG rfl h))) (rm rfl (fJ rfl rfl (fQ rfl rfl (Ht rfl) (fun h=>eK A_60 Z_60 (Ht rfl) (i:=3) rfl rfl rfl)) (fJ rfl rfl (fQ rfl rfl (Ht rfl) (fun h=>cJ Tryz.call115 (a0f (x:=Qi.ofInt 1) (L:=2) (hx:=a5g) (by decide)) ⟨(fG rfl h),trivial⟩)) (fJ rfl rfl (fQ rfl rfl (Ht rfl) (fun h=>a1x (fG rfl h) (bH.cS (l:=[49]) rfl))) (ro rfl (fC (Ht rfl) (fun h=>(fG rfl h))) (ra rfl (eW (fU rfl (fV (fX rfl) ?_)))))))))
 exact (fA (by rw [a8y]; rfl))
end
section
open Go Go.RowKit
theorem Dw {l:List Rt} (hl:l.length ≤ 1000000):bB Tryz.prog 96 [mR l] (Le (l.map Rt.q)):=by
 refine bB.intro Tryz.func96 rfl Tryz.ntmps96 rfl (fun cx=>(ts (ro rfl (cX cW) (eW (ts (rm rfl (ro rfl (dY U_22 (Ht rfl) aB) (rn rfl (iU (T:=ZQ) (i:=Tryz.t130) a7q a0X rfl rfl (Ht rfl) rfl a8P (El.ag rfl) (by show 88 * _ ≤ _; omega) zo) fun B8=>(ra rfl (eW (cU (ts (rm rfl (ro rfl (dY U_22 (Ht rfl) aB) (ro rfl (cZ (cV 0)) (eW (eY ?_)))))))))))))))))
 refine cP (fun (k : Nat) => k ≤ l.length) (fun (k : Nat) => l.length - k) (fun (k : Nat) => [(3, Is B8), (9, mR l), (10, NT .i64 l.length), (11, NT .i64 k)]) (fun (k : Nat) => [bP 130 5 B8 (nA (fun i => QT (l.getD i default).q) ZQ l.length k)]) 0 (Nat.zero_le _)
  (zS rfl) (aU (bD (by rw [← kF]; exact zI _ _)) aY) (fun k hk=>?_)
 refine ts (ro rfl (gV (Ht rfl) (Ht rfl)) (eW (cU (dX (Ht rfl) (fun hd=>?_) (fun hd=>?_)))))
 ·simp only [decide_eq_true_eq] at hd
  refine cY (cU (eY (ts (rm rfl (ro rfl (dJ U_22 Z_48 (Ht rfl) (Ht rfl) rfl (eZ (eX (d:=default) hd))) (ro rfl (dW A_48 Z_48 (Ht rfl)) (rn rfl (eU (Ts:=[Is (.int .i64 0),Is (.int .i64 0),Is (.int .i64 0)]) O_48 rfl (fun V=>aW zd (aW zd (aW zd (aG))))) fun B5=>(ra rfl (gJ Z_48 (Ht rfl) (Ht rfl) rfl (i:=1) rfl (aK rfl) rfl rfl (eW (dQ (rm rfl (rm rfl (ro rfl (eK A_48 Z_48 (Ht rfl) (i:=1) rfl rfl rfl) ?_))))))))))))))
  refine ro rfl (cJ Tryz.call191 a7M ⟨(Ht rfl),trivial⟩) (ro rfl (dB U_29 Z_130 (Ht rfl) (Ht rfl) rfl (i:=0) rfl (by rw [eR]; omega) rfl) ?_)
  refine mP Z_130 (Ht rfl) (Ht rfl) (El.ag rfl) (i:=0) rfl rfl (by rw [eR]; omega) rfl ?_
  refine eW (bM (dQ (ro rfl (dK (Ht rfl) (cV 1) z6) (rm rfl (eW (cM [0] rfl (by decide) (gX (k + 1) hd zo (zS rfl) (aU (bD (lN (f:=fun i=>QT (l.getD i default).q))) aY))))))))
 ·simp only [decide_eq_false_iff_not] at hd
  obtain rfl:k = l.length:=Nat.le_antisymm hk zo
  rw [lM]
  refine gK rfl (gG (i:=0) (tt:=3) rfl rfl fR (ts (rm rfl (ra rfl (eW (fU rfl (fV (fX rfl) ?_)))))))
  exact (kH (by rw [← uX l Rt.q,pF]))
theorem Qd {m:List (List Rt)} (hm:m.length ≤ 1000) (hr:∀ r,r ∈ m → r.length ≤ 1000):bB Tryz.prog 97 [Zk m] (QM (rq m)):=by
 refine bB.intro Tryz.func97 rfl Tryz.ntmps97 rfl (fun cx=>(ts (ro rfl (cX cW) (eW (ts (rm rfl (ro rfl (dY U_75 (Ht rfl) aB) (rn rfl (iU (T:=Le []) (i:=Tryz.t29) a7r a3y rfl rfl (Ht rfl) rfl (fun V=>iP _ _ rfl) El.one (by show 24 * _ ≤ _; omega) zo) fun B8=>(ra rfl (eW (cU (ts (rm rfl (ro rfl (dY U_75 (Ht rfl) aB) (ro rfl (cZ (cV 0)) (eW (eY ?_)))))))))))))))))
 refine fP (fun (k : Nat) (out : List (List Qi)) => pH (fun i => (m.getD i default).map Rt.q) m.length out k) (fun (k : Nat) (out : List (List Qi)) => m.length - k) (fun (k : Nat) (out : List (List Qi)) => [(3, Is B8), (9, Zk m), (10, NT .i64 m.length), (11, NT .i64 k)]) (fun (k : Nat) (out : List (List Qi)) => [bP 29 1 B8 (out.map Le)]) 0 (List.replicate m.length []) (pH.start _ _ _)
  (zS rfl) (aU (bD (uS Le _ _)) aY) (fun k out hS=>?_)
 refine ts (ro rfl (gV (Ht rfl) (Ht rfl)) (eW (cU (dX (Ht rfl) (fun hk=>?_) (fun hk=>?_)))))
 ·simp only [decide_eq_true_eq] at hk
  have hlen:=hS.len
  have hrk : (m.getD k default).length ≤ 1000 := by
   have e:m.getD k default = m[k]:=by simp [List.getD,hk]
   rw [e]; exact hr _ (List.getElem_mem hk)
  refine cY (cU (eY (ts (rm rfl (ro rfl (dJ U_75 Z_22 (Ht rfl) (Ht rfl) rfl (eZ (eX (d:=default) hk))) (ro rfl (dW A_22 Z_22 (Ht rfl)) (ra rfl (ra rfl (eW (dQ (rm rfl (rm rfl (rm rfl (ro rfl (cJ Tryz.call96 (Dw zo) ⟨(Ht rfl),trivial⟩) (ro rfl (dB U_30 Z_29 (Ht rfl) (Ht rfl) rfl (i:=0) rfl (by first | omega | (simp; omega)) rfl) (mP Z_29 (Ht rfl) (Ht rfl) El.one (i:=0) rfl rfl (by first | omega | (simp; omega)) rfl (eW (bM ?_))))))))))))))))))
  refine dQ (ro rfl (dK (Ht rfl) (cV 1) z6) (rm rfl (eW (gX (k + 1,_) (hS.next hk rfl) (by dsimp only; omega) (zS rfl) (aU (bD (iR Le _ _ _)) aY)))))
 ·simp only [decide_eq_false_iff_not] at hk
  obtain rfl:k = m.length:=Nat.le_antisymm hS.kle zo
  have hfin:=hS.fin
  rw [uX m (fun r=>r.map Rt.q)] at hfin
  refine gK rfl (gG (i:=0) (tt:=3) rfl rfl fR (ts (rm rfl (ra rfl (eW (fU rfl (fV (fX rfl) ?_)))))))
  exact (kH (by rw [hfin]))
theorem a7K {z:List Qi} {s:List (List Qi)} {L:Nat} (hz:bI z L) (hs:bE s L) (hL1:1 ≤ L) (hL:L ≤ 8796093022208) (hsh:cB s z.length z.length) (hl:z.length ≤ 1000):bB Tryz.prog 25 [cO z s,wE z s] (aH true):=by
 have hs1:=hsh.1
 refine bB.intro Tryz.func25 rfl Tryz.ntmps25 rfl (fun cx=>(ts (rn rfl (fY (Ht rfl)) fun B2=>(rn rfl (fY (Ht rfl)) fun B3=>(ro rfl (cX cW) (eW (cU (cU (fW (m:=5) (dp 2 rfl (eK A_28 Z_28 (Ht rfl) (i:=0) rfl rfl rfl) (dq 13 0 rfl (cJ K_31 nL ⟨(Ht rfl),trivial⟩) (dp 3 rfl (eG Uc (Ht rfl) rfl) (dq 15 2 rfl (fZ Tryz.isAgg29 Z_29 (Ht rfl) (i:=1) rfl rfl) (dq 16 3 rfl (dY U_29 (Ht rfl) aB) (fK aS rfl (by kernel_rfl) (zF (aJ (aV ?_))))))))))))))))))
 refine ro rfl (jR (Ht rfl) (Ht rfl)) (eW (jQ (Ht rfl) (by simp) ?_))
 refine cY (cU (ts (ro rfl (eG Uc (Ht rfl) rfl) (ro rfl (fZ Tryz.isAgg29 Z_29 (Ht rfl) (i:=1) rfl rfl) (ro rfl (dY U_29 (Ht rfl) aB) (ro rfl (cZ (cV 0)) (eW (eY ?_))))))))
 refine cP (fun (i : Nat) => i ≤ z.length) (fun (i : Nat) => z.length - i) (fun (i : Nat) => [(2, cC B2 0), (3, cC B3 0), (20, Le z), (21, NT .i64 z.length), (22, NT .i64 i)]) (fun (i : Nat) => [box B2 28 [bC z, dF s], box B3 32 [Le z, QM s]]) 0 (Nat.zero_le _)
  (zS rfl) (dI.refl _) (fun i hi=>?_)
 refine ts (ro rfl (gV (Ht rfl) (Ht rfl)) (eW (cU (dX (Ht rfl) (fun hd=>?_) (fun hd=>?_)))))
 ·simp only [decide_eq_true_eq] at hd
  haveI f1:aF (gv z i) L:=hz.get hL1 i
  have hsr:=hsh.row hd
  refine cY (cU (eY (ts (rm rfl (ro rfl (dJ U_29 Z_130 (Ht rfl) (Ht rfl) rfl (eZ (eX (d:=Qi.zero) hd))) (ro rfl (dW A_130 Z_130 (Ht rfl)) (rn rfl (eU (Ts:=[Is (.bool false),Is (.slice none 0 0),Is (.bool false),Is (.slice none 0 0),Is (.slice none 0 0)]) O_130 rfl (fun V=>aW zd (aW zd (aW zd (aW zd (aW zd (aG))))))) fun B6=>(ra rfl (gJ Z_130 (Ht rfl) (Ht rfl) rfl (i:=2) rfl (aK rfl) rfl rfl ?_)))))))))
  refine eW (ts (ro rfl (eK A_28 Z_28 (Ht rfl) (i:=0) rfl rfl rfl) (rm rfl (ro rfl (dK (Ht rfl) (cV 1) z6) (ro rfl (cJ Tryz.call67 (eJ (a7H (z:=z) (s:=s) (i:=((i + 1:Nat):Int)) zo) (a6p hd)) ⟨(Ht rfl),(Ht rfl),trivial⟩) (rm rfl (ro rfl (eQ (Ht rfl) rfl) (ro rfl (eQ (Ht rfl) rfl) (rn rfl (eU (Ts:=[Is (.bool false),Is (.slice none 0 0),Is (.bool false),Is (.slice none 0 0),Is (.slice none 0 0)]) O_60 rfl (fun V=>aW zd (aW zd (aW zd (aW zd (aW zd (aG))))))) fun B7=>?_)))))))))
  refine gJ Z_60 (Ht rfl) (Ht rfl) rfl (i:=3) rfl (aK rfl) rfl rfl (ra rfl (eW (cU (ts (rm rfl (ro rfl (iM (Ht rfl) cW) (rm rfl (fJ rfl rfl (fQ rfl rfl (Ht rfl) (fun h=>eK A_60 Z_60 (Ht rfl) (i:=3) rfl rfl rfl)) (fJ rfl rfl (fQ rfl rfl (Ht rfl) (fun h=>eK A_130 Z_130 (Ht rfl) (i:=2) rfl rfl rfl)) (fJ rfl rfl (fQ rfl rfl (Ht rfl) (fun h=>cJ Tryz.call79 (Su (x:=gv z i) (y:=gv z i) (L:=L) (M:=L) hL hL) ⟨(fG rfl h),(fG rfl h),trivial⟩)) (fJ rfl rfl (fQ rfl rfl (Ht rfl) (fun h=>eS (fG rfl h))) ?_)))))))))))
  refine ro rfl (kQ (Ht rfl) (fun h=>(fG rfl h))) (eW (jQ (Ht rfl) (by simp) ?_))
  refine cY (ts (ro rfl (eG a3p (Ht rfl) rfl) (ro rfl (fZ Tryz.isAgg30 Tryz.sizeOf30 (Ht rfl) (i:=1) rfl rfl) (rm rfl (ro rfl (dJ U_30 Z_29 (Ht rfl) (Ht rfl) rfl (eZ (eX (d:=[]) zo))) (ro rfl (dW Tryz.isAgg29 Z_29 (Ht rfl)) (ro rfl (dY U_29 (Ht rfl) aB) (ro rfl (cZ (cV 0)) (eW (eY (cM [0,1] rfl (by decide) ?_)))))))))))
  refine cP (fun (j : Nat) => j ≤ z.length) (fun (j : Nat) => z.length - j) (fun (j : Nat) => [(2, cC B2 0), (3, cC B3 0), (5, NT .i64 i), (20, Le z), (21, NT .i64 z.length), (22, NT .i64 i), (46, Le (s.getD i [])), (47, NT .i64 z.length), (48, NT .i64 j)]) (fun (j : Nat) => [box B2 28 [bC z, dF s], box B3 32 [Le z, QM s]]) 0 (Nat.zero_le _)
   (aQ rfl (aQ rfl (aQ rfl (aQ rfl (aQ rfl (aQ rfl (aQ rfl (aZ rfl (mK hsr) (zS rfl))))))))) (dI.refl _) (fun j hj=>?_)
  refine ts (ro rfl (gV (Ht rfl) (Ht rfl)) (eW (cU (dX (Ht rfl) (fun hf=>?_) (fun hf=>?_)))))
  ·simp only [decide_eq_true_eq] at hf
   haveI f2:aF (gm s i j) L:=hs.get hL1 i j
   refine cY (cU (eY (ts (rm rfl (ro rfl (dJ U_29 Z_130 (Ht rfl) (Ht rfl) rfl (eZ (eX (d:=Qi.zero) zo))) (ro rfl (dW A_130 Z_130 (Ht rfl)) (rn rfl (eU (Ts:=[Is (.bool false),Is (.slice none 0 0),Is (.bool false),Is (.slice none 0 0),Is (.slice none 0 0)]) O_130 rfl (fun V=>aW zd (aW zd (aW zd (aW zd (aW zd (aG))))))) fun B10=>(ra rfl (gJ Z_130 (Ht rfl) (Ht rfl) rfl (i:=2) rfl (aK rfl) rfl rfl ?_)))))))))
   refine eW (ts (ro rfl (eK A_28 Z_28 (Ht rfl) (i:=0) rfl rfl rfl) (rm rfl (ro rfl (dK (Ht rfl) (cV 1) z6) (rm rfl (ro rfl (dK (Ht rfl) (cV 1) z6) (ro rfl (cJ Tryz.call39 (eJ (a5M (z:=z) (s:=s) (i:=((i + 1:Nat):Int)) (j:=((j + 1:Nat):Int)) hsh zo) (a82 hd hf)) ⟨(Ht rfl),(Ht rfl),(Ht rfl),trivial⟩) (rm rfl (ro rfl (eQ (Ht rfl) rfl) (ro rfl (eQ (Ht rfl) rfl) ?_))))))))))
   refine rn rfl (eU (Ts:=[Is (.bool false),Is (.slice none 0 0),Is (.bool false),Is (.slice none 0 0),Is (.slice none 0 0)]) O_60 rfl (fun V=>aW zd (aW zd (aW zd (aW zd (aW zd (aG))))))) fun B11=>gJ Z_60 (Ht rfl) (Ht rfl) rfl (i:=3) rfl (aK rfl) rfl rfl (ra rfl (eW (ts (rm rfl (ro rfl (iM (Ht rfl) cW) (rm rfl (fJ rfl rfl (fQ rfl rfl (Ht rfl) (fun h=>eK A_60 Z_60 (Ht rfl) (i:=3) rfl rfl rfl)) ?_)))))))
   refine fJ rfl rfl (fQ rfl rfl (Ht rfl) (fun h=>eK A_130 Z_130 (Ht rfl) (i:=2) rfl rfl rfl)) (fJ rfl rfl (fQ rfl rfl (Ht rfl) (fun h=>cJ Tryz.call79 (Su (x:=gm s i j) (y:=gm s i j) (L:=L) (M:=L) hL hL) ⟨(fG rfl h),(fG rfl h),trivial⟩)) (fJ rfl rfl (fQ rfl rfl (Ht rfl) (fun h=>eS (fG rfl h))) (ro rfl (kQ (Ht rfl) (fun h=>(fG rfl h))) (eW (jQ (Ht rfl) (by simp) ?_)))))
   refine cY (bM (dQ (ro rfl (dK (Ht rfl) (cV 1) z6) (rm rfl (eW (cM [0,1] rfl (by decide) (gX (j + 1) hf zo (zS rfl) (dI.refl _))))))))
  ·refine gK rfl (bM (dQ (ro rfl (dK (Ht rfl) (cV 1) z6) (rm rfl (eW (cM [0,1] rfl (by decide) (gX (i + 1) hd zo (zS rfl) (dI.refl _))))))))
 ·refine gK rfl (ts (ro rfl (cX cW) (eW ?_)))
  exact fU rfl (fX rfl)
end
section
open Go Go.RowKit
theorem Iu {n : Nat} {E : cT} {H : Hp} {d : Option Tmp} {t : TypeId} {pos : String} {af : Array Edge} {g : Option (Nat × Bool)} {x0 x1 x2 : Operand} {T0 T1 T2 : Ty} [s0 : dD T0 1 false] (h0 : bH E x0 T0) [s1 : dD T1 1 false] (h1 : bH E x1 T1) [s2 : dD T2 1 false] (h2 : bH E x2 T2) :
  aM Tryz.prog n E H ⟨d,.build 48 #[(0,x0),(1,x1),(2,x2)],t,pos,af,g⟩ (eT [T0,T1,T2]) :=
 iQ (parts := [(0, x0), (1, x1), (2, x2)]) fun a V w hs => by
  have p0:=h0 n V a hs
  generalize e0:a.eval x0 = v0 at p0
  have q0:=(s0.ok v0 V p0).2.2 rfl
  have p1:=h1 n V a hs
  generalize e1:a.eval x1 = v1 at p1
  have q1:=(s1.ok v1 V p1).2.2 rfl
  have p2:=h2 n V a hs
  generalize e2:a.eval x2 = v2 at p2
  have q2:=(s2.ok v2 V p2).2.2 rfl
  refine ⟨.agg #[v0,v1,v2],?_,[v0,v1,v2],rfl,aW (⟨p0,q0⟩) (aW (⟨p1,q1⟩) (aW (⟨p2,q2⟩) (aG)))⟩
  simp [e0,e1,e2,Instr.build,Instr.fill,Sem.run_bind,Result.andThen,gI,q0.cells,q1.cells,q2.cells,O_48,U_48,Z_2]
end
section
open Go Go.RowKit
theorem a7J {x:Qi} {l m:List Qi} {L M n:Nat} (hx:aF x M) (hl:bI l L) (hm:bI m L) (hL:1 ≤ L) (hll:l.length = n) (hml:m.length = n) (hn:n ≤ 1000) (hb:M + n * (2 * L + 2) ≤ 17592186044415):bB Tryz.prog 127 [aI x,bC l,bC m] (aI (wD x l m n)):=by
 refine bB.intro Tryz.func127 rfl Tryz.ntmps127 rfl (fun cx=>(ts (rn rfl (fY (Ht rfl)) fun B3=>(rn rfl (eU (Ts:=[Is (.bool false),Is (.slice none 0 0),Is (.bool false),Is (.slice none 0 0),Is (.slice none 0 0)]) O_60 rfl (fun V=>aW zd (aW zd (aW zd (aW zd (aW zd (aG))))))) fun B6=>(eW (cU (ts (rm rfl (ro rfl (dY U_25 (Ht rfl) (by rw [List.length_map,hll])) ?_)))))))))
 refine ro rfl (cZ (cV 0)) (eW (eY ?_))
 refine cP (fun (k : Nat) => k ≤ n) (fun (k : Nat) => n - k) (fun (k : Nat) => [(1, bC l), (2, bC m), (3, cC B3 0), (6, cC B6 0), (9, NT .i64 n), (10, NT .i64 k)]) (fun (k : Nat) => [box B3 60 [aH (decide ((wD x l m k).a < 0)), aN (wD x l m k).a.natAbs, aH (decide ((wD x l m k).b < 0)), aN (wD x l m k).b.natAbs, aN (du (wD x l m k))], box B6 60 [Is (.bool false), Is (.slice none 0 0), Is (.bool false), Is (.slice none 0 0), Is (.slice none 0 0)]]) 0 (Nat.zero_le _)
  (zS rfl) (dI.refl _) (fun k hk=>?_)
 refine ts (ro rfl (gV (Ht rfl) (Ht rfl)) (eW (cU (dX (Ht rfl) (fun hd=>?_) (fun hd=>?_)))))
 ·simp only [decide_eq_true_eq] at hd
  haveI f1:=Ed hx hl hm hL k
  haveI f2:=hl.get hL k
  haveI f3:=hm.get hL k
  have hkn:(k + 1) * (2 * L + 2) ≤ n * (2 * L + 2):=Nat.mul_le_mul_right _ hd
  rw [Nat.add_mul] at hkn
  refine cY (cU (eY (ts (rm rfl (ra rfl (eW (fW (m:=12) (dp 3 rfl (eK A_60 Z_60 (Ht rfl) (i:=0) rfl rfl rfl) (dq 13 0 rfl (bT cD (Ht rfl)) (dp 1 rfl (cZ (Ht rfl)) (dp 7 rfl (cZ (Ht rfl)) (dE 15 2 16 3 rfl (dJ U_25 Z_60 (Ht rfl) (Ht rfl) rfl (eZ (eX (d:=Qi.zero) zo))) (dq 17 4 rfl (dW A_60 Z_60 (Ht rfl)) (dq 18 5 rfl (bT cD (Ht rfl)) (dp 2 rfl (cZ (Ht rfl)) (dp 7 rfl (cZ (Ht rfl)) (dE 20 7 21 8 rfl (dJ U_25 Z_60 (Ht rfl) (Ht rfl) rfl (eZ (eX (d:=Qi.zero) zo))) ?_)))))))))))))))))
  refine dq 22 9 rfl (dW A_60 Z_60 (Ht rfl)) (dE 19 6 23 10 rfl (bF eM K_70 (lS (x:=gv l k) (y:=gv m k) (L:=L) (M:=L) zo) (Ht rfl) ⟨(Ht rfl),trivial⟩) (fK aS rfl (by kernel_rfl) (zF (zF (zF (aV (ro rfl (bF lU K_71 (tW (x:=wD x l m k) (y:=gv l k * gv m k) (L:=M + k * (2 * L + 2)) (M:=L + L + 1) zo) (Ht rfl) ⟨(Ht rfl),trivial⟩) (gJ Z_60 (Ht rfl) (Ht rfl) rfl (i:=0) rfl (aK rfl) rfl rfl ?_))))))))
  refine eW (bM (dQ (ro rfl (dK (Ht rfl) (cV 1) z6) (rm rfl (eW (gX (k + 1) hd zo (zS rfl) (dI.refl _)))))))
 ·simp only [decide_eq_false_iff_not] at hd
  obtain rfl:k = n:=Nat.le_antisymm hk zo
  refine gK rfl (ts (ro rfl (eK A_60 Z_60 (Ht rfl) (i:=0) rfl rfl rfl) (gJ Z_60 (Ht rfl) (Ht rfl) rfl (i:=1) rfl (aK rfl) rfl rfl (eW ?_))))
  exact fU rfl (gQ A_60 Z_60 rfl (i:=1) rfl rfl)
theorem Td {r:Rt}:bB Tryz.prog 128 [mQ r] (mQ (Gf r)):=by
 have b1:=lH r.den (b:=4) (by decide)
 refine bB.intro Tryz.func128 rfl Tryz.ntmps128 rfl (fun cx=>(ts (rn rfl (fY (Ht rfl)) fun B1=>(rn rfl (eU (Ts:=[Is (.int .i64 0),Is (.int .i64 0),Is (.int .i64 0)]) O_48 rfl (fun V=>aW zd (aW zd (aW zd (aG))))) fun B2=>(eW (ts (ro rfl (eG rM (Ht rfl) rfl) (ro rfl (fZ A_2 Z_2 (Ht rfl) (i:=0) rfl rfl) (ro rfl (Ki (Ht rfl) cW (by decide) rfl) (ra rfl (eW (cU (jU (fun (d:Int)=>d = sH (r.den.tmod 4)) (fun (d:Int)=>[(1,cC B1 0),(2,cC B2 0),(3,aL .i64 d)]) (fun (d:Int)=>[box B1 48 [aL .i64 r.re,aL .i64 r.im,aL .i64 r.den],box B2 48 [Is (.int .i64 0),Is (.int .i64 0),Is (.int .i64 0)]]) ?_ (fun d hd=>?_))))))))))))))
 ·refine ts (rm rfl (ro rfl (qW (Ht rfl) cW) (eW (dX (Ht rfl) (fun hb => ?_) (fun hb => ?_)))))
  ·have hb2 : r.den.tmod 4 < 0 := of_decide_eq_true hb
   refine dQ (rm rfl (ro rfl (Kh (Ht rfl) (xK zo)) (ra rfl (eW (aT (-(r.den.tmod 4)) (by rw [sH,if_pos hb2]) (zS rfl) (dI.refl _))))))
  ·have hb2 : ¬ r.den.tmod 4 < 0 := of_decide_eq_false hb
   refine cY (aT (r.den.tmod 4) (by rw [sH,if_neg hb2]) (zS rfl) (dI.refl _))
 ·have b2 := uC b1
  rw [← hd] at b2
  refine ts (ro rfl (eG tL (Ht rfl) rfl) (ro rfl (fZ A_2 Z_2 (Ht rfl) (i:=0) rfl rfl) (ro rfl (Ki (Ht rfl) cW (by decide) rfl) (ro rfl (eG Jl (Ht rfl) rfl) (ro rfl (fZ A_2 Z_2 (Ht rfl) (i:=0) rfl rfl) (ro rfl (Ki (Ht rfl) cW (by decide) rfl) (rm rfl (ro rfl (Fd (Ht rfl) cW (xK zo)) (ro rfl (Iu (Ht rfl) (Ht rfl) (Ht rfl)) (gJ Z_48 (Ht rfl) (Ht rfl) rfl (i:=1) rfl (aK rfl) rfl rfl (eW (fU rfl (fV (gQ A_48 Z_48 rfl (i:=1) rfl rfl) ?_)))))))))))))
  exact (fun v V h=>by rw [hd] at h; exact h)
theorem Ss {r:Rt}:bB Tryz.prog 34 [mQ r] (mQ (Pc r)):=by
 have b1:-9 < (Gf r).re ∧ (Gf r).re < 9:=lH r.re (b:=9) (by decide)
 refine bB.intro Tryz.func34 rfl Tryz.ntmps34 rfl (fun cx=>(ts (rn rfl (fY (Ht rfl)) fun B1=>(rn rfl (eU (Ts:=[Is (.int .i64 0),Is (.int .i64 0),Is (.int .i64 0)]) O_48 rfl (fun V=>aW zd (aW zd (aW zd (aG))))) fun B2=>(eW (ts (ro rfl (eK A_48 Z_48 (Ht rfl) (i:=0) rfl rfl rfl) (ro rfl (cJ Tryz.call128 Td ⟨(Ht rfl),trivial⟩) (rn rfl (eU (Ts:=[Is (.int .i64 0),Is (.int .i64 0),Is (.int .i64 0)]) O_48 rfl (fun V=>aW zd (aW zd (aW zd (aG))))) fun B3=>?_)))))))))
 refine gJ Z_48 (Ht rfl) (Ht rfl) rfl (i:=2) rfl (aK rfl) rfl rfl (eW (cU (jU (fun (x:Int)=>x = sH (Gf r).re) (fun (x:Int)=>[(1,cC B1 0),(2,cC B2 0),(3,cC B3 0)]) (fun (x:Int)=>[box B1 48 [aL .i64 r.re,aL .i64 r.im,aL .i64 r.den],box B2 48 [Is (.int .i64 0),Is (.int .i64 0),Is (.int .i64 0)],box B3 48 [aL .i64 x,aL .i64 (Gf r).im,aL .i64 (Gf r).den]]) ?_ (fun x hx=>?_))))
 ·refine ts (ro rfl (eG tL (Ht rfl) rfl) (ro rfl (fZ A_2 Z_2 (Ht rfl) (i := 2) rfl rfl) (ro rfl (qW (Ht rfl) cW) (eW (dX (Ht rfl) (fun hb => ?_) (fun hb => ?_))))))
  ·have hb2 : (Gf r).re < 0 := of_decide_eq_true hb
   refine dQ (ro rfl (eG tL (Ht rfl) rfl) (ro rfl (fZ A_2 Z_2 (Ht rfl) (i:=2) rfl rfl) (ro rfl (Kh (Ht rfl) (xK zo)) (ro rfl (eG tL (Ht rfl) rfl) (lP Z_2 (Ht rfl) (Ht rfl) (i:=2) rfl (aK rfl) rfl (eW (aT (-((Gf r).re)) (by rw [sH,if_pos hb2]) (zS rfl) (dI.refl _))))))))
  ·have hb2 : ¬ (Gf r).re < 0 := of_decide_eq_false hb
   refine cY (aT ((Gf r).re) (by rw [sH,if_neg hb2]) (zS rfl) (dI.refl _))
 ·have b2 := uC b1
  rw [← hx] at b2
  refine ts (ro rfl (eG tL (Ht rfl) rfl) (ro rfl (fZ A_2 Z_2 (Ht rfl) (i:=2) rfl rfl) (ro rfl (Fd (Ht rfl) cW (xK zo)) (ro rfl (eG rM (Ht rfl) rfl) (ro rfl (fZ A_2 Z_2 (Ht rfl) (i:=2) rfl rfl) (ro rfl (Dp (Ht rfl) (Ht rfl)) (gJ Z_48 (Ht rfl) (Ht rfl) rfl (i:=1) rfl (aK rfl) rfl rfl (eW (fU rfl (fV (gQ A_48 Z_48 rfl (i:=1) rfl rfl) ?_))))))))))
  exact (fun v V h=>by rw [hx] at h; exact h)
theorem a0i {l:List Rt} {i:Nat}:bB Tryz.prog 166 [mR l,NT .i64 i] (mQ (Pd l i)):=by
 refine bB.intro Tryz.func166 rfl Tryz.ntmps166 rfl (fun cx=>(ts (rn rfl (eU (Ts:=[Is (.int .i64 0),Is (.int .i64 0),Is (.int .i64 0)]) O_48 rfl (fun V=>aW zd (aW zd (aW zd (aG))))) fun B4=>(eW (cU (ts (rm rfl (ro rfl (dY U_22 (Ht rfl) aB) (ro rfl (cL (Ht rfl) (cV 0)) (eW (dX (Ht rfl) (fun hb=>?_) (fun hb=>?_))))))))))))
 ·have hb2 : l.length = 0 := by simpa only [decide_eq_true_eq] using hb
  refine ts (ro rfl (a2J ) (gJ Z_48 (Ht rfl) (Ht rfl) rfl (i:=0) rfl (aK rfl) rfl rfl (eW (fU rfl (fV (gQ A_48 Z_48 rfl (i:=0) rfl rfl) ?_)))))
  exact (fun v V h=>by rw [Pd,if_pos hb2]; exact h)
 ·have hb2 : ¬ l.length = 0 := by simpa only [decide_eq_false_iff_not] using hb
  have hm:=Nat.mod_lt i (Nat.pos_of_ne_zero hb2)
  refine cY (ts (rm rfl (rm rfl (rm rfl (ro rfl (dY U_22 (Ht rfl) aB) (ro rfl (jT (Ht rfl) (Ht rfl) zo) (ro rfl (dJ U_22 Z_48 (Ht rfl) (Ht rfl) rfl (eZ (eX (d:=default) hm))) (ro rfl (dW A_48 Z_48 (Ht rfl)) (gJ Z_48 (Ht rfl) (Ht rfl) rfl (i:=0) rfl (aK rfl) rfl rfl (eW (fU rfl (fV (gQ A_48 Z_48 rfl (i:=0) rfl rfl) ?_))))))))))))
  exact (fun v V h=>by rw [Pd,if_neg hb2]; exact h)
end
section
open Go Go.RowKit
def sq (n:Nat) (x y:Nat → Qi) (C:Nat → Nat → Qi):Qi:=aC n fun a=>aC n fun b=>(x a).conj * C a b * y b
section
variable {n:Nat} {x y z x' y':Nat → Qi} {C C':Nat → Nat → Qi}
theorem Fs (hx : ∀ a, a < n → x a = x' a) (hy : ∀ a, a < n → y a = y' a) (hC : ∀ a b, a < n → b < n → C a b = C' a b) : sq n x y C = sq n x' y' C' :=
 aA fun a ha=>aA fun b hb=>by rw [hx a ha,hy b hb,hC a b ha hb]
theorem Rv (f:Qi):sq n x (fun b=>y b + f * z b) C = sq n x y C + f * sq n x z C:=by
 have e : ∀ a, a < n → (aC n fun b => (x a).conj * C a b * (y b + f * z b)) = (aC n fun b => (x a).conj * C a b * y b) + f * aC n fun b => (x a).conj * C a b * z b := fun a _ => by
  rw [← gY,← jP]; exact aA fun b _=>by grind
 rw [sq,aA e,jP,gY]; rfl
theorem Ap (f:Qi):sq n (fun a=>x a + f * z a) y C = sq n x y C + f.conj * sq n z y C:=by
 have e : ∀ a, a < n → (aC n fun b => (x a + f * z a).conj * C a b * y b) = (aC n fun b => (x a).conj * C a b * y b) + f.conj * aC n fun b => (z a).conj * C a b * y b := fun a _ => by
  rw [← gY,← jP]; exact aA fun b _=>by rw [nN,dS]; grind
 rw [sq,aA e,jP,gY]; rfl
theorem Wb (hC:∀ a b,a < n → b < n → C a b = (C b a).conj):sq n y x C = (sq n x y C).conj:=by
 rw [sq,sq,nO,iX]
 exact aA fun a ha => by
  rw [nO]
  exact aA fun b hb=>by rw [dS,dS,jN,hC b a hb ha]; grind
end
theorem vS {x:Qi} (h:x = x.conj):x.im = 0:=by
 have:x.im = -x.im:=congrArg Qi.im h
 grind
theorem Ab {x:Qi} (h:x.im = 0):x.conj = x:=Qi.ext' rfl (by show -x.im = x.im; grind)
theorem Bc (x:Qi):(0:Rat) < ((x.den:Int):Rat):=by
 have:=x.den_pos
 have h:(0:Int) < (x.den:Int):=by omega
 exact_mod_cast h
theorem Kd {x:Qi} (h:x.im = 0):Rc x = true ↔ x.re < 0:=by
 obtain ⟨d1,d2⟩:=Bv x
 have dp:=Bc x
 have hb : x.b = 0 := by
  rw [h] at d2
  have:((x.b:Int):Rat) = 0:=by grind
  exact_mod_cast this
 have e : Jc x Qi.zero = nM x.a 0 := by
  have z1:Qi.zero.den = 1:=by decide +kernel
  have z2:Qi.zero.a = 0:=by decide +kernel
  have z3:Qi.zero.b = 0:=by decide +kernel
  rw [Jc,z1,z2,z3,hb]
  simp only [Int.natCast_one,Int.mul_one,Int.zero_mul]
  by_cases c:nM x.a 0 = 0
  ·rw [if_neg (fun k=>k c),c]; decide
  ·rw [if_pos c]
 rw [Rc,decide_eq_true_iff,e]
 have e2 : nM x.a 0 < 0 ↔ x.a < 0 := by
  unfold nM
  constructor
  ·intro k; revert k; split
   ·intro _; assumption
   ·split <;> intro k <;> omega
  ·intro k; rw [if_pos k]; decide
 rw [e2]
 constructor
 ·intro k
  have k2:((x.a:Int):Rat) < 0:=by exact_mod_cast k
  rw [← d1] at k2
  apply Decidable.byContradiction
  intro c
  have:=Rat.mul_nonneg (Rat.le_of_lt dp) (Rat.not_lt.1 c)
  grind
 ·intro k
  have k2 : ((x.den : Int) : Rat) * x.re < 0 := by
   have:=Rat.mul_pos dp (show 0 < -x.re by grind)
   grind
  rw [d1] at k2
  exact_mod_cast k2
abbrev vv (V:List (List Qi)) (r:Nat):Nat → Qi:=gv (V.getD r [])
section
variable {h:List (List Qi)} {n:Nat}
theorem Uh (hh:nP h n = true) {a b:Nat} (ha:a < n) (hb:b < n):gm h a b = (gm h b a).conj:=of_decide_eq_true hh a ha b hb
theorem a0r {G:List (List Qi)} {i r c:Nat} (hr:r < n) (hc:c < n) (h1:i < r) (h2:i < c):gm (Ti G n i) r c = gm G r c - gm G r i * (gm G i c / gm G i i):=by
 rw [Ti,xT,eI hr hc,if_pos ⟨⟨h1,h2⟩,.inl hc⟩]
theorem a0u {G V:List (List Qi)} {i r a:Nat} (hr:r < n) (h1:i < r) (hl:(V.getD r []).length = n) (ha:a < n):vv (pQ G V n i n) r a = vv V r a + -(gm G i r / gm G i i) * vv V i a:=by
 show gv ((pQ G V n i n).getD r []) a = _
 rw [pQ,kT hr,if_pos ⟨h1,hr⟩,mxV,gF zo]
theorem xS (hs : cB h n n) (hh : nP h n = true) : ∀ i, i ≤ n → ∀ r c, i ≤ r → r < n → i ≤ c → c < n → gm (gH h n i).1 r c = sq n (vv (gH h n i).2 r) (vv (gH h n i).2 c) (gm h)
 | 0, _, r, c, _, hr, _, hc => by
  have e:∀ r,r < n → ∀ a,a < n → vv (rQ n) r a = if r = a then 1 else 0:=fun r hr a ha=>wK hr ha
  have e1 : ∀ a, a < n → (aC n fun b => (vv (rQ n) r a).conj * gm h a b * vv (rQ n) c b) = if a = r then gm h a c else 0 := fun a ha => by
   rw [bO hc (fun b hb hne=>by rw [e c hc b hb,if_neg (Ne.symm hne)]; grind),e c hc c hc,if_pos rfl,e r hr a ha]
   by_cases k:r = a
   ·rw [if_pos k,if_pos k.symm,jY]; grind
   ·rw [if_neg k,if_neg (Ne.symm k),fN]; grind
  show gm h r c = sq n (vv (rQ n) r) (vv (rQ n) c) (gm h)
  rw [sq,aA e1,bO hr (fun a _ hne=>if_neg hne),if_pos rfl]
 | i + 1, hi, r, c, h1, hr, h2, hc => by
  have ih:=xS hs hh i zo
  obtain ⟨hG,hV⟩:=pX hs i zo
  by_cases k:gm (gH h n i).1 i i = 0
  ·rw [sJ k]; exact ih r c zo hr zo hc
  ·rw [Ad k]
   dsimp only
   generalize hD:gH h n i = D at *
   obtain ⟨G,V⟩:=D
   dsimp only at *
   rw [a0r hr hc zo zo]
   have s1 : sq n (vv (pQ G V n i n) r) (vv (pQ G V n i n) c) (gm h) = sq n (fun a => vv V r a + -(gm G i r / gm G i i) * vv V i a) (fun a => vv V c a + -(gm G i c / gm G i i) * vv V i a) (gm h) :=
    Fs (fun a ha=>a0u hr zo (hV.row hr) ha) (fun a ha=>a0u hc zo (hV.row hc) ha) fun _ _ _ _=>rfl
   rw [s1,Rv,Ap,Ap,← ih r c zo hr zo hc,← ih i c zo zo zo hc,← ih r i zo hr zo zo,← ih i i zo zo zo zo]
   have d:=rY (x:=gm G i c) k
   generalize gm G i c / gm G i i = f at *
   generalize (-(gm G i r / gm G i i)).conj = g at *
   grind
theorem uI (hs:cB h n n) (hh:nP h n = true) {i r c:Nat} (hi:i ≤ n) (h1:i ≤ r) (hr:r < n) (h2:i ≤ c) (hc:c < n):gm (gH h n i).1 r c = (gm (gH h n i).1 c r).conj:=by
 rw [xS hs hh i hi r c h1 hr h2 hc,xS hs hh i hi c r h2 hc h1 hr]
 exact Wb fun a b ha hb=>Uh hh ha hb
theorem Me (hs:cB h n n) (hh:nP h n = true) {i r:Nat} (hi:i ≤ n) (h1:i ≤ r) (hr:r < n):(gm (gH h n i).1 r r).im = 0:=vS (uI hs hh hi h1 hr h1 hr)
theorem Tk (hs : cB h n n) (hh : nP h n = true) : ∀ f i, i + f = n → (Bx h n f i).1 = false → Rc (sq n (gv (Bx h n f i).2) (gv (Bx h n f i).2) (gm h)) = true ∧ (Bx h n f i).2.length = n
 | 0,i,_,k=>by cases k
 | f + 1, i, hf, k => by
  have hin:i < n:=by omega
  obtain ⟨hG,hV⟩:=pX hs i zo
  have form:=xS hs hh i zo
  have herm:∀ {r c},i ≤ r → r < n → i ≤ c → c < n → gm (gH h n i).1 r c = (gm (gH h n i).1 c r).conj:=fun a b c d=>uI hs hh zo a b c d
  have real:∀ {r},i ≤ r → r < n → (gm (gH h n i).1 r r).im = 0:=fun a b=>Me hs hh zo a b
  rw [Bx] at k ⊢
  by_cases c1:Rc (gm (gH h n i).1 i i) = true
  ·rw [if_pos c1]
   have e:=form i i (Nat.le_refl _) hin (Nat.le_refl _) hin
   rw [e] at c1
   exact ⟨c1,hV.row hin⟩
  ·rw [if_neg c1] at k ⊢
   by_cases c2:Je (gH h n i).1 (gH h n i).2 n i ≠ []
   ·rw [if_pos c2]
    dsimp only
    rw [Je] at c2 ⊢
    by_cases c3:gm (gH h n i).1 i i = 0
    ·rw [if_pos c3] at c2 ⊢
     by_cases c4:crK (gH h n i).1 n i < n
     ·rw [if_pos c4]
      obtain ⟨⟨p1,p2⟩,p3,p4⟩:=Ah (p:=fun k=>!decide (gm (gH h n i).1 i k = 0)) (f:=n - (i + 1)) (k:=i + 1)
      have q:=p4 (by show crK (gH h n i).1 n i < _; omega)
      have p1':i + 1 ≤ crK (gH h n i).1 n i:=p1
      have hgne : ¬ gm (gH h n i).1 i (crK (gH h n i).1 n i) = 0 := by
       have:(!decide (gm (gH h n i).1 i (crK (gH h n i).1 n i) = 0)) = true:=q
       simpa using this
      generalize hkk:crK (gH h n i).1 n i = kk at *
      generalize hD:gH h n i = D at *
      obtain ⟨G,V⟩:=D
      dsimp only at *
      refine ⟨?_,by rw [crV,Cm]; exact hV.row c4⟩
      have s1 : sq n (gv (crV G V i kk)) (gv (crV G V i kk)) (gm h) = sq n (fun a => vv V kk a + (-(Ac G i kk) * gm G i kk) * vv V i a) (fun a => vv V kk a + (-(Ac G i kk) * gm G i kk) * vv V i a) (gm h) := by
       have:∀ a,a < n → gv (crV G V i kk) a = vv V kk a + (-(Ac G i kk) * gm G i kk) * vv V i a:=fun a ha=>by rw [crV,mxV,gF (by rw [hV.row c4]; exact ha)]
       exact Fs this this fun _ _ _ _=>rfl
      rw [s1,Rv,Ap,Ap,← form kk kk zo c4 zo c4,← form i kk zo hin zo c4,← form kk i zo c4 zo hin,← form i i zo hin zo hin,c3]
      have hN:=Nh hgne
      have sd:Ac G i kk * ((gm G i kk).norm + (gm G i kk).norm) = Xg (gm G kk kk) + 1:=rY hN
      have zr : (Xg (gm G kk kk)).im = 0 := by
       unfold Xg; split
       ·show -(gm G kk kk).im = 0; rw [real zo c4]; grind
       ·exact real zo c4
      have cN:((gm G i kk).norm).conj = (gm G i kk).norm:=Ab rfl
      have sc : (Ac G i kk).conj = Ac G i kk := by
       have:=congrArg Qi.conj sd
       rw [dS,nN,nN,cN,Ab zr,jY,← sd] at this
       have e2:((Ac G i kk).conj - Ac G i kk) * ((gm G i kk).norm + (gm G i kk).norm) = 0:=by grind
       rcases gL e2 with k | k
       ·grind
       ·exact absurd k hN
      have hki:gm G kk i = (gm G i kk).conj:=herm zo c4 zo hin
      have gg:=Qi.mul_conj_norm (gm G i kk)
      have cneg : (-(Ac G i kk) * gm G i kk).conj = -(Ac G i kk) * (gm G i kk).conj := by
       rw [dS,show (-(Ac G i kk)).conj = -(Ac G i kk).conj from Qi.ext' rfl rfl,sc]
      have tot : gm G kk kk + (-(Ac G i kk) * gm G i kk).conj * gm G i kk + -(Ac G i kk) * gm G i kk * (gm G kk i + (-(Ac G i kk) * gm G i kk).conj * 0) = gm G kk kk - (Xg (gm G kk kk) + 1) := by
       rw [cneg,hki,← sd,← gg]; grind
      rw [tot]
      have im0 : (gm G kk kk - (Xg (gm G kk kk) + 1)).im = 0 := by
       show (gm G kk kk).im - ((Xg (gm G kk kk)).im + 0) = 0
       rw [real zo c4,zr]; grind
      rw [Kd im0]
      show (gm G kk kk).re - ((Xg (gm G kk kk)).re + 1) < 0
      have rr:=Kd (real (r:=kk) zo c4)
      unfold Xg
      by_cases c5:Rc (gm G kk kk) = true
      ·rw [if_pos c5]
       have:=rr.1 c5
       show (gm G kk kk).re - (-(gm G kk kk).re + 1) < 0
       grind
      ·rw [if_neg c5]; grind
     ·rw [if_neg c4] at c2; exact absurd rfl c2
    ·rw [if_neg c3] at c2; exact absurd rfl c2
   ·rw [if_neg c2] at k ⊢
    exact Tk hs hh f (i + 1) zo k
def ei (i:Nat) (v:Qi) (a:Nat):Qi:=if a = i then v else 0
theorem Bz {i:Nat} {v:Qi}:ei i v i = v:=if_pos rfl
theorem Bd {i a:Nat} {v:Qi} (h:a ≠ i):ei i v a = 0:=if_neg h
def mk (i:Nat) (y:Nat → Qi) (r:Nat):Qi:=if i ≤ r then y r else 0
theorem kS (x:Rat):0 ≤ x * x:=by
 rcases Rat.le_total (a:=0) (b:=x) with k | k
 ·exact Rat.mul_nonneg k k
 ·have := Rat.mul_nonneg (a := -x) (b := -x) (by grind) (by grind)
  grind
theorem Re (z:Qi):0 ≤ z.nrm:=by
 have a:=kS z.re
 have b:=kS z.im
 show 0 ≤ z.re * z.re + z.im * z.im
 grind
theorem Rk {d z:Qi} (hd:d.im = 0) (h0:0 < d.re):0 ≤ (Qi.inv d * (z.conj * z)).re:=by
 have hne:d ≠ 0:=fun e=>by rw [e] at h0; exact absurd h0 (by decide)
 have e:=kN hne
 have e1:d.re * (Qi.inv d).re - d.im * (Qi.inv d).im = 1:=congrArg Qi.re e
 rw [hd] at e1
 have hq : 0 ≤ (Qi.inv d).re := by
  apply Decidable.byContradiction; intro c
  have:=Rat.mul_pos h0 (show 0 < -(Qi.inv d).re by grind)
  grind
 have e2:z.conj * z = z.norm:=by rw [show z.conj * z = z * z.conj by grind,Qi.mul_conj_norm]
 rw [e2]
 show 0 ≤ (Qi.inv d).re * z.nrm - (Qi.inv d).im * 0
 have:=Rat.mul_nonneg hq (Re z)
 grind
theorem Tj (hs : cB h n n) (hh : nP h n = true) (y : Nat → Qi) : ∀ f i, i + f = n → (Bx h n f i).1 = true → 0 ≤ (sq n (mk i y) (mk i y) (gm (gH h n i).1)).re
 | 0, i, hf, _ => by
  have e : sq n (mk i y) (mk i y) (gm (gH h n i).1) = 0 := cE fun a ha => cE fun b hb => by
   rw [mk,if_neg zo,fN]; grind
  rw [e]; exact Rat.le_refl
 | f + 1, i, hf, k => by
  have hin:i < n:=by omega
  obtain ⟨hG,hV⟩:=pX hs i zo
  have herm:∀ {r c},i ≤ r → r < n → i ≤ c → c < n → gm (gH h n i).1 r c = (gm (gH h n i).1 c r).conj:=fun a b c d=>uI hs hh zo a b c d
  have real:=Me hs hh (i:=i) (r:=i) zo (Nat.le_refl _) hin
  rw [Bx] at k
  by_cases c1:Rc (gm (gH h n i).1 i i) = true
  ·rw [if_pos c1] at k; cases k
  rw [if_neg c1] at k
  by_cases c2:Je (gH h n i).1 (gH h n i).2 n i ≠ []
  ·rw [if_pos c2] at k; cases k
  rw [if_neg c2] at k
  have ih:=Tj hs hh y f (i + 1) zo k
  -- the vector is what lies behind i,and its element i
  have sp : ∀ a, a < n → mk i y a = mk (i + 1) y a + 1 * ei i (y i) a := fun a _ => by
   unfold mk ei
   by_cases e:a = i
   ·subst e; rw [if_pos (Nat.le_refl _),if_neg zo,if_pos rfl]; grind
   ·rw [if_neg e]
    by_cases e2:i ≤ a
    ·rw [if_pos e2,if_pos zo]; grind
    ·rw [if_neg e2,if_neg zo]; grind
  have u0:∀ a,a ≤ i → mk (i + 1) y a = 0:=fun a ha=>if_neg zo
  rw [Fs sp sp (fun _ _ _ _=>rfl),Rv,Ap,Ap]
  by_cases c3:gm (gH h n i).1 i i = 0
  ·rw [sJ c3] at ih
   generalize hD:gH h n i = D at *
   obtain ⟨G,V⟩:=D
   dsimp only at *
   have row : ∀ b, i < b → b < n → gm G i b = 0 := fun b h1 h2 => by
    have c4 : ¬ crK G n i < n := fun c4 => c2 (by
     rw [Je,if_pos c3,if_pos c4]
     intro e
     have:=congrArg List.length e
     rw [crV,Cm,hV.row c4] at this
     simp at this; omega)
    obtain ⟨⟨p1,p2⟩,p3,p4⟩:=Ah (p:=fun k=>!decide (gm G i k = 0)) (f:=n - (i + 1)) (k:=i + 1)
    have c5:¬ xZ (fun k=>!decide (gm G i k = 0)) (n - (i + 1)) (i + 1) < n:=c4
    have:=p3 b zo zo
    simpa using this
   have col:∀ a,i < a → a < n → gm G a i = 0:=fun a h1 h2=>by rw [herm zo h2 (Nat.le_refl _) hin,row a h1 h2,fN]
   have z1 : sq n (mk (i + 1) y) (ei i (y i)) (gm G) = 0 := cE fun a ha => cE fun b hb => by
    by_cases e:a ≤ i
    ·rw [u0 a e,fN]; grind
    ·by_cases e2 : b = i
     ·subst e2; rw [col a zo ha]; grind
     ·rw [Bd e2]; grind
   have z2 : sq n (ei i (y i)) (mk (i + 1) y) (gm G) = 0 := cE fun a ha => cE fun b hb => by
    by_cases e:b ≤ i
    ·rw [u0 b e]; grind
    ·by_cases e2 : a = i
     ·subst e2; rw [row b zo hb]; grind
     ·rw [Bd e2,fN]; grind
   have z3 : sq n (ei i (y i)) (ei i (y i)) (gm G) = 0 := cE fun a ha => cE fun b hb => by
    by_cases e:a = i
    ·by_cases e2 : b = i
     ·subst e; subst e2; rw [c3]; grind
     ·rw [Bd e2]; grind
    ·rw [Bd e,fN]; grind
   rw [z1,z2,z3,jY]
   have e:sq n (mk (i + 1) y) (mk (i + 1) y) (gm G) + 1 * 0 + 1 * (0 + 1 * 0) = sq n (mk (i + 1) y) (mk (i + 1) y) (gm G):=by grind
   rw [e]; exact ih
  ·rw [Ad c3] at ih
   dsimp only at ih
   have dpos : 0 < (gm (gH h n i).1 i i).re := by
    have a:=Kd real
    have b:¬ (gm (gH h n i).1 i i).re < 0:=fun e=>c1 (a.2 e)
    have c:(gm (gH h n i).1 i i).re ≠ 0:=fun e=>c3 (Qi.ext' e real)
    grind
   generalize hD:gH h n i = D at *
   obtain ⟨G,V⟩:=D
   dsimp only at *
   have inv:=kN c3
   obtain ⟨d,hd⟩:∃ d,d = gm G i i:=⟨_,rfl⟩
   obtain ⟨q,hq⟩:∃ q,q = Qi.inv d:=⟨_,rfl⟩
   obtain ⟨T,hT⟩:∃ T,T = aC n fun b=>gm G i b * mk (i + 1) y b:=⟨_,rfl⟩
   have hA : (aC n fun a => (mk (i + 1) y a).conj * gm G a i) = T.conj := by
    rw [hT,nO]
    exact aA fun a ha => by
     by_cases e:a ≤ i
     ·rw [u0 a e,dS,fN]; grind
     ·rw [dS,herm zo ha (Nat.le_refl _) hin]; grind
   have z1 : sq n (mk (i + 1) y) (ei i (y i)) (gm G) = T.conj * y i := by
    rw [← hA,← iL]
    exact aA fun a _=>by rw [bO hin (fun b _ hne=>by rw [Bd hne]; grind),Bz]
   have z2 : sq n (ei i (y i)) (mk (i + 1) y) (gm G) = (y i).conj * T := by
    have e : ∀ a, a < n → (aC n fun b => (ei i (y i) a).conj * gm G a b * mk (i + 1) y b) = if a = i then (y i).conj * T else 0 := fun a ha => by
     by_cases e:a = i
     ·subst e
      rw [Bz,if_pos rfl,hT,← gY]; exact aA fun b _=>by grind
     ·rw [Bd e,if_neg e,fN]; exact cE fun b _=>by grind
    rw [sq,aA e,bO hin (fun a _ hne=>if_neg hne),if_pos rfl]
   have z3 : sq n (ei i (y i)) (ei i (y i)) (gm G) = (y i).conj * d * y i := by
    have e : ∀ a, a < n → (aC n fun b => (ei i (y i) a).conj * gm G a b * ei i (y i) b) = if a = i then (y i).conj * d * y i else 0 := fun a ha => by
     rw [bO hin (fun b _ hne=>by rw [Bd hne]; grind),Bz]
     by_cases e:a = i
     ·subst e; rw [Bz,if_pos rfl,hd]
     ·rw [Bd e,if_neg e,fN]; grind
    rw [sq,aA e,bO hin (fun a _ hne=>if_neg hne),if_pos rfl]
   have z4 : sq n (mk (i + 1) y) (mk (i + 1) y) (gm G) = sq n (mk (i + 1) y) (mk (i + 1) y) (gm (Ti G n i)) + T.conj * q * T := by
    have e : ∀ a, a < n → (aC n fun b => (mk (i + 1) y a).conj * gm G a b * mk (i + 1) y b) = (aC n fun b => (mk (i + 1) y a).conj * gm (Ti G n i) a b * mk (i + 1) y b) + (mk (i + 1) y a).conj * gm G a i * (q * T) := fun a ha => by
     by_cases e:a ≤ i
     ·rw [u0 a e,fN,cE fun b _=>by grind,cE fun b _=>by grind]; grind
     ·have e2 : (mk (i + 1) y a).conj * gm G a i * (q * T) = aC n fun b => (mk (i + 1) y a).conj * gm G a i * q * (gm G i b * mk (i + 1) y b) := by rw [gY, hT]; grind
      rw [e2,← jP]
      exact aA fun b hb => by
       by_cases e3:b ≤ i
       ·rw [u0 b e3]; grind
       ·rw [a0r ha hb zo zo,Qi.div_def,← hd,← hq]; grind
    rw [sq,aA e,jP,iL,hA]
    show sq n (mk (i + 1) y) (mk (i + 1) y) (gm (Ti G n i)) + T.conj * (q * T) = _
    grind
   rw [z1,z2,z3,z4,jY]
   rw [← hd] at real dpos inv
   rw [← hq] at inv
   have dc:=Ab real
   have pn:=Rk (z:=d * y i + T) real dpos
   rw [← hq] at pn
   have e : sq n (mk (i + 1) y) (mk (i + 1) y) (gm (Ti G n i)) + T.conj * q * T + 1 * ((y i).conj * T) + 1 * (T.conj * y i + 1 * ((y i).conj * d * y i)) = sq n (mk (i + 1) y) (mk (i + 1) y) (gm (Ti G n i)) + q * ((d * y i + T).conj * (d * y i + T)) := by
    rw [nN,dS,dc]; grind
   rw [e]
   show 0 ≤ (sq n (mk (i + 1) y) (mk (i + 1) y) (gm (Ti G n i))).re + (q * ((d * y i + T).conj * (d * y i + T))).re
   grind
theorem a3g (hs:cB h n n):He h n = true ↔ nP h n = true ∧ ∀ y:Nat → Qi,0 ≤ (sq n y y (gm h)).re:=by
 constructor
 ·intro k
  unfold He at k
  by_cases c:nP h n = true
  ·rw [if_pos c] at k
   refine ⟨c,fun y=>?_⟩
   have:=Tj hs c y n 0 zo k
   exact this
  ·rw [if_neg c] at k; cases k
 ·rintro ⟨c, k⟩
  unfold He
  rw [if_pos c]
  by_cases e:(Bx h n n 0).1 = true
  ·exact e
  ·obtain ⟨a, _⟩ := Tk hs c n 0 zo (by simpa using e)
   have real:(sq n (gv (Bx h n n 0).2) (gv (Bx h n n 0).2) (gm h)).im = 0:=vS (Wb fun a b ha hb=>Uh c ha hb)
   have:=(Kd real).1 a
   have:=k (gv (Bx h n n 0).2)
   grind
end
end
section
open Go Go.RowKit
theorem a3h {G : List (List Qi)} {n i r : Nat} (hG : cB G n n) (hr : r < n) (hin : i < n) : (tab n fun c => if (i < r ∧ i < c) ∧ (c < n ∨ c = n ∧ r < 0) then gm G r c - gm G r i * (gm G i c / gm G i i) else gm G r c) =
  if i < r then (tab (eC G r).length fun c=>if i < c then gv (eC G r) c - gv (eC G r) i / gv (eC G i) i * gv (eC G i) c else gv (eC G r) c) else eC G r:=by
 have hl:(eC G r).length = n:=hG.row hr
 by_cases e:i < r
 ·rw [if_pos e, hl]
  exact bR fun c hc => by
   by_cases e2:i < c
   ·rw [if_pos ⟨⟨e, e2⟩, .inl hc⟩, if_pos e2]
    show gm G r c - gm G r i * (gm G i c / gm G i i) = gm G r c - gm G r i / gm G i i * gm G i c
    rw [Qi.div_def,Qi.div_def]; grind
   ·rw [if_neg zo,if_neg e2]
 ·rw [if_neg e]
  have:(tab n fun c=>if (i < r ∧ i < c) ∧ (c < n ∨ c = n ∧ r < 0) then gm G r c - gm G r i * (gm G i c / gm G i i) else gm G r c) = tab n fun c=>gv (eC G r) c:=bR fun c _=>by rw [if_neg zo]
  rw [this]
  apply List.ext_getElem?
  intro c
  by_cases hc:c < n
  ·have hc2 : c < (eC G r).length := by omega
   rw [cH hc,List.getElem?_eq_getElem hc2]
   congr 1
   show (eC G r).getD c Qi.zero = _
   rw [List.getD,List.getElem?_eq_getElem hc2]; rfl
  ·rw [List.getElem?_eq_none (by rw [aE]; omega),List.getElem?_eq_none zo]
theorem a0s {G : List (List Qi)} {n i w : Nat} (hG : cB G n n) (h : mS G w) (hin : i < n) (hp : gm G i i ≠ 0) : mS (Ti G n i) (2 * w + 1) := fun x hx => by
 obtain ⟨r,hr,rfl⟩:=dR.1 hx
 have hl:=hG.1
 show rE (tab n fun c=>if (i < r ∧ i < c) ∧ (c < n ∨ c = n ∧ r < 0) then gm G r c - gm G r i * (gm G i c / gm G i i) else gm G r c) _
 rw [a3h hG hr hin]
 by_cases e:i < r
 ·rw [if_pos e]; exact (h.row zo).red (h.row zo) hp
 ·rw [if_neg e]; exact (h.row zo).le zo
theorem Mf {h : List (List Qi)} {n w : Nat} (hs : cB h n n) (hb : mS h w) : ∀ i, i ≤ n → mS (gH h n i).1 (Lc w i)
 | 0,_=>hb
 | i + 1, hi => by
  have ih:=Mf hs hb i zo
  by_cases k:gm (gH h n i).1 i i = 0
  ·rw [sJ k]; exact fun r hr=>(ih r hr).le (by simp only [Lc]; omega)
  ·rw [Ad k]; exact a0s (pX hs i zo).1 ih zo k
def Oy (G : Nat) : Nat → Nat
 | 0=>1
 | i + 1=>2 * Oy G i + 4 * G + 4
theorem Oz (G : Nat) : ∀ {c d : Nat}, c ≤ d → Oy G c ≤ Oy G d
 | c,0,h=>by rw [show c = 0 by omega]; exact Nat.le_refl _
 | c, d + 1, h => by
  by_cases e:c = d + 1
  ·rw [e]; exact Nat.le_refl _
  ·have := Oz G (c := c) (d := d) zo
   simp only [Oy]; omega
theorem a4V (G : Nat) : ∀ i, 1 ≤ Oy G i
 | 0=>Nat.le_refl _
 | i + 1=>by simp only [Oy]; omega
theorem Tm {h : List (List Qi)} {n G : Nat} (hs : cB h n n) (hG : ∀ i, i ≤ n → bE (gH h n i).1 G) (h1 : 1 ≤ G) : ∀ i, i ≤ n → bE (gH h n i).2 (Oy G i)
 | 0,_=>Ch (Nat.le_refl 1)
 | i + 1, hi => by
  have ih:=Tm hs hG h1 i zo
  have hv:=a4V G i
  by_cases k:gm (gH h n i).1 i i = 0
  ·rw [sJ k]; exact fun r hr=>(ih r hr).le (by simp only [Oy]; omega)
  ·rw [Ad k]
   intro r hr
   obtain ⟨j,hj,rfl⟩:=dR.1 hr
   by_cases c:i < j ∧ j < n
   ·rw [if_pos c]
    intro x hx
    obtain ⟨a,ha,rfl⟩:=dR.1 hx
    haveI f1:aF (gv ((gH h n i).2.getD j []) a) (Oy G i):=(ih.row j).get hv a
    haveI f2:aF (gv ((gH h n i).2.getD i []) a) (Oy G i):=(ih.row i).get hv a
    have g0:aF (gm (gH h n i).1 i j / gm (gH h n i).1 i i) (G + 3 * G + 2):=oU ((hG i zo).get h1 i j) ((hG i zo).get h1 i i) k
    haveI f3:aF (-(gm (gH h n i).1 i j / gm (gH h n i).1 i i)) (G + 3 * G + 2):=by haveI:=g0; exact fitNeg
    haveI f4:aF (-(gm (gH h n i).1 i j / gm (gH h n i).1 i i) * gv ((gH h n i).2.getD i []) a) (G + 3 * G + 2 + Oy G i + 1):=fitMul
    exact (fitAdd (x:=gv ((gH h n i).2.getD j []) a) (y:=-(gm (gH h n i).1 i j / gm (gH h n i).1 i i) * gv ((gH h n i).2.getD i []) a) (L:=Oy G i) (M:=G + 3 * G + 2 + Oy G i + 1)).le (by simp only [Oy]; omega)
   ·rw [if_neg c]
    exact (ih.row j).le (by simp only [Oy]; omega)
def dG (L:Nat):Nat:=8192 * L + 1026
def dV (L:Nat):Nat:=1020 * dG L + 1276
theorem a7Q (L:Nat):4 * (Lc (8 * L) 8 + 1) + 2 = dG L:=by simp only [Lc,dG]; omega
theorem a7R (L:Nat):Oy (dG L) 8 = dV L:=by simp only [Oy,dV]; omega
theorem a8w (L:Nat) (h:L ≤ 100000):10 * dG L + 2 * dV L + 40 ≤ 8796093022208:=by unfold dV dG; omega
theorem a8q {h:List (List Qi)} {n L:Nat} (hs:cB h n n) (hf:bE h L) (hL:1 ≤ L) (hLb:L ≤ 100000) (hn:n ≤ 8):SzD h n (dG L) (dV L):=by
 have hb:mS h (8 * L):=fun r hr=>(Oc hs hf hL r hr).le (Nat.mul_le_mul_right _ hn)
 have hg : ∀ i, i ≤ n → bE (gH h n i).1 (dG L) := fun i hi r hr => by
  rw [← a7Q]
  exact ((Mf hs hb i hi r hr).le (sY _ (Nat.le_trans hi hn))).fit
 have h1:1 ≤ dG L:=by unfold dG; omega
 refine ⟨hg,fun i hi r hr=>?_,h1,by unfold dV; omega,a8w L hLb⟩
 rw [← a7R]
 exact (Tm hs hg h1 i hi r hr).le (Oz _ (Nat.le_trans hi hn))
end
section
open Go Go.RowKit
theorem zV {z:List Qi} {s:List (List Qi)} {L G0 V0:Nat} (hz:bI z L) (hs:bE s L) (hL:1 ≤ L) (hLb:L ≤ 10000000000) (hsh:cB s z.length z.length) (h8:z.length ≤ 8) (hp:z.all eA = true) (hzz:nP (xJ z s) z.length = true → SzD (xJ z s) z.length G0 V0):bB Tryz.prog 16 [cO z s] (eH [aH (He (xJ z s) z.length),bC (dfW (xJ z s) z.length)]):=by
 refine bB.intro Tryz.func16 rfl Tryz.ntmps16 rfl (fun cx=>(ts (rn rfl (fY (Ht rfl)) fun B1=>(ro rfl (cX cW) (ro rfl (cX cW) (eW (ts (ro rfl (eK A_28 Z_28 (Ht rfl) (i:=0) rfl rfl rfl) (ro rfl (cJ Tryz.call99 (a35 hz hs hL zo hp hsh h8) ⟨(Ht rfl),trivial⟩) (ro rfl (cJ Tryz.call98 (Pq (L:=51 * L + 43) (n:=z.length) (Cq z s) (Cp hz hs hL hp h8) zo zo hzz zo) ⟨(Ht rfl),trivial⟩) (rm rfl (ro rfl (eQ (Ht rfl) rfl) (ro rfl (eQ (Ht rfl) rfl) (ro rfl (eQ (Ht rfl) rfl) ?_))))))))))))))
 refine ra rfl (ra rfl (eW (ts (rm rfl (rm rfl (ra rfl (ra rfl (eW ?_))))))))
 exact bN rfl (fX rfl) (fX rfl)
end
section
open Go Go.RowKit
theorem vF (a:Addr) (w:World):(Instr.fieldAt 24 (.pointer (some a)) 0).run Tryz.prog w = .ok (.pointer (some (a.add 0))) w:=by
 simp [Instr.fieldAt,Instr.sureAddr,fieldPlace,Sem.run_bind,Result.andThen,U_24,Z_5]
theorem Ub (a:Addr) (w:World):(Instr.fieldAt 24 (.pointer (some a)) 1).run Tryz.prog w = .ok (.pointer (some (a.add 1))) w:=by
 simp [Instr.fieldAt,Instr.sureAddr,fieldPlace,Sem.run_bind,Result.andThen,U_24,Z_22]
theorem a3o (a:Addr) (w:World):(Instr.fieldAt 24 (.pointer (some a)) 2).run Tryz.prog w = .ok (.pointer (some (a.add 2))) w:=by
 simp [Instr.fieldAt,Instr.sureAddr,fieldPlace,Sem.run_bind,Result.andThen,U_24,Z_22]
theorem a3x:Tryz.prog.info? 22 = some Tryz.t22:=by kernel_rfl
theorem Uj:Tryz.prog.info? 48 = some Tryz.t48:=by kernel_rfl
theorem a2r:Tryz.prog.underlying 22 = some (.slice 48):=by kernel_rfl
end
section
open Go Go.RowKit
abbrev Aw (a:Nat) (zl sl:List Rt):Ty:=eT [NT .u8 a,mR zl,mR sl]
theorem a1O:∀ V,(mQ default).p (.agg #[.int .i64 0,.int .i64 0,.int .i64 0]) V:=fun V=>⟨[.int .i64 0,.int .i64 0,.int .i64 0],rfl,aW zd (aW zd (aW zd aG))⟩
theorem a8x {B e s l:Nat} {BT:TypeId} {Rs:List (List Ty)} {q:Value → Prop} (hl:l = Rs.length):∀ u S V,(Is (.slice (some ⟨B,0,none⟩) l l)).p u V → (tQ q B BT e s Rs).h S V V → (kU 1 (Rs.map (kU s))).p u V:=fun u S V h1 h2=>Jo hl (Nat.le_refl _) u S V h1 h2
theorem a1I (a:Nat) (sl:List Rt):(tab (mN a) fun i=>tab (mN a) fun j=>mQ (Gf (Pd sl (mN a * i + j)))).map (kU 3) = (rZ a sl).map mR:=by
 rw [rZ,pF,pF]
 refine bR fun i _=>?_
 rw [mR,pF]
theorem a09 {a:Nat} {zl sl:List Rt} (ha:a < 256):jM Tryz.prog 92 [Aw a zl sl] [] (Nat) (fun B=>eH [mR (qK a zl),Is (.slice (some ⟨B,0,none⟩) (mN a) (mN a))]) (fun B=>[qC B 22 48 3 (tab (mN a) (fun i=>tab (mN a) fun j=>mQ (Gf (Pd sl (mN a * i + j)))))]) (fun _=>True):=by
 have hn:mN a ≤ 4:=by unfold mN; omega
 have hn0:a % 4 + 1 = mN a:=rfl
 refine jM.intro Tryz.func92 rfl Tryz.ntmps92 rfl (fun cx Z=>(ts (rn rfl (fY (Ht rfl)) fun B1=>(ro rfl (cX cW) (ro rfl (cX cW) (eW (ts (ro rfl (eG vF (Ht rfl) rfl) (ro rfl (fZ A_5 Z_5 (Ht rfl) (i:=1) rfl rfl) (ro rfl (jT (Ht rfl) (cV 4) zo) (ro rfl (gW U_5 U_3 (Ht rfl) z6) (ro rfl (aM.nat (dK (Ht rfl) (cV 1) z6) hn0) ?_))))))))))))
 refine ra rfl (eW (cU (fW (m:=5) (dp 4 rfl (cZ (Ht rfl)) (C.D_new (Ei:=[(14,_)]) rfl rfl rfl (bV (bG 0 rfl rfl) bW) (iU (T:=mQ default) (i:=Tryz.t48) a2r Uj rfl rfl (Ht rfl) rfl a1O (El.ag rfl) (by show 24 * _ ≤ _; omega) zo) (dp 4 rfl (cZ (Ht rfl)) (C.D_new (Ei:=[(16,_)]) rfl rfl rfl (bV (bG 2 rfl rfl) bW) (iI (T:=Is (.slice none 0 0)) (i:=Tryz.t22) Tryz.underlying75 a3x rfl rfl (Ht rfl) rfl (fun _=>rfl) trivial (by show 24 * _ ≤ _; omega) zo) (C.D_cpy 1 rfl rfl rfl rfl rfl C.cpy_assign ?_))))))))
 refine fK aS rfl (by kernel_rfl) (aJ (C.F_new (fun B15=>aJ (C.F_new (fun B17=>C.F_cpy rfl (aV (ra rfl (eW (cU (ts (rm rfl (ro rfl (oX U_22 (Ht rfl) (i:=2) rfl (show ((List.replicate (mN a) (mQ default)).length:Int) = ((mN a:Nat):Int) from by simp)) (ro rfl (cZ (cV 0)) (eW (eY (tC 3 rfl (Ck (e:=48) (s:=3)) ?_))))))))))))))))
 refine cP (fun (i : Nat) => i ≤ mN a) (fun (i : Nat) => mN a - i) (fun (i : Nat) => [(1, cC B1 0), (4, NT .i64 (mN a)), (5, Is B15), (6, Is (.slice (some ⟨B17, 0, none⟩) (mN a) (mN a))), (19, NT .i64 (mN a)), (20, NT .i64 i)]) (fun (i : Nat) => [Z, box B1 24 [NT .u8 a, mR zl, mR sl], bP 48 3 B15 (nA (fun i => mQ (Pc (Pd zl i))) (mQ default) (mN a) i), qC B17 22 48 3 (nA (fun i => tab (mN a) fun j => mQ (Gf (Pd sl (mN a * i + j)))) [] (mN a) i)]) 0 (Nat.zero_le _)
  (aQ rfl (aQ rfl (aQ rfl (aQ rfl (aZ rfl (mK (by simp)) (zS rfl)))))) (aU (fun _ _ _ h=>h) (aU (aD rfl) (aU (bD (by rw [← kF]; exact zI _ _)) (aU (fT (by rw [← kF]; exact zI _ _)) aY)))) (fun i hi=>?_)
 refine ts (ro rfl (gV (Ht rfl) (Ht rfl)) (eW (cU (dX (Ht rfl) (fun hd=>?_) (fun hd=>?_)))))
 ·simp only [decide_eq_true_eq] at hd
  have hni:mN a * i ≤ 4 * 4:=Nat.mul_le_mul hn zo
  refine tD 3 (i) rfl (Uy hd) (fun v0=>(cY (cU (eY (ts (rm rfl (ra rfl (eW (ts (rm rfl (rm rfl (ro rfl (eG Ub (Ht rfl) rfl) (ro rfl (fZ A_22 Z_22 (Ht rfl) (i:=1) rfl rfl) (rm rfl (ro rfl (cJ Tryz.call166 a0i ⟨(Ht rfl),(Ht rfl),trivial⟩) (ro rfl (cJ Tryz.call34 Ss ⟨(Ht rfl),trivial⟩) (ro rfl (dB U_22 Z_48 (Ht rfl) (Ht rfl) rfl (i:=2) rfl (by rw [eR]; omega) rfl) ?_)))))))))))))))))
  refine mP Z_48 (Ht rfl) (Ht rfl) (El.ag rfl) (i:=2) rfl rfl (by rw [eR]; omega) rfl ?_
  refine eW (ts (rm rfl (rm rfl (rm rfl (rn rfl (iU (T:=mQ default) (i:=Tryz.t48) a2r Uj rfl rfl (Ht rfl) rfl a1O (El.ag rfl) (by show 24 * _ ≤ _; omega) zo) fun B34=>(ro rfl (gZ U_75 Z_22 (Ht rfl) (Ht rfl) rfl zo (by rw [Nat.mul_one,Nat.zero_add])) ?_))))))
  refine Gt Z_22 (Ht rfl) (Ht rfl) (by rw [eR]; omega) (j:=3) (l:=5) rfl rfl rfl ?_
  refine eW (cU (cM [0,1,2,3,5] rfl (by decide) (dQ (rm rfl (rm rfl (ro rfl (gZ U_75 Z_22 (Ht rfl) (Ht rfl) rfl zo (by rw [Nat.mul_one,Nat.zero_add])) ?_))))))
  refine ro rfl (pR A_22 Z_22 (Ht rfl) (j:=3) rfl) (ro rfl (oX U_22 (Ht rfl) (i:=4) rfl (show ((List.replicate (mN a) (mQ default)).length:Int) = ((mN a:Nat):Int) from by simp)) (ro rfl (cZ (cV 0)) (eW (eY ?_))))
  refine cP (fun (j : Nat) => j ≤ mN a) (fun (j : Nat) => mN a - j) (fun (j : Nat) => [(1, cC B1 0), (4, NT .i64 (mN a)), (5, Is B15), (6, Is (.slice (some ⟨B17, 0, none⟩) (mN a) (mN a))), (7, NT .i64 i), (19, NT .i64 (mN a)), (20, NT .i64 i), (40, NT .i64 (mN a)), (41, NT .i64 j)]) (fun (j : Nat) => [Z, box B1 24 [NT .u8 a, mR zl, mR sl], bP 48 3 B15 (nA (fun i => mQ (Pc (Pd zl i))) (mQ default) (mN a) (i + 1)), Xy B17 22 48 3 (nA (fun i => tab (mN a) fun j => mQ (Gf (Pd sl (mN a * i + j)))) [] (mN a) i) i B34, bP 48 3 B34 (nA (fun j => mQ (Gf (Pd sl (mN a * i + j)))) (mQ default) (mN a) j)]) 0 (Nat.zero_le _)
   (zS rfl) (aU (fun _ _ _ h=>h) (aU (aD rfl) (aU (bD (lN (f:=(fun i=>mQ (Pc (Pd zl i)))))) (aU (fun _ _ _ h=>h) (aU (bD (by rw [← kF]; exact zI _ _)) aY))))) (fun j hj=>?_)
  refine ts (ro rfl (gV (Ht rfl) (Ht rfl)) (eW (cU (dX (Ht rfl) (fun he=>?_) (fun he=>?_)))))
  ·simp only [decide_eq_true_eq] at he
   refine cY (cU (eY (ts (rm rfl (ra rfl (eW (fW (m:=14) (dp 6 rfl (cZ (Ht rfl)) (dp 7 rfl (cZ (Ht rfl)) (dE 44 0 45 1 rfl (gZ U_75 Z_22 (Ht rfl) (Ht rfl) rfl zo (by rw [Nat.mul_one,Nat.zero_add])) ?_))))))))))
   refine dq 46 2 rfl (pR A_22 Z_22 (Ht rfl) (j:=3) rfl) (dp 8 rfl (cZ (Ht rfl)) (dp 1 rfl (eG a3o (Ht rfl) rfl) (dq 49 5 rfl (fZ A_22 Z_22 (Ht rfl) (i:=1) rfl rfl) (dp 4 rfl (cZ (Ht rfl)) (dp 7 rfl (cZ (Ht rfl)) (dE 51 7 52 8 rfl (mI (Ht rfl) (Ht rfl) (by show _ < 9223372036854775808; omega)) (dp 8 rfl (cZ (Ht rfl)) (dE 53 9 54 10 rfl (dK (Ht rfl) (Ht rfl) (by show _ < 9223372036854775808; omega)) (dE 50 6 55 11 rfl (cJ Tryz.call166 a0i ⟨(Ht rfl),(Ht rfl),trivial⟩) (dq 56 12 rfl (cJ Tryz.call128 Td ⟨(Ht rfl),trivial⟩) ?_))))))))))
   refine fK aS rfl (by kernel_rfl) (zF (zF (zF (aJ (aJ (aV (ro rfl (dB U_22 Z_48 (Ht rfl) (Ht rfl) rfl (i:=4) rfl (by rw [eR]; omega) rfl) ?_)))))))
   refine mP Z_48 (Ht rfl) (Ht rfl) (El.ag rfl) (i:=4) rfl rfl (by rw [eR]; omega) rfl ?_
   refine eW (bM (dQ (ro rfl (dK (Ht rfl) (cV 1) z6) (rm rfl (eW (gX (j + 1) he zo (zS rfl) (aU (fun _ _ _ h=>h) (aU (aD rfl) (aU (fun _ _ _ h=>h) (aU (fun _ _ _ h=>h) (aU (bD (lN (f:=fun j=>mQ (Gf (Pd sl (mN a * i + j)))))) aY)))))))))))
  ·simp only [decide_eq_false_iff_not] at he
   have hjn:j = mN a:=Nat.le_antisymm hj zo
   rw [hjn,lM]
   refine gK rfl (bM (nB 3 4 rfl rfl (by decide) (by rw [eR]; omega) ?_))
   refine dQ (ro rfl (dK (Ht rfl) (cV 1) z6) (rm rfl (eW (cM [0,1,2,3] rfl (by decide) (gX (i + 1) hd zo (zS rfl) (aU (fun _ _ _ h=>h) (aU (aD rfl) (aU (fun _ _ _ h=>h) (aU (fT (lN (f:=(fun i=>tab (mN a) fun j=>mQ (Gf (Pd sl (mN a * i + j))))))) aY)))))))))
 ·simp only [decide_eq_false_iff_not] at hd
  have hin:i = mN a:=Nat.le_antisymm hi zo
  rw [hin,lM,lM]
  refine gK rfl (gG (i:=2) (tt:=5) rfl rfl fR (ts (rm rfl (rm rfl (ra rfl (ra rfl (eW ?_)))))))
  exact lJ B17 trivial [0,3] ⟨⟨_,rfl,fun _ _ _ h=>h⟩,⟨_,rfl,fun _ _ _ h=>h⟩,trivial⟩ (by decide) (a4F rfl (fV (fX rfl) (kH (by rw [qK,pF]))) (fX rfl))
theorem a8N {T U U':Ty} {v:Value} {V:bA} (h:(eH [T,U]).p v V) (hU:∀ u,U.p u V → U'.p u V):(eH [T,U']).p v V:=by
 obtain ⟨vs,h1,h2⟩:=h
 match vs,h2 with
 | [x,y],⟨a,b,c⟩=>exact ⟨[x,y],h1,a,hU y b,c⟩
theorem a2P {a : Nat} {zl sl : List Rt} (ha : a < 256) : bB Tryz.prog 92 [Aw a zl sl] (eH [mR (qK a zl), Zk (rZ a sl)]) := (a09 ha).fun fun B _ v S V h1 h2 => a8N h1 fun u hu => by
 exact kH (a1I a sl) u V (a8x (aE _ _).symm u S V hu h2)
theorem a2L {a:Nat} {zl sl:List Rt} (ha:a < 256):bB Tryz.prog 15 [Aw a zl sl] (eH [cO ((qK a zl).map Rt.q) (rq (rZ a sl)),wE ((qK a zl).map Rt.q) (rq (rZ a sl)),aH true]):=by
 have hn:mN a ≤ 4:=by unfold mN; omega
 have herr:=Rl a zl sl
 have hzl:(qK a zl).length = mN a:=aE _ _
 have hsl:(rZ a sl).length = mN a:=aE _ _
 have hall:∀ r,r ∈ rZ a sl → r.length ≤ 1000:=fun r hr=>by obtain ⟨i,_,rfl⟩:=dR.1 hr; rw [aE]; omega
 have hsh:=(sQ herr).2.2.1
 have z1:((qK a zl).map Rt.q).length ≤ 1000:=by rw [List.length_map,hzl]; omega
 have s1:(rq (rZ a sl)).length ≤ 1000:=by rw [List.length_map,hsl]; omega
 have hcv:∀ v V,(eH [cO (iD (dM ((qK a zl).map Rt.q) (rq (rZ a sl))) ((qK a zl).map Rt.q)) (iD (dM ((qK a zl).map Rt.q) (rq (rZ a sl))) (rq (rZ a sl))),aL .i64 (dM ((qK a zl).map Rt.q) (rq (rZ a sl)))]).p v V → (eH [cO ((qK a zl).map Rt.q) (rq (rZ a sl)),aL .i64 0]).p v V:=by rw [herr]; exact fun _ _ h=>h
 have hcv2:∀ v V,(eH [wE (iD (dM ((qK a zl).map Rt.q) (rq (rZ a sl))) ((qK a zl).map Rt.q)) (iD (dM ((qK a zl).map Rt.q) (rq (rZ a sl))) (rq (rZ a sl))),aL .i64 (dM ((qK a zl).map Rt.q) (rq (rZ a sl)))]).p v V → (eH [wE ((qK a zl).map Rt.q) (rq (rZ a sl)),aL .i64 0]).p v V:=by rw [herr]; exact fun _ _ h=>h
 refine bB.intro Tryz.func15 rfl Tryz.ntmps15 rfl (fun cx=>(ts (rn rfl (fY (Ht rfl)) fun B1=>(rn rfl (eU (Ts:=[Is (.slice none 0 0),Is (.slice none 0 0)]) O_28 rfl (fun V=>aW zd (aW zd (aG)))) fun B2=>(rn rfl (eU (Ts:=[Is (.slice none 0 0),Is (.slice none 0 0)]) O_32 rfl (fun V=>aW zd (aW zd (aG)))) fun B3=>(ro rfl (cX cW) (eW (ts (ro rfl (eK A_24 Z_24 (Ht rfl) (i:=0) rfl rfl rfl) (ro rfl (cJ Tryz.call92 (a2P ha) ⟨(Ht rfl),trivial⟩) ?_))))))))))
 refine rm rfl (ro rfl (eQ (Ht rfl) rfl) (ro rfl (eQ (Ht rfl) rfl) (ra rfl (ra rfl (eW (ts (rm rfl (ro rfl (cJ Tryz.call48 (zW zo) ⟨(Ht rfl),trivial⟩) (rm rfl (ro rfl (cJ Tryz.call94 (Gy zo hall) ⟨(Ht rfl),trivial⟩) (ro rfl (cJ Tryz.call93 (eJ (Ls (z:=((qK a zl).map Rt.q)) (s:=(rq (rZ a sl))) (L:=2) bI.rt (by decide) z1 s1) hcv) ⟨(Ht rfl),(Ht rfl),trivial⟩) (rm rfl (ro rfl (eQ (Ht rfl) rfl) (ro rfl (eQ (Ht rfl) rfl) (rn rfl (eU (Ts:=[Is (.slice none 0 0),Is (.slice none 0 0)]) O_28 rfl (fun V=>aW zd (aW zd (aG)))) fun B7=>?_)))))))))))))))
 refine gJ Z_28 (Ht rfl) (Ht rfl) rfl (i:=3) rfl (aK rfl) rfl rfl (ra rfl (eW (ts (rm rfl (ro rfl (cJ Tryz.call96 (Dw zo) ⟨(Ht rfl),trivial⟩) (rm rfl (ro rfl (cJ Tryz.call97 (Qd zo hall) ⟨(Ht rfl),trivial⟩) (ro rfl (cJ Tryz.call95 (eJ (Xa (z:=((qK a zl).map Rt.q)) (s:=(rq (rZ a sl))) (L:=2) bI.rt (by decide) z1 s1) hcv2) ⟨(Ht rfl),(Ht rfl),trivial⟩) (rm rfl (ro rfl (eQ (Ht rfl) rfl) (ro rfl (eQ (Ht rfl) rfl) (rn rfl (eU (Ts:=[Is (.slice none 0 0),Is (.slice none 0 0)]) O_32 rfl (fun V=>aW zd (aW zd (aG)))) fun B9=>?_))))))))))))
 refine gJ Z_32 (Ht rfl) (Ht rfl) rfl (i:=4) rfl (aK rfl) rfl rfl (ra rfl (eW (cU (Y.D_start (m:=11) [(9,1,box B2 28 [bC ((qK a zl).map Rt.q),dF (rq (rZ a sl))]),(10,2,box B3 32 [Le ((qK a zl).map Rt.q),QM (rq (rZ a sl))])] (Y.D_step (Ei:=[(7,_)]) rfl rfl (bQ (bJ rfl rfl) bX) rfl rfl (by kernel_rfl) (dZ rfl (eK A_28 Z_28 (Ht rfl) (i:=3) rfl rfl rfl)) (cQ (Ei:=[(9,_)]) rfl rfl (bQ (bJ rfl rfl) bX) rfl rfl (dZ rfl (eK A_32 Z_32 (Ht rfl) (i:=4) rfl rfl rfl)) ?_))))))
 refine Y.D_step (Ei:=[(8,_)]) rfl rfl (bQ (bJ rfl rfl) bX) rfl rfl (by kernel_rfl) (dZ rfl (cZ (Ht rfl))) (Y.D_step (Ei:=[(34,_)]) rfl rfl (bQ (bZ 2 rfl rfl) bX) rfl rfl (by kernel_rfl) (dZ rfl (lY (Ht rfl) cW)) (Y.D_step (Ei:=[(35,_)]) rfl rfl (bQ (bZ 3 rfl rfl) bX) rfl rfl (by kernel_rfl) (dZ rfl (cZ (Ht rfl))) (Y.D_step (Ei:=[(7,_),(36,_)]) rfl rfl (bQ (bJ rfl rfl) (bQ (bZ 4 rfl rfl) bX)) rfl rfl (by kernel_rfl) (fQ rfl rfl (Ht rfl) (fun h=>eK A_28 Z_28 (Ht rfl) (i:=3) rfl rfl rfl)) ?_)))
 refine Y.D_step (Ei:=[(9,_),(36,_)]) rfl rfl (bQ (bJ rfl rfl) (bQ (bZ 4 rfl rfl) bX)) rfl rfl (by kernel_rfl) (fQ rfl rfl (Ht rfl) (fun h=>eK A_32 Z_32 (Ht rfl) (i:=4) rfl rfl rfl)) (Y.D_step (Ei:=[(37,_),(38,_),(36,_)]) rfl rfl (bQ (bZ 5 rfl rfl) (bQ (bZ 6 rfl rfl) (bQ (bZ 4 rfl rfl) bX))) rfl rfl (by kernel_rfl) (fQ rfl rfl (Ht rfl) (fun h=>cJ Tryz.call25 (a7K (z:=((qK a zl).map Rt.q)) (s:=(rq (rZ a sl))) (L:=2) bI.rt bE.rt (by decide) (by decide) hsh z1) ⟨(fG rfl h),(fG rfl h),trivial⟩)) ?_)
 refine cQ (Ei:=[(36,_),(39,_)]) rfl rfl (bQ (bZ 4 rfl rfl) (bQ (bZ 7 rfl rfl) bX)) rfl rfl (dZ rfl (fC (Ht rfl) (fun h=>(fG rfl h)))) (Y.D_putI (Ei:=[(2,_),(32,_)]) 1 rfl rfl rfl (bQ (bJ rfl rfl) (bQ (bZ 0 rfl rfl) bX)) (.head _) rfl (mO Z_28 (Ht rfl) (Ht rfl) rfl (i:=0) rfl (aK rfl) rfl rfl) (Y.D_putI (Ei:=[(3,_),(33,_)]) 2 rfl rfl rfl (bQ (bJ rfl rfl) (bQ (bZ 1 rfl rfl) bX)) (.tail _ (.head _)) rfl (mO Z_32 (Ht rfl) (Ht rfl) rfl (i:=0) rfl (aK rfl) rfl rfl) ?_))
 refine Y.D_done aS rfl (by kernel_rfl) rfl (by simp [Y.okP]) rfl rfl (bU (bU (bU (bU (bU (bU (bU (bU (bU (Y.F_putI (Y.F_putI (Y.F_nil ?_))))))))))))
 refine ra rfl (eW (wP rfl (gQ A_28 Z_28 rfl (i:=1) rfl rfl) (gQ A_32 Z_32 rfl (i:=2) rfl rfl) (fV (fX rfl) ?_)))
 exact (fA (by simp))
end
section
open Go Go.RowKit
theorem Pz {Y M:List (List Qi)} {n G X K:Nat} (hY:cB Y n n) (hM:cB M n n) (hfY:bE Y K) (hK:1 ≤ K) (hKb:K ≤ 900000000000) (hz:∀ i,i < n → Zm M (ek n i) n G X) (hX:X ≤ 900000000000) (hn:n ≤ 8):bB Tryz.prog 132 [dF Y,dF M] (eH [dF (ovX Y M n),aL .i64 (ovE M n)]):=by
 refine bB.intro Tryz.func132 rfl Tryz.ntmps132 rfl (fun cx=>(ts (ro rfl (cX cW) (ro rfl (cX (cV 0)) (eW (ts (rm rfl (ro rfl (cJ Tryz.call224 (a07 hM hz zo) ⟨(Ht rfl),trivial⟩) (rm rfl (ro rfl (eQ (Ht rfl) rfl) (ro rfl (eQ (Ht rfl) rfl) (ra rfl (ra rfl (eW (cU (ts (rm rfl (ro rfl (iM (Ht rfl) cW) (eW (dX (Ht rfl) (fun he=>?_) (fun he=>?_)))))))))))))))))))))
 ·have he2 : ¬ pY M n = 0 := by simpa using he
  have ho:ovE M n = 5:=if_neg he2
  refine ts (ro rfl (cX cW) (ro rfl (cX (cV 5)) (eW (bN rfl (fV (fX rfl) ?_) (fV (fX rfl) ?_)))))
  ·exact (fun v V h=>by rw [ovX,ho]; exact iP v V h)
  ·exact (aR ho.symm)
 ·have he2 : pY M n = 0 := by simpa using he
  have ho:ovE M n = 0:=if_pos he2
  have hif:bE (rF M n) (max X 1):=(Xw hz he2).le (Nat.le_max_left X 1)
  have h1:1 ≤ n ∨ n = 0:=by omega
  refine Ay (E':=[(0,_),(1,_),(4,_),(5,_),(6,_),(7,_),(8,_),(9,_),(10,_),(11,_),(12,_),(13,_),(14,_)]) (aQ rfl (aQ rfl (aQ rfl (aQ rfl (aZ rfl (kH (Us:=(rF M n).map bC) (by rw [he2]; rfl)) (zS rfl)))))) ?_
  refine cY (ts (rm rfl (rm rfl (ro rfl (cJ Tryz.call141 (a2Q (n:=n) (k:=n) (m:=n) hY (Et M n) hfY hif hK zo hKb zo h1 h1 hn hn hn) ⟨(Ht rfl),(Ht rfl),trivial⟩) (ro rfl (eQ (Ht rfl) rfl) (ro rfl (eQ (Ht rfl) rfl) (ra rfl (ra rfl (eW (bN rfl (fV (fX rfl) ?_) (fV (fX rfl) ?_)))))))))))
  ·exact (kH (by rw [ovX,ho]; rfl))
  ·exact (aR ho.symm)
theorem a4y {P:Program} {f:FuncId} {A1 A2 B1 B2 C1 C2:Ty} {R1 R2:Ty} {x:Bool} (h1:bB P f [A1,A2,C1,C2] R1) (h2:bB P f [B1,B2,C1,C2] R2):bB P f ((cond x [A1,A2] [B1,B2]) ++ [C1,C2]) (cond x R1 R2):=by cases x; exact h2; exact h1
theorem a5Y {st fa z:List Qi} {s:List (List Qi)} {n i j K L:Nat} (hst:st.length = n) (hfa:fa.length = n) (hs:cB s n n) (h1:bI st K) (h2:bI fa K) (h3:bE s L) (hK:1 ≤ K) (hL:1 ≤ L) (hb:2 * K + L + 2 ≤ 900000000000) (hi:i < n) (hj:j < n):bB Tryz.prog 131 [NT .i64 i,NT .i64 j,PT (bC st),PT (bC fa),PT (cO z s)] (aI (mxE st fa s i j)):=by
 have hsl:=hs.1
 have hsr:=hs.row hi
 haveI f1:aF (gv fa i) K:=h2.get hK i
 haveI f2:aF (gm s i j) L:=h3.get hL i j
 refine bB.intro Tryz.func131 rfl Tryz.ntmps131 rfl (fun cx=>(ts (rn rfl (eU (Ts:=[Is (.bool false),Is (.slice none 0 0),Is (.bool false),Is (.slice none 0 0),Is (.slice none 0 0)]) O_60 rfl (fun V=>aW zd (aW zd (aW zd (aW zd (aW zd (aG))))))) fun B7=>(eW (ts (ro rfl (cJ K_118 (tH (n:=0) (by decide) (by decide)) ⟨(cV 0),trivial⟩) (rn rfl (eU (Ts:=[Is (.bool false),Is (.slice none 0 0),Is (.bool false),Is (.slice none 0 0),Is (.slice none 0 0)]) O_60 rfl (fun V=>aW zd (aW zd (aW zd (aW zd (aW zd (aG))))))) fun B8=>?_)))))))
 refine gJ Z_60 (Ht rfl) (Ht rfl) rfl (i:=1) rfl (aK rfl) rfl rfl (eW (cU (jU (fun (x:Qi)=>x = (if i = j then gv st i else Qi.ofInt 0)) (fun (x:Qi)=>[(0,NT .i64 i),(1,NT .i64 j),(3,PT (bC fa)),(4,PT (cO z s)),(7,cC B7 0),(8,cC B8 0)]) (fun (x:Qi)=>[box B7 60 [Is (.bool false),Is (.slice none 0 0),Is (.bool false),Is (.slice none 0 0),Is (.slice none 0 0)],box B8 60 [aH (decide (x.a < 0)),aN x.a.natAbs,aH (decide (x.b < 0)),aN x.b.natAbs,aN (du x)]]) ?_ (fun x hx=>?_))))
 ·refine ts (rm rfl (rm rfl (ro rfl (cL (Ht rfl) (Ht rfl)) (eW (dX (Ht rfl) (fun hb => ?_) (fun hb => ?_))))))
  ·have hij : i = j := by simpa using hb
   refine dQ (ro rfl (dW A_25 Z_25 (Ht rfl)) (rm rfl (ro rfl (dJ U_25 Z_60 (Ht rfl) (Ht rfl) rfl (eZ (eX (d:=Qi.zero) zo))) (ro rfl (dW A_60 Z_60 (Ht rfl)) (gJ Z_60 (Ht rfl) (Ht rfl) rfl (i:=1) rfl (aK rfl) rfl rfl (eW (aT (gv st i) (by rw [if_pos hij]) (zS rfl) (dI.refl _))))))))
  ·have hij : ¬ i = j := by simpa using hb
   refine cY (aT (Qi.ofInt 0) (by rw [if_neg hij]) (zS rfl) (dI.refl _))
 ·haveI f3 : aF x K := by
   rw [hx]; split
   ·exact h1.get hK i
   ·exact aF.zero hK
  refine cU (fW (m:=16) (dp 8 rfl (eK A_60 Z_60 (Ht rfl) (i:=1) rfl rfl rfl) (dq 17 0 rfl (bT cD (Ht rfl)) (dp 3 rfl (dW A_25 Z_25 (Ht rfl)) (dp 0 rfl (cZ (Ht rfl)) (dE 19 2 20 3 rfl (dJ U_25 Z_60 (Ht rfl) (Ht rfl) rfl (eZ (eX (d:=Qi.zero) zo))) (dq 21 4 rfl (dW A_60 Z_60 (Ht rfl)) (dq 22 5 rfl (bT cD (Ht rfl)) (dp 4 rfl (gR eD (Ht rfl) rfl) (dq 24 7 rfl (dW A_26 Z_26 (Ht rfl)) (dp 0 rfl (cZ (Ht rfl)) ?_)))))))))))
  refine dE 25 8 26 9 rfl (dJ U_26 Z_25 (Ht rfl) (Ht rfl) rfl (eZ (eX (d:=[]) zo))) (dq 27 10 rfl (dW A_25 Z_25 (Ht rfl)) (dp 1 rfl (cZ (Ht rfl)) (dE 28 11 29 12 rfl (dJ U_25 Z_60 (Ht rfl) (Ht rfl) rfl (eZ (eX (d:=Qi.zero) zo))) (dq 30 13 rfl (dW A_60 Z_60 (Ht rfl)) (dE 23 6 31 14 rfl (bF eM K_70 (lS (x:=gv fa i) (y:=gm s i j) (L:=K) (M:=L) zo) (Ht rfl) ⟨(Ht rfl),trivial⟩) (fK aS rfl (by kernel_rfl) (zF (zF (zF (zF (aV ?_)))))))))))
  refine ro rfl (bF lU K_71 (tW (x:=x) (y:=gv fa i * gm s i j) (L:=K) (M:=K + L + 1) zo) (Ht rfl) ⟨(Ht rfl),trivial⟩) (gJ Z_60 (Ht rfl) (Ht rfl) rfl (i:=0) rfl (aK rfl) rfl rfl (eW (fU rfl (fV (gQ A_60 Z_60 rfl (i:=0) rfl rfl) ?_))))
  exact (jA (by rw [hx]; rfl))
theorem a58 {st fa z w:List Qi} {s:List (List Qi)} {n K L:Nat} (hw:w.length = n) (hn:n ≤ 1000) (hst:st.length = n) (hfa:fa.length = n) (hs:cB s n n) (h1:bI st K) (h2:bI fa K) (h3:bE s L) (hK:1 ≤ K) (hL:1 ≤ L) (hb:2 * K + L + 2 ≤ 900000000000):bB Tryz.prog 130 [bC st,bC fa,PT (bC w),PT (cO z s)] (dF (mxM st fa s n)):=by
 refine bB.intro Tryz.func130 rfl Tryz.ntmps130 rfl (fun cx=>(ts (rn rfl (nV (Ht rfl)) fun B4=>(rn rfl (nV (Ht rfl)) fun B5=>(ro rfl (cX cW) (eW (cU (gG (i:=0) (tt:=4) rfl rfl jE (gG (i:=1) (tt:=5) rfl rfl jE (dQ (ro rfl (dW A_25 Z_25 (Ht rfl)) (ro rfl (dY U_25 (Ht rfl) (by rw [List.length_map,hw])) ?_))))))))))))
 refine ro rfl (lO (γ:=Fin n × Fin n) (Ts:=fun x=>[NT .i64 x.1.1,NT .i64 x.2.1]) (U:=fun x=>aI (mxE st fa s x.1.1 x.2.1)) Tryz.call131 (fun x=>a5Y hst hfa hs h1 h2 h3 hK hL hb x.1.2 x.2.2) ⟨(Ht rfl),(Ht rfl),(Ht rfl),trivial⟩) (ro rfl (cJ K_110 (uE (n:=n) (f:=fun i j=>mxE st fa s i j) hn) ⟨(Ht rfl),(Ht rfl),trivial⟩) (ra rfl (eW ?_)))
 exact fU rfl (fX rfl)
theorem Wu {z w:List Qi} {s:List (List Qi)} {L M K G X:Nat} (hs:cB s z.length z.length) (hz:bI z L) (hw:bI w M) (hf:bE s K) (hL:1 ≤ L) (hM:1 ≤ M) (hK:1 ≤ K) (hLb:L ≤ 1000000000) (hMb:M ≤ 1000000000) (hKb:K ≤ 100000000000) (hp:z.all eA = true) (h8:z.length ≤ 8) (hwl:w.length ≤ 1000) (hsz:w.length = z.length → ∀ i,i < w.length → Zm (An z w s) (ek w.length i) w.length G X) (hX:X ≤ 900000000000):bB Tryz.prog 35 [cO z s,bC w] (eH [cO (rnZ z w s) (rB z w s),aL .i64 (Lf z w s)]):=by
 refine bB.intro Tryz.func35 rfl Tryz.ntmps35 rfl (fun cx=>(ts (rn rfl (fY (Ht rfl)) fun B2=>(rn rfl (nV (Ht rfl)) fun B3=>(rn rfl (eU (Ts:=[Is (.slice none 0 0),Is (.slice none 0 0)]) O_28 rfl (fun V=>aW zd (aW zd (aG)))) fun B4=>(ro rfl (cX (cV 0)) (eW (cU (ts (ro rfl (fZ A_25 Z_25 (Ht rfl) (i:=1) rfl rfl) (ro rfl (dY U_25 (Ht rfl) aB) (ro rfl (eG eP (Ht rfl) rfl) (ro rfl (fZ A_25 Z_25 (Ht rfl) (i:=0) rfl rfl) ?_)))))))))))))
 refine ro rfl (dY U_25 (Ht rfl) aB) (ro rfl (jR (Ht rfl) (Ht rfl)) (eW (dX (Ht rfl) (fun hb=>?_) (fun hb=>?_))))
 ·have hn : w.length ≠ z.length := by simpa using hb
  have he:=a4A (s:=s) hn
  refine ts (ro rfl (aM.imp (kY ) lC) (gJ Z_28 (Ht rfl) (Ht rfl) rfl (i:=2) rfl (aK rfl) rfl rfl (ro rfl (cX (cV 4)) (eW (bN rfl (fV (gQ A_28 Z_28 rfl (i:=2) rfl rfl) ?_) (fV (fX rfl) ?_))))))
  ·exact (fun v V h=>by rw [rnZ,rB,iD,iD,he]; exact h)
  ·exact (aR he.symm)
 ·have hl : w.length = z.length := by simpa using hb
  have hsz:=hsz hl
  refine cY (cU (ts (ro rfl (fZ A_25 Z_25 (Ht rfl) (i:=1) rfl rfl) (ro rfl (cJ Tryz.call129 (Ba (L:=M) hw zo zo) ⟨(Ht rfl),trivial⟩) (ra rfl (eW (ts (rm rfl (ro rfl (iM (Ht rfl) cW) (eW (dX (Ht rfl) (fun hb2=>?_) (fun hb2=>?_))))))))))))
  ·have hq : w.all eA ≠ true := fun e => by rw [e] at hb2; simp at hb2
   have he:=a72 (s:=s) hl hq
   refine ts (ro rfl (aM.imp (kY ) lC) (rm rfl (gJ Z_28 (Ht rfl) (Ht rfl) rfl (i:=2) rfl (aK rfl) rfl rfl (ra rfl (eW (bN rfl (fV (gQ A_28 Z_28 rfl (i:=2) rfl rfl) ?_) (fV (fX rfl) ?_)))))))
   ·exact (fun v V h=>by rw [rnZ,rB,iD,iD,he]; exact h)
   ·exact (aR (by rw [if_neg hq,he]))
  ·have hq : w.all eA = true := by
    apply Decidable.byContradiction; intro e
    rw [if_neg e] at hb2; simp at hb2
   have hov:=a1W (s:=s) hl hq
   have hovX:=a73 (s:=s) hl hq
   haveI f0:=lA
   have hPf:=Kp hz hw hL hM hp hl
   have hMf:=Ko hz hw hL hM hp hl
   have hPl:(Zd z w).length = w.length:=aE _ _
   have hMl:(Zc z w).length = w.length:=aE _ _
   refine cY (ts (rn rfl (eU (Ts:=[Is (.bool false),Is (.slice none 0 0),Is (.bool false),Is (.slice none 0 0),Is (.slice none 0 0)]) O_60 rfl (fun V=>aW zd (aW zd (aW zd (aW zd (aW zd (aG))))))) fun B7=>(eW (ts (ro rfl (cJ K_52 (Dq (n:=1) (by decide) (by decide)) ⟨(cV 1),trivial⟩) (rn rfl (eU (Ts:=[Is (.bool false),Is (.slice none 0 0),Is (.bool false),Is (.slice none 0 0),Is (.slice none 0 0)]) O_60 rfl (fun V=>aW zd (aW zd (aW zd (aW zd (aW zd (aG))))))) fun B8=>?_))))))
   refine gJ Z_60 (Ht rfl) (Ht rfl) rfl (i:=4) rfl (aK rfl) rfl rfl (eW (cU (fW (m:=7) (dp 3 rfl (fZ A_25 Z_25 (Ht rfl) (i:=1) rfl rfl) (dq 31 0 rfl (dY U_25 (Ht rfl) aB) (C.D_new (Ei:=[(32,_)]) rfl rfl rfl (bV (bG 1 rfl rfl) bW) (iU (T:=aI Qi.zero) (i:=Tryz.t60) lE jH rfl rfl (Ht rfl) rfl jB (El.ag rfl) (by show 88 * _ ≤ _; omega) zo) (dp 3 rfl (fZ A_25 Z_25 (Ht rfl) (i:=1) rfl rfl) (dq 34 3 rfl (dY U_25 (Ht rfl) aB) ?_))))))))
   refine C.D_new (Ei:=[(35,_)]) rfl rfl rfl (bV (bG 4 rfl rfl) bW) (iU (T:=aI Qi.zero) (i:=Tryz.t60) lE jH rfl rfl (Ht rfl) rfl jB (El.ag rfl) (by show 88 * _ ≤ _; omega) zo) (C.D_cpy 2 rfl rfl rfl rfl rfl C.cpy_assign (fK aS rfl (by kernel_rfl) (aJ (aJ (C.F_new (fun B33=>aJ (aJ (C.F_new (fun B36=>C.F_cpy rfl (aV (ra rfl (eW (cU (ts (ro rfl (fZ A_25 Z_25 (Ht rfl) (i:=1) rfl rfl) (ro rfl (dY U_25 (Ht rfl) aB) (ro rfl (cZ (cV 0)) ?_)))))))))))))))))
   refine eW (eY ?_)
   refine cP (fun (i : Nat) => i ≤ w.length) (fun (i : Nat) => w.length - i) (fun (i : Nat) => [(2, cC B2 0), (3, cC B3 0), (4, cC B4 0), (7, cC B7 0), (8, cC B8 0), (9, Is B33), (10, Is B36), (38, NT .i64 w.length), (39, NT .i64 i)]) (fun (i : Nat) => [box B2 28 [bC z, dF s], box B3 25 [bC w], box B4 28 [Is (.slice none 0 0), Is (.slice none 0 0)], box B7 60 [Is (.bool false), Is (.slice none 0 0), Is (.bool false), Is (.slice none 0 0), Is (.slice none 0 0)], box B8 60 [aH (decide ((Qi.ofInt 1).a < 0)), aN (Qi.ofInt 1).a.natAbs, aH (decide ((Qi.ofInt 1).b < 0)), aN (Qi.ofInt 1).b.natAbs, aN (du (Qi.ofInt 1))], bP 60 5 B33 ((nA (fun i => Qi.ofInt 1 + mB z w i) Qi.zero w.length i).map aI), bP 60 5 B36 ((nA (fun i => Qi.ofInt 1 - mB z w i) Qi.zero w.length i).map aI)]) 0 (Nat.zero_le _)
    (zS rfl) (aU (aD rfl) (aU (aD rfl) (aU (aD rfl) (aU (aD rfl) (aU (aD rfl) (aU (bD (by rw [← kF]; exact rU aI _)) (aU (bD (by rw [← kF]; exact rU aI _)) aY))))))) (fun i hi=>?_)
   refine ts (ro rfl (gV (Ht rfl) (Ht rfl)) (eW (cU (dX (Ht rfl) (fun hc=>?_) (fun hc=>?_)))))
   ·have hin : i < w.length := by simp only [decide_eq_true_eq] at hc; omega
    have hzn:=nK hp (show i < z.length by omega)
    haveI g1:aF (gv w i) M:=hw.get hM i
    haveI g2:aF (gv z i) L:=hz.get hL i
    haveI g3:aF (mB z w i) (M + 3 * L + 2):=Kq hz hw hL hM hp zo
    have hl9:=eR (fun i=>Qi.ofInt 1 + mB z w i) Qi.zero w.length i
    have hl10:=eR (fun i=>Qi.ofInt 1 - mB z w i) Qi.zero w.length i
    refine cY (cU (eY (ts (rm rfl (ra rfl (eW (cU (Y.D_start (m:=15) [] (cQ (Ei:=[(3,_)]) rfl rfl (bQ (bJ rfl rfl) bX) rfl rfl (dZ rfl (fZ A_25 Z_25 (Ht rfl) (i:=1) rfl rfl)) (cQ (Ei:=[(11,_)]) rfl rfl (bQ (bJ rfl rfl) bX) rfl rfl (dZ rfl (cZ (Ht rfl))) (cQ (Ei:=[(43,_),(44,_)]) rfl rfl (bQ (bZ 0 rfl rfl) (bQ (bZ 1 rfl rfl) bX)) rfl rfl (dZ rfl (dJ U_25 Z_60 (Ht rfl) (Ht rfl) rfl (eZ (eX (d:=Qi.zero) zo)))) ?_)))))))))))
    refine cQ (Ei:=[(45,_)]) rfl rfl (bQ (bZ 2 rfl rfl) bX) rfl rfl (dZ rfl (dW A_60 Z_60 (Ht rfl))) (cQ (Ei:=[(2,_)]) rfl rfl (bQ (bJ rfl rfl) bX) rfl rfl (dZ rfl (eG eP (Ht rfl) rfl)) (cQ (Ei:=[(47,_)]) rfl rfl (bQ (bZ 4 rfl rfl) bX) rfl rfl (dZ rfl (fZ A_25 Z_25 (Ht rfl) (i:=0) rfl rfl)) (cQ (Ei:=[(11,_)]) rfl rfl (bQ (bJ rfl rfl) bX) rfl rfl (dZ rfl (cZ (Ht rfl))) (cQ (Ei:=[(48,_),(49,_)]) rfl rfl (bQ (bZ 5 rfl rfl) (bQ (bZ 6 rfl rfl) bX)) rfl rfl (dZ rfl (dJ U_25 Z_60 (Ht rfl) (Ht rfl) rfl (eZ (eX (d:=Qi.zero) zo)))) ?_))))
    refine cQ (Ei:=[(50,_)]) rfl rfl (bQ (bZ 7 rfl rfl) bX) rfl rfl (dZ rfl (dW A_60 Z_60 (Ht rfl))) (cQ (Ei:=[(46,_),(51,_)]) rfl rfl (bQ (bZ 3 rfl rfl) (bQ (bZ 8 rfl rfl) bX)) rfl rfl (dZ rfl (cJ K_64 (tX (x:=gv w i) (y:=gv z i) (L:=M) (M:=L) zo) ⟨(Ht rfl),(Ht rfl),trivial⟩)) (cQ (Ei:=[(52,_)]) rfl rfl (bQ (bZ 9 rfl rfl) bX) rfl rfl (dZ rfl (cZ (Ht rfl))) (cQ (Ei:=[(42,_)]) rfl rfl (bQ (bZ 10 rfl rfl) bX) rfl rfl (dZ rfl (eQ (Ht rfl) rfl)) ?_)))
    refine cQ (Ei:=[(42,_)]) rfl rfl (bQ (bZ 10 rfl rfl) bX) rfl rfl (dZ rfl (eQ (Ht rfl) rfl)) (Y.D_newp (Ei:=[]) (fun bb=>box bb 60 [aH (decide ((mB z w i).a < 0)),aN (mB z w i).a.natAbs,aH (decide ((mB z w i).b < 0)),aN (mB z w i).b.natAbs,aN (du (mB z w i))]) 14 rfl rfl rfl bX rfl rfl (by kernel_rfl) (eU (Ts:=[Is (.bool false),Is (.slice none 0 0),Is (.bool false),Is (.slice none 0 0),Is (.slice none 0 0)]) O_60 rfl (fun V=>aW zd (aW zd (aW zd (aW zd (aW zd (aG))))))) ?_)
    refine Y.D_putN (Ei:=[(53,_)]) 13 rfl rfl rfl rfl rfl rfl (bQ (bZ 11 rfl rfl) bX) (fun bb=>mO Z_60 (Ht rfl) (Ht rfl) rfl (i:=0) rfl (aK rfl) rfl rfl) (Y.D_done aS rfl (by kernel_rfl) rfl (by simp [Y.okP]) rfl rfl (bU (bU (bU (bU (bU (bU (bU (bU (bU (bU (bU (bU (bU (Y.F_newp (fun B12=>Y.F_putN (Y.F_nil ?_)))))))))))))))))
    refine ra rfl (eW (Y.D_start (m:=18) [(17,5,bP 60 5 B33 (((nA (fun i=>Qi.ofInt 1 + mB z w i) Qi.zero w.length i).map aI).set i (aI (Qi.ofInt 1 + mB z w i))))] (Y.D_step (Ei:=[(9,_)]) rfl rfl (bQ (bJ rfl rfl) bX) rfl rfl (by kernel_rfl) (dZ rfl (cZ (Ht rfl))) (Y.D_step (Ei:=[(11,_)]) rfl rfl (bQ (bJ rfl rfl) bX) rfl rfl (by kernel_rfl) (dZ rfl (cZ (Ht rfl))) (cQ (Ei:=[(10,_)]) rfl rfl (bQ (bJ rfl rfl) bX) rfl rfl (dZ rfl (cZ (Ht rfl))) (cQ (Ei:=[(11,_)]) rfl rfl (bQ (bJ rfl rfl) bX) rfl rfl (dZ rfl (cZ (Ht rfl))) ?_))))))
    refine Y.D_step (Ei:=[(7,_)]) rfl rfl (bQ (bJ rfl rfl) bX) rfl rfl (by kernel_rfl) (dZ rfl (eK A_60 Z_60 (Ht rfl) (i:=3) rfl rfl rfl)) (Y.D_step (Ei:=[(59,_)]) rfl rfl (bQ (bZ 4 rfl rfl) bX) rfl rfl (by kernel_rfl) (dZ rfl (bT cD (Ht rfl))) (Y.D_step (Ei:=[(8,_)]) rfl rfl (bQ (bJ rfl rfl) bX) rfl rfl (by kernel_rfl) (dZ rfl (eK A_60 Z_60 (Ht rfl) (i:=4) rfl rfl rfl)) (Y.D_step (Ei:=[(12,_)]) rfl rfl (bQ (bJ rfl rfl) bX) rfl rfl (by kernel_rfl) (dZ rfl (eK A_60 Z_60 (Ht rfl) (i:=7) rfl rfl rfl)) ?_)))
    refine Y.D_step (Ei:=[(61,_),(62,_)]) rfl rfl (bQ (bZ 6 rfl rfl) (bQ (bZ 7 rfl rfl) bX)) rfl rfl (by kernel_rfl) (dZ rfl (cJ K_71 (tW (x:=Qi.ofInt 1) (y:=mB z w i) (L:=1) (M:=M + 3 * L + 2) zo) ⟨(Ht rfl),(Ht rfl),trivial⟩)) (Y.D_step (Ei:=[(60,_),(63,_)]) rfl rfl (bQ (bZ 5 rfl rfl) (bQ (bZ 8 rfl rfl) bX)) rfl rfl (by kernel_rfl) (dZ rfl (bF qT Tryz.call304 Lo (Ht rfl) ⟨(Ht rfl),trivial⟩)) (Y.D_step (Ei:=[(7,_)]) rfl rfl (bQ (bJ rfl rfl) bX) rfl rfl (by kernel_rfl) (dZ rfl (eK A_60 Z_60 (Ht rfl) (i:=3) rfl rfl rfl)) ?_))
    refine Y.D_step (Ei:=[(65,_)]) rfl rfl (bQ (bZ 10 rfl rfl) bX) rfl rfl (by kernel_rfl) (dZ rfl (bT cD (Ht rfl))) (Y.D_step (Ei:=[(8,_)]) rfl rfl (bQ (bJ rfl rfl) bX) rfl rfl (by kernel_rfl) (dZ rfl (eK A_60 Z_60 (Ht rfl) (i:=4) rfl rfl rfl)) (Y.D_step (Ei:=[(12,_)]) rfl rfl (bQ (bJ rfl rfl) bX) rfl rfl (by kernel_rfl) (dZ rfl (eK A_60 Z_60 (Ht rfl) (i:=7) rfl rfl rfl)) (Y.D_step (Ei:=[(67,_),(68,_)]) rfl rfl (bQ (bZ 12 rfl rfl) (bQ (bZ 13 rfl rfl) bX)) rfl rfl (by kernel_rfl) (dZ rfl (cJ K_69 (wI (x:=Qi.ofInt 1) (y:=mB z w i) (L:=1) (M:=M + 3 * L + 2) zo) ⟨(Ht rfl),(Ht rfl),trivial⟩)) ?_)))
    refine Y.D_step (Ei:=[(66,_),(69,_)]) rfl rfl (bQ (bZ 11 rfl rfl) (bQ (bZ 14 rfl rfl) bX)) rfl rfl (by kernel_rfl) (dZ rfl (bF qT Tryz.call304 Lo (Ht rfl) ⟨(Ht rfl),trivial⟩)) (Y.D_step (Ei:=[(55,_),(56,_)]) rfl rfl (bQ (bZ 0 rfl rfl) (bQ (bZ 1 rfl rfl) bX)) rfl rfl (by kernel_rfl) (dZ rfl (dB U_25 Z_60 (Ht rfl) (Ht rfl) rfl (i:=5) rfl (by rw [List.length_map,hl9]; exact hin) rfl)) ?_)
    refine Y.D_putI (Ei:=[(71,_),(64,_)]) 5 rfl rfl rfl (bQ (bZ 16 rfl rfl) (bQ (bZ 9 rfl rfl) bX)) (.head _) rfl (Li Z_60 (Ht rfl) (Ht rfl) (El.ag rfl) (i:=0) rfl rfl (by rw [List.length_map,hl9]; exact hin)) ?_
    refine Y.D_done aS rfl (by kernel_rfl) rfl (by simp [Y.okP]) rfl rfl (bU (bU (bU (bU (bU (bU (bU (bU (bU (bU (bU (bU (bU (bU (bU (bU (bU (Y.F_putI (Y.F_nil ?_)))))))))))))))))))
    refine ro rfl (dB U_25 Z_60 (Ht rfl) (Ht rfl) rfl (i:=6) rfl (by rw [List.length_map,hl10]; exact hin) rfl) ?_
    refine mP Z_60 (Ht rfl) (Ht rfl) (El.ag rfl) (i:=6) rfl rfl (by rw [List.length_map,hl10]; exact hin) rfl ?_
    refine eW (bM (dQ (ro rfl (dK (Ht rfl) (cV 1) z6) (rm rfl (eW (cM [0,1,2,3,4,5,6] rfl (by decide) (gX (i + 1) hin zo (zS rfl) (aU (aD rfl) (aU (aD rfl) (aU (aD rfl) (aU (aD rfl) (aU (aD rfl) (aU (bD (by rw [iR]; exact congrArg _ (lN (f:=(fun i=>Qi.ofInt 1 + mB z w i))))) (aU (bD (by rw [iR]; exact congrArg _ (lN (f:=(fun i=>Qi.ofInt 1 - mB z w i))))) aY))))))))))))))
   ·have hin : i = w.length := by simp only [decide_eq_false_iff_not] at hc; omega
    rw [hin,lM,lM]
    refine gK rfl (gG (i:=5) (tt:=9) rfl rfl fR (gG (i:=6) (tt:=10) rfl rfl fR (gG (i:=0) (tt:=2) rfl rfl jF (gG (i:=1) (tt:=3) rfl rfl jE (ts (ro rfl (lO (γ:=Bool) (Ts:=fun x=>cond x [bC (Zc z w),bC (Zd z w)] [bC (Zd z w),bC (Zc z w)]) (U:=fun x=>cond x (dF (Yo z w s)) (dF (An z w s))) Tryz.call130 (fun x=>a4y (x:=x) (a58 (z:=z) (s:=s) rfl zo hMl hPl (by rw [hl]; exact hs) hMf hPf hf zo hK zo) (a58 (z:=z) (s:=s) rfl zo hPl hMl (by rw [hl]; exact hs) hPf hMf hf zo hK zo)) ⟨(Ht rfl),(Ht rfl),trivial⟩) ?_))))))
    refine ra rfl (eW (ts (rm rfl (rm rfl (rm rfl (ro rfl (nX true (Ht rfl) ⟨(Ht rfl),(Ht rfl),trivial⟩) (rm rfl (rm rfl (rm rfl (ro rfl (nX false (Ht rfl) ⟨(Ht rfl),(Ht rfl),trivial⟩) (ro rfl (cJ Tryz.call132 (Pz (Y:=Yo z w s) (M:=An z w s) (n:=w.length) (K:=2 * (M + 3 * L + 4) + K + 2) (vM _ _ _ _) (vM _ _ _ _) (Ka hMf hPf hf zo hK) zo zo hsz hX zo) ⟨(Ht rfl),(Ht rfl),trivial⟩) (rm rfl (ro rfl (eQ (Ht rfl) rfl) (ro rfl (eQ (Ht rfl) rfl) (ra rfl (ra rfl (eW (cU (ts ?_)))))))))))))))))))
    refine rm rfl (ro rfl (iM (Ht rfl) cW) (eW (dX (Ht rfl) (fun hd=>?_) (fun hd=>?_))))
    ·have hno : ovE (An z w s) w.length ≠ 0 := by simpa using hd
     refine ts (ro rfl (aM.imp (kY ) lC) (rm rfl (gJ Z_28 (Ht rfl) (Ht rfl) rfl (i:=2) rfl (aK rfl) rfl rfl (ra rfl (eW (bN rfl (fV (gQ A_28 Z_28 rfl (i:=2) rfl rfl) ?_) (fV (fX rfl) ?_)))))))
     ·exact (fun v V h=>by rw [rnZ,rB,iD,iD,hov,if_neg hno,if_neg hno]; exact h)
     ·exact (aR hov.symm)
    ·have hno : ovE (An z w s) w.length = 0 := by simpa using hd
     refine cY (ts (ro rfl (dW A_25 Z_25 (Ht rfl)) (ro rfl (cJ Tryz.call109 (Iv (l:=w) zo) ⟨(Ht rfl),trivial⟩) (rm rfl (ro rfl (oK (Ht rfl) (Ht rfl)) (gJ Z_28 (Ht rfl) (Ht rfl) rfl (i:=2) rfl (aK rfl) rfl rfl (ro rfl (cX (cV 0)) (eW (bN rfl (fV (gQ A_28 Z_28 rfl (i:=2) rfl rfl) ?_) (fV (fX rfl) ?_))))))))))
     ·exact (fun v V h=>by rw [rnZ,iD,hov,hno,if_pos rfl,hovX]; exact h)
     ·exact (aR (hov.trans hno).symm)
end
section
open Go Go.RowKit
theorem a8t:Tryz.prog.underlying 3 = some (.int .i64):=by kernel_rfl
end
section
open Go Go.RowKit
theorem a2N {m:Nat} (hm:m ≤ 1000):jM Tryz.prog 219 [Is (.slice none 0 0),NT .i64 m] [] (Value) (fun v=>Is v) (fun v=>[bP 60 5 v []]) (fun _=>True):=by
 refine jM.intro Tryz.func219 rfl Tryz.ntmps219 rfl (fun cx Z=>(ts (ro rfl (cX cW) (eW (cU (ts (rm rfl (ro rfl (gV (Ht rfl) (cV 0)) (eW (jQ (Ht rfl) (by simp) ?_))))))))))
 refine cY (cU (ts (rm rfl (rm rfl (ro rfl (Vh U_25 (Ht rfl)) (rm rfl (ro rfl (iV U_25 (Ht rfl)) (ro rfl (dU (Ht rfl) (Ht rfl) zo z6) (ro rfl (dU (Ht rfl) (Ht rfl) zo z6) (ra rfl (eW (ts (rm rfl (ro rfl (fM (Ht rfl) (cV 0)) (eW (dX (Ht rfl) (fun hb=>?_) (fun hb=>?_)))))))))))))))))
 ·have h0 : 0 < m := by simp only [decide_eq_true_eq] at hb; omega
  refine dQ (rm rfl (rm rfl (ro rfl (Vh U_25 (Ht rfl)) (ro rfl (Hx U_25 Z_60 (Ht rfl) (Ht rfl) (Nat.le_refl _)) (rm rfl (rn rfl (Yb (i:=Tryz.t60) lE a8t jH rfl rfl rfl (by decide) (Ht rfl) (Ht rfl) zo (by show _ * 88 ≤ _; omega) zo) fun q22=>(rm rfl (ro rfl (iV U_25 (Ht rfl)) (ro rfl (Hx U_25 Z_60 (Ht rfl) (Ht rfl) (Nat.zero_le _)) (ra rfl (eW (ts (rm rfl (ra rfl (eW ?_)))))))))))))))
  exact lJ _ trivial [0,1] ⟨⟨_,rfl,fun _ _ _ h=>h⟩,⟨_,rfl,fun _ _ _ h=>h⟩,trivial⟩ (by decide) (zJ rfl (fX rfl))
 ·obtain rfl : m = 0 := by simp only [decide_eq_false_iff_not] at hb; omega
  refine uA 60 5 (cY (ts (rm rfl (ra rfl (eW ?_)))))
  exact lJ _ trivial [0,1] ⟨⟨_,rfl,fun _ _ _ h=>h⟩,⟨_,rfl,fun _ _ _ h=>h⟩,trivial⟩ (by decide) (zJ rfl (fX rfl))
abbrev cat (ls:List (List Qi)) (i:Nat):List Qi:=(ls.take i).flatten
theorem Lw {ls:List (List Qi)} {i:Nat} (h:i < ls.length):cat ls (i + 1) = cat ls i ++ ls.getD i []:=by
 simp only [cat]
 rw [List.take_succ_eq_append_getElem h,List.flatten_append]
 simp [List.getD,h]
theorem Tf (ls:List (List Qi)):cat ls ls.length = ls.flatten:=by rw [cat,List.take_length]
theorem a0m {ls:List (List Qi)} {i:Nat} (h:i ≤ ls.length):(cat ls i).length ≤ ls.flatten.length:=by
 have e:ls.flatten = (ls.take i).flatten ++ (ls.drop i).flatten:=by rw [← List.flatten_append,List.take_append_drop]
 show (ls.take i).flatten.length ≤ _
 rw [e,List.length_append]; omega
theorem a02 {ls:List (List Qi)} (hl:ls.length ≤ 1000) (hf:ls.flatten.length ≤ 1000):bB Tryz.prog 119 [kU 1 (ls.map bC)] (bC ls.flatten):=by
 refine bB.intro Tryz.func119 rfl Tryz.ntmps119 rfl (fun cx=>(ts (ro rfl (cX cW) (eW (ts (ro rfl (cX (cV 0)) (eW (cU (ts (rm rfl (ro rfl (dY U_26 (Ht rfl) aB) (ro rfl (cZ (cV 0)) (eW (eY ?_))))))))))))))
 refine cP (fun (i : Nat) => i ≤ ls.length) (fun (i : Nat) => ls.length - i) (fun (i : Nat) => [(0, kU 1 (ls.map bC)), (3, NT .i64 (cat ls i).length), (9, kU 1 (ls.map bC)), (10, NT .i64 ls.length), (11, NT .i64 i)]) (fun (i : Nat) => []) 0 (Nat.zero_le _)
  (zS rfl) aY (fun i hi=>?_)
 refine ts (ro rfl (gV (Ht rfl) (Ht rfl)) (eW (cU (dX (Ht rfl) (fun hd=>?_) (fun hd=>?_)))))
 ·have hin : i < ls.length := by simp only [decide_eq_true_eq] at hd; omega
  have hcn:=Lw hin
  have hcl:=a0m (ls:=ls) (i:=i + 1) hin
  rw [hcn,List.length_append] at hcl
  refine cY (cU (eY (ts (ro rfl (dJ U_26 Z_25 (Ht rfl) (Ht rfl) rfl (eZ (eX (d:=[]) zo))) (ro rfl (dW A_25 Z_25 (Ht rfl)) (ra rfl (eW (ts (rm rfl (rm rfl (ro rfl (dY U_25 (Ht rfl) aB) (ro rfl (dK (Ht rfl) (Ht rfl) (by show _ < 9223372036854775808; omega)) (ra rfl (eW (ts (rm rfl (ro rfl (gV (Ht rfl) (cV 0)) (eW (jQ (Ht rfl) (by simp) ?_)))))))))))))))))))
  refine cY (bM (dQ (ro rfl (dK (Ht rfl) (cV 1) z6) (rm rfl (eW (gX (i + 1) hin zo (aQ rfl (aZ rfl (mK (by rw [hcn,List.length_append])) (zS rfl))) aY))))))
 ·have hin : i = ls.length := by simp only [decide_eq_false_iff_not] at hd; omega
  rw [hin,Tf]
  refine gK rfl (ts (rm rfl (oS Tryz.call219 (a2N (m:=ls.flatten.length) hf) ⟨cW,(Ht rfl),trivial⟩ rfl (fun v24 _=>(ra rfl (eW (cU (ts (rm rfl (ro rfl (dY U_26 (Ht rfl) aB) (ro rfl (cZ (cV 0)) (eW (eY ?_)))))))))))))
  refine fP (fun (j : Nat) (v : Value) => j ≤ ls.length) (fun (j : Nat) (v : Value) => ls.length - j) (fun (j : Nat) (v : Value) => [(0, kU 1 (ls.map bC)), (6, Is v), (25, kU 1 (ls.map bC)), (26, NT .i64 ls.length), (27, NT .i64 j)]) (fun (j : Nat) (v : Value) => [bP 60 5 v ((cat ls j).map aI)]) 0 _ (Nat.zero_le _)
   (zS rfl) (aU (bD rfl) aY) (fun j v hj=>?_)
  refine ts (ro rfl (gV (Ht rfl) (Ht rfl)) (eW (cU (dX (Ht rfl) (fun he=>?_) (fun he=>?_)))))
  ·have hjn : j < ls.length := by simp only [decide_eq_true_eq] at he; omega
   have hcn:=Lw hjn
   have hcl:=a0m (ls:=ls) (i:=j + 1) hjn
   rw [hcn,List.length_append] at hcl
   refine cY (cU (eY (ts (ro rfl (dJ U_26 Z_25 (Ht rfl) (Ht rfl) rfl (eZ (eX (d:=[]) zo))) (ro rfl (dW A_25 Z_25 (Ht rfl)) (ra rfl (eW (dQ (rm rfl (rm rfl (Gs (inf:=Tryz.t60) lE jH rfl rfl rfl (Ht rfl) (Ht rfl) (i:=0) rfl (fun T hT=>by obtain ⟨x,_,rfl⟩:=List.mem_map.1 hT; exact El.ag rfl) (by show _ * 88 ≤ _; simp only [List.length_map]; omega) (by simp only [List.length_map]; omega) rfl (fun v2=>?_))))))))))))
   refine ra rfl (eW (bM (dQ (ro rfl (dK (Ht rfl) (cV 1) z6) (rm rfl (eW (gX (j + 1,v2) hjn (by dsimp only; omega) (zS rfl) (aU (bD (by rw [hcn,List.map_append])) aY))))))))
  ·have hjn : j = ls.length := by simp only [decide_eq_false_iff_not] at he; omega
   rw [hjn,Tf]
   refine gK rfl (gG (i:=0) (tt:=6) rfl rfl fR (ts (rm rfl (ra rfl (eW ?_)))))
   exact fU rfl (fX rfl)
theorem a0d {z zb:List Qi} {a b:List (List Qi)} {x y i j:Nat} (ha:cB a x x) (hb:cB b y y) (hx:x ≤ 100) (hy:y ≤ 100) (hi:i < x + y) (hj:j < x + y):bB Tryz.prog 117 [NT .i64 i,NT .i64 j,PT (NT .i64 x),PT (cO z a),PT (cO zb b)] (aI (gm (nI a b x y) i j)):=by
 have hal:=ha.1
 have hbl:=hb.1
 rw [dP hi hj]
 refine bB.intro Tryz.func117 rfl Tryz.ntmps117 rfl (fun cx=>(ts (rn rfl (eU (Ts:=[Is (.bool false),Is (.slice none 0 0),Is (.bool false),Is (.slice none 0 0),Is (.slice none 0 0)]) O_60 rfl (fun V=>aW zd (aW zd (aW zd (aW zd (aW zd (aG))))))) fun B7=>(eW (cU (eY (ts (rm rfl (ro rfl (dW A_3 Z_3 (Ht rfl)) (ro rfl (gV (Ht rfl) (Ht rfl)) (rm rfl (fJ rfl rfl (fQ rfl rfl (Ht rfl) (fun h=>cZ (Ht rfl))) ?_))))))))))))
 refine fJ rfl rfl (fQ rfl rfl (Ht rfl) (fun h=>dW A_3 Z_3 (Ht rfl))) (fJ rfl rfl (fQ rfl rfl (Ht rfl) (fun h=>gV (fG rfl h) (fG rfl h))) (ro rfl (fC (Ht rfl) (fun h=>(fG rfl h))) (ra rfl (eW (dX (Ht rfl) (fun h1=>?_) (fun h1=>?_))))))
 ·have h2 : i < x ∧ j < x := by simpa using h1
  have har:=ha.row h2.1
  refine ts (ro rfl (gR eD (Ht rfl) rfl) (ro rfl (dW A_26 Z_26 (Ht rfl)) (rm rfl (ro rfl (dJ U_26 Z_25 (Ht rfl) (Ht rfl) rfl (eZ (eX (d:=[]) zo))) (ro rfl (dW A_25 Z_25 (Ht rfl)) (rm rfl (ro rfl (dJ U_25 Z_60 (Ht rfl) (Ht rfl) rfl (eZ (eX (d:=Qi.zero) zo))) (ro rfl (dW A_60 Z_60 (Ht rfl)) (gJ Z_60 (Ht rfl) (Ht rfl) rfl (i:=0) rfl (aK rfl) rfl rfl (eW (fU rfl (fV (gQ A_60 Z_60 rfl (i:=0) rfl rfl) ?_))))))))))))
  exact (jA (by rw [if_pos h2.1,if_pos h2.2]))
 ·have h2 : ¬ (i < x ∧ j < x) := by simpa using h1
  refine ts (rm rfl (ro rfl (dW A_3 Z_3 (Ht rfl)) (ro rfl (oW (Ht rfl) (Ht rfl)) (rm rfl (fJ rfl rfl (fQ rfl rfl (Ht rfl) (fun h=>cZ (Ht rfl))) (fJ rfl rfl (fQ rfl rfl (Ht rfl) (fun h=>dW A_3 Z_3 (Ht rfl))) (fJ rfl rfl (fQ rfl rfl (Ht rfl) (fun h=>oW (fG rfl h) (fG rfl h))) (ro rfl (fC (Ht rfl) (fun h=>(fG rfl h))) (ra rfl (eW (dX (Ht rfl) (fun h3=>?_) (fun h3=>?_))))))))))))
  ·have h4 : x ≤ i ∧ x ≤ j := by simpa using h3
   have hbr:=hb.row (i:=i - x) zo
   refine cU (fW (m:=10) (dp 4 rfl (gR eD (Ht rfl) rfl) (dq 34 0 rfl (dW A_26 Z_26 (Ht rfl)) (dp 0 rfl (cZ (Ht rfl)) (dp 2 rfl (dW A_3 Z_3 (Ht rfl)) (dE 36 2 37 3 rfl (dU (Ht rfl) (Ht rfl) zo z6) (dE 35 1 38 4 rfl (dJ U_26 Z_25 (Ht rfl) (Ht rfl) rfl (eZ (eX (d:=[]) zo))) (dq 39 5 rfl (dW A_25 Z_25 (Ht rfl)) (dp 1 rfl (cZ (Ht rfl)) (dp 2 rfl (dW A_3 Z_3 (Ht rfl)) ?_))))))))))
   refine dE 41 7 42 8 rfl (dU (Ht rfl) (Ht rfl) zo z6) (fK aS rfl (by kernel_rfl) (zF (zF (aJ (aJ (aV (ro rfl (dJ U_25 Z_60 (Ht rfl) (Ht rfl) rfl (eZ (eX (d:=Qi.zero) zo))) (ro rfl (dW A_60 Z_60 (Ht rfl)) (gJ Z_60 (Ht rfl) (Ht rfl) rfl (i:=0) rfl (aK rfl) rfl rfl (eW (fU rfl (fV (gQ A_60 Z_60 rfl (i:=0) rfl rfl) ?_))))))))))))
   exact (jA (by rw [if_neg zo,if_pos h4.2]))
  ·have h4 : ¬ (x ≤ i ∧ x ≤ j) := by simpa using h3
   have h5 : Qi.ofInt (0 : Nat) = (if i < x then if j < x then gm a i j else Qi.zero else if x ≤ j then gm b (i - x) (j - x) else Qi.zero) := by
    by_cases e:i < x
    ·rw [if_pos e,if_neg zo]; rfl
    ·rw [if_neg e,if_neg zo]; rfl
   refine cY (bM (ts (ro rfl (cJ K_118 (tH (n:=0) (by decide) (by decide)) ⟨(cV 0),trivial⟩) (gJ Z_60 (Ht rfl) (Ht rfl) rfl (i:=0) rfl (aK rfl) rfl rfl (eW (fU rfl (fV (gQ A_60 Z_60 rfl (i:=0) rfl rfl) ?_)))))))
   exact (jA h5)
theorem a2S {z zb:List Qi} {a b:List (List Qi)} (ha:cB a z.length z.length) (hb:cB b zb.length zb.length) (hx:z.length ≤ 100) (hy:zb.length ≤ 100):bB Tryz.prog 29 [cO z a,cO zb b] (eH [cO (a4P z zb) (a4O z zb a b),aL .i64 (a2c z.length zb.length)]):=by
 refine bB.intro Tryz.func29 rfl Tryz.ntmps29 rfl (fun cx=>(ts (rn rfl (fY (Ht rfl)) fun B2=>(rn rfl (fY (Ht rfl)) fun B3=>(rn rfl (eU (Ts:=[Is (.slice none 0 0),Is (.slice none 0 0)]) O_28 rfl (fun V=>aW zd (aW zd (aG)))) fun B4=>(ro rfl (cX (cV 0)) (eW (cU (Y.D_start (m:=12) [] (cQ (Ei:=[(2,_)]) rfl rfl (bQ (bJ rfl rfl) bX) rfl rfl (dZ rfl (eG eP (Ht rfl) rfl)) (cQ (Ei:=[(9,_)]) rfl rfl (bQ (bZ 0 rfl rfl) bX) rfl rfl (dZ rfl (fZ A_25 Z_25 (Ht rfl) (i:=0) rfl rfl)) ?_)))))))))))
 refine cQ (Ei:=[(10,_)]) rfl rfl (bQ (bZ 1 rfl rfl) bX) rfl rfl (dZ rfl (dY U_25 (Ht rfl) aB)) (cQ (Ei:=[(2,_)]) rfl rfl (bQ (bJ rfl rfl) bX) rfl rfl (dZ rfl (eG eP (Ht rfl) rfl)) (cQ (Ei:=[(12,_)]) rfl rfl (bQ (bZ 3 rfl rfl) bX) rfl rfl (dZ rfl (fZ A_25 Z_25 (Ht rfl) (i:=0) rfl rfl)) (cQ (Ei:=[(13,_)]) rfl rfl (bQ (bZ 4 rfl rfl) bX) rfl rfl (dZ rfl (dY U_25 (Ht rfl) aB)) ?_)))
 refine cQ (Ei:=[(3,_)]) rfl rfl (bQ (bJ rfl rfl) bX) rfl rfl (dZ rfl (eG eP (Ht rfl) rfl)) (cQ (Ei:=[(15,_)]) rfl rfl (bQ (bZ 6 rfl rfl) bX) rfl rfl (dZ rfl (fZ A_25 Z_25 (Ht rfl) (i:=1) rfl rfl)) (cQ (Ei:=[(16,_)]) rfl rfl (bQ (bZ 7 rfl rfl) bX) rfl rfl (dZ rfl (dY U_25 (Ht rfl) aB)) (cQ (Ei:=[(14,_),(17,_)]) rfl rfl (bQ (bZ 5 rfl rfl) (bQ (bZ 8 rfl rfl) bX)) rfl rfl (dZ rfl (dK (Ht rfl) (Ht rfl) z6)) ?_)))
 refine Y.D_newp (Ei:=[]) (fun bb=>box bb 3 [NT .i64 z.length]) 11 rfl rfl rfl bX rfl rfl (by kernel_rfl) (eU (Ts:=[Is (.int .i64 0)]) O_3 rfl (fun V=>aW zd (aG))) (Y.D_putN (Ei:=[(11,_)]) 10 rfl rfl rfl rfl rfl rfl (bQ (bZ 2 rfl rfl) bX) (fun bb=>Gq Z_3 (Ht rfl) (Ht rfl) (i:=0) rfl (aK rfl) rfl rfl) (Y.D_done aS rfl (by kernel_rfl) rfl (by simp [Y.okP]) rfl rfl (bU (bU (bU (bU (bU (bU (bU (bU (bU (bU (Y.F_newp (fun B6=>Y.F_putN (Y.F_nil ?_)))))))))))))))
 refine ra rfl (eW (cU (ts (rm rfl (ro rfl (fM (Ht rfl) (cV 8)) (eW (dX (Ht rfl) (fun hb1=>?_) (fun hb1=>?_))))))))
 ·have h2 : 8 < z.length + zb.length := by simpa using hb1
  have he:=a4Q h2
  refine ts (ro rfl (aM.imp (kY ) lC) (gJ Z_28 (Ht rfl) (Ht rfl) rfl (i:=2) rfl (aK rfl) rfl rfl (ro rfl (cX (cV 4)) (eW (bN rfl (fV (gQ A_28 Z_28 rfl (i:=2) rfl rfl) ?_) (fV (fX rfl) ?_))))))
  ·exact (fun v V h=>by rw [a4P,a4O,iD,iD,he]; exact h)
  ·exact (aR he.symm)
 ·have h2 : ¬ 8 < z.length + zb.length := by simpa using hb1
  have he:=a2d h2
  refine cY (cU (gG (i:=0) (tt:=2) rfl rfl jF (gG (i:=1) (tt:=3) rfl rfl jF (gG (i:=3) (tt:=6) rfl rfl jE (dQ (rm rfl (ro rfl (lO (γ:=Fin (z.length + zb.length) × Fin (z.length + zb.length)) (Ts:=fun x=>[NT .i64 x.1.1,NT .i64 x.2.1]) (U:=fun x=>aI (gm (nI a b z.length zb.length) x.1.1 x.2.1)) Tryz.call117 (fun x=>a0d ha hb hx hy x.1.2 x.2.2) ⟨(Ht rfl),(Ht rfl),(Ht rfl),trivial⟩) (ro rfl (cJ K_110 (eJ (uE (n:=z.length + zb.length) (f:=fun i j=>gm (nI a b z.length zb.length) i j) zo) (kH (congrArg _ (vK (mV a b z.length zb.length)).symm))) ⟨(Ht rfl),(Ht rfl),trivial⟩) ?_))))))))
  refine ra rfl (eW (ts (ro rfl (gR eP (Ht rfl) rfl) (ro rfl (dW A_25 Z_25 (Ht rfl)) (ro rfl (gR eP (Ht rfl) rfl) (ro rfl (dW A_25 Z_25 (Ht rfl)) (ro rfl (eB (xs:=[.tmp 26,.tmp 28]) U_26 Z_25 O_25 (cG (Ht rfl) (cG (Ht rfl) cK)) rfl rfl rfl) (ro rfl (cJ Tryz.call119 (eJ (a02 (ls:=[z,zb]) (by simp) (by simp; omega)) (kH (Us:=(z ++ zb).map aI) (by simp))) ⟨(Ht rfl),trivial⟩) ?_))))))))
  refine rm rfl (ro rfl (oK (Ht rfl) (Ht rfl)) (gJ Z_28 (Ht rfl) (Ht rfl) rfl (i:=2) rfl (aK rfl) rfl rfl (ro rfl (cX (cV 0)) (eW (bN rfl (fV (gQ A_28 Z_28 rfl (i:=2) rfl rfl) ?_) (fV (fX rfl) ?_))))))
  ·exact (fun v V h=>by rw [a4P,a4O,iD,iD,he]; exact h)
  ·exact (aR he.symm)
theorem a2X {z:List Qi} {s:List (List Qi)} {q:Int} {o:List Int} (hl:z.length ≤ 1000) (ho:o.length ≤ 1000):bB Tryz.prog 181 [cO z s,aL .i64 q,kU 1 (o.map (aL .i64))] (aL .i64 (fH z.length q o)):=by
 refine bB.intro Tryz.func181 rfl Tryz.ntmps181 rfl (fun cx=>(ts (rn rfl (fY (Ht rfl)) fun B3=>(ro rfl (cX (cV 0)) (eW (cU (eY (ts (ro rfl (eK A_28 Z_28 (Ht rfl) (i:=0) rfl rfl rfl) (rm rfl (ro rfl (cJ K_138 Gx ⟨(Ht rfl),(Ht rfl),trivial⟩) (ro rfl (eS (Ht rfl)) (ra rfl (eW (dX (Ht rfl) (fun hb1=>?_) (fun hb1=>?_))))))))))))))))
 ·have h2 : ¬ (1 ≤ q ∧ q ≤ (z.length : Int)) := by simpa only [Bool.not_eq_true', decide_eq_false_iff_not] using hb1
  refine ts (ro rfl (cX (cV 1)) (eW (fU rfl (fV (fX rfl) ?_))))
  exact (aR (if_pos h2).symm)
 ·have h2 : 1 ≤ q ∧ q ≤ (z.length : Int) := by simpa using hb1
  refine ts (rm rfl (rm rfl (ro rfl (cJ Tryz.call145 (wH (l:=o) (v:=q) zo) ⟨(Ht rfl),(Ht rfl),trivial⟩) (ra rfl (eW (dX (Ht rfl) (fun hb2=>?_) (fun hb2=>?_)))))))
  ·refine ts (ro rfl (cX (cV 8)) (eW (fU rfl (fV (fX rfl) ?_))))
   exact (aR (by rw [fH,if_neg (fun k=>k h2),if_pos hb2]; rfl))
  ·refine cY (bM (ts (ro rfl (cX (cV 0)) (eW (fU rfl (fV (fX rfl) ?_))))))
   exact (aR (by rw [fH,if_neg (fun k=>k h2),if_neg (by rw [hb2]; decide)]; rfl))
end
section
open Go Go.RowKit
theorem a0h {z:List Qi} {S:List (List Qi)} {js:List (Int × Int)} {L:Nat} (hfz:bI z L) (hL:1 ≤ L) (hLb:L ≤ 1000000) (hz:z.length ≤ 1000) (hj:js.length ≤ 100):bB Tryz.prog 120 [cO z S,JsT js] (eH [kU 1 ((jeL z js).map (aL .i64)),aL .i64 (Gd z js)]):=by
 refine bB.intro Tryz.func120 rfl Tryz.ntmps120 rfl (fun cx=>(ts (rn rfl (fY (Ht rfl)) fun B2=>(ro rfl (cX cW) (ro rfl (cX (cV 0)) (eW (ts (ro rfl (cX cW) (eW (cU (cU (uA 3 1 (dQ (rm rfl (ro rfl (dY U_65 (Ht rfl) aB) (ro rfl (cZ (cV 0)) (eW (eY ?_))))))))))))))))))
 refine fP (fun (k : Nat) (vG : Value) => k ≤ js.length ∧ ∀ j, j < k → yG z js j = 0) (fun (k : Nat) (vG : Value) => js.length - k) (fun (k : Nat) (vG : Value) => [(1, JsT js), (2, cC B2 0), (6, Is vG), (12, JsT js), (13, NT .i64 js.length), (14, NT .i64 k)]) (fun (k : Nat) (vG : Value) => [box B2 28 [bC z, dF S], bP 3 1 vG ((oV (js.take k)).map (aL .i64))]) 0 _ ⟨Nat.zero_le _, fun j h => by omega⟩
  (zS rfl) (aU (aD rfl) (aU (bD rfl) aY)) (fun k vG ⟨hk,h0⟩=>?_)
 refine ts (ro rfl (gV (Ht rfl) (Ht rfl)) (eW (cU (dX (Ht rfl) (fun hd=>?_) (fun hd=>?_)))))
 ·have hkn : k < js.length := by simp only [decide_eq_true_eq] at hd; omega
  have hjk:=pZ (js.take k)
  refine cY (cU (eY (ts (ro rfl (dJ U_65 Z_64 (Ht rfl) (Ht rfl) rfl (eZ (eX (d:=(0,0)) hkn))) (ro rfl (dW Tryz.isAgg64 Z_64 (Ht rfl)) (rn rfl (eU (Ts:=[Is (.int .i64 0),Is (.int .i64 0)]) Tryz.zeroValue64 rfl (fun V=>aW zd (aW zd (aG)))) fun B8=>(gJ Z_64 (Ht rfl) (Ht rfl) rfl (i:=2) rfl (aK rfl) rfl rfl (eW (cU (cU (gG (i:=2) (tt:=8) rfl rfl jF (dQ (ro rfl (dW Tryz.isAgg64 Z_64 (Ht rfl)) ?_)))))))))))))
  refine ro rfl (cZ (cV 0)) (eW (eY (cM [0,1] rfl (by decide) ?_)))
  refine fP (fun (i : Nat) (vI : Value) => i ≤ 2 ∧ ∀ x, x < i → Jy z js k x = 0) (fun (i : Nat) (vI : Value) => 2 - i) (fun (i : Nat) (vI : Value) => [(1, JsT js), (2, cC B2 0), (6, Is vI), (8, PT (JT (nJ js k))), (12, JsT js), (13, NT .i64 js.length), (14, NT .i64 k), (18, JT (nJ js k)), (19, NT .i64 i)]) (fun (i : Nat) (vI : Value) => [box B2 28 [bC z, dF S], bP 3 1 vI ((oV (js.take k) ++ (Np (nJ js k)).take i).map (aL .i64))]) 0 _ ⟨Nat.zero_le _, fun x h => by omega⟩
   (zS rfl) (aU (aD rfl) (aU (bD (by rw [List.take_zero,List.append_nil])) aY)) (fun i vI ⟨hi,h1⟩=>?_)
  refine ts (ro rfl (gV (Ht rfl) (cV 2)) (eW (cU (dX (Ht rfl) (fun he=>?_) (fun he=>?_)))))
  ·have hi2 : i < 2 := by simp only [decide_eq_true_eq] at he; omega
   have hol:(oV (js.take k) ++ (Np (nJ js k)).take i).length ≤ 300:=by rw [List.length_append,hjk,List.length_take,List.length_take]; omega
   refine cY (cU (eY (ts (ro rfl (Ye U_64 Z_3 A_3 (Ht rfl) (Ht rfl) zo (a4l hi2)) (ra rfl (eW (cU (ts (ro rfl (eK A_28 Z_28 (Ht rfl) (i:=0) rfl rfl rfl) (rm rfl (rm rfl (ro rfl (a1z Tryz.call181 (a2X (z:=z) (s:=S) (q:=(Np (nJ js k)).getD i 0) (o:=oV (js.take k) ++ (Np (nJ js k)).take i) hz zo) (j:=1) (tt:=24) rfl rfl fR (fun _ _ _ h=>h) ⟨(Ht rfl),(Ht rfl),(Ht rfl),trivial⟩) (ra rfl (eW (ts (rm rfl (ro rfl (iM (Ht rfl) cW) (eW (dX (Ht rfl) (fun hf=>?_) (fun hf=>?_))))))))))))))))))))
   ·have h3 : Jy z js k i ≠ 0 := by simp only [Bool.not_eq_true', decide_eq_false_iff_not] at hf; exact hf
    have h4:=a86 hi2 h1 h3
    have h5:Be z js = Jy z js k i:=(vH h0 (by rw [h4]; exact h3) hkn).trans h4
    have h6:Gd z js = Jy z js k i:=(a15 (by rw [h5]; exact h3)).trans h5
    refine ts (rm rfl (ro rfl (cX cW) (ra rfl (eW (bN rfl (fV (fX rfl) ?_) (fV (fX rfl) ?_))))))
    ·exact (fun v V h=>by rw [jeL,iD,h6,if_neg h3]; exact iP v V h)
    ·exact (aR h6.symm)
   ·have h3 : Jy z js k i = 0 := by simp only [Bool.not_eq_false', decide_eq_true_eq] at hf; exact hf
    refine cY (dQ (rm rfl (rm rfl (ro rfl (eB (xs:=[.tmp 30]) U_103 Z_3 O_3 (cG (Ht rfl) cK) rfl rfl rfl) (sD (inf:=Tryz.t3) Wk a0Y rfl rfl rfl (Ht rfl) (Ht rfl) (i:=1) rfl (by simp) (fun T hT=>by simp at hT; subst hT; exact El.one) (by show _ * 8 ≤ _; simp only [List.length_map,List.length_cons,List.length_nil]; omega) (by simp only [List.length_map,List.length_cons,List.length_nil]; omega) rfl (fun v2=>?_))))))
    refine ra rfl (eW (bM (dQ (ro rfl (dK (Ht rfl) (cV 1) z6) (rm rfl (eW ?_))))))
    refine gX (i + 1, v2) ⟨hi2, fun x hx => by
      by_cases e:x = i
      ·rw [e]; exact h3
      ·exact h1 x zo⟩ (by dsimp only; omega) (zS rfl) (aU (aD rfl) (aU (bD (by rw [a1H hi2,← List.append_assoc,List.map_append (l₁:=oV (js.take k) ++ (Np (nJ js k)).take i)]; rfl)) aY))
  ·obtain rfl : i = 2 := by simp only [decide_eq_false_iff_not] at he; omega
   obtain ⟨⟨p1,p2⟩,⟨p3,p4⟩,h3⟩:=a87 h1
   have hrow:oV (js.take (k + 1)) = oV (js.take k) ++ (Np (nJ js k)).take 2:=Ms hkn
   haveI g1:=hfz.get hL ((nJ js k).1 - 1).toNat
   haveI g2:=hfz.get hL ((nJ js k).2 - 1).toNat
   refine gK rfl (cU (fW (m:=14) (dp 2 rfl (eG eP (Ht rfl) rfl) (dq 34 0 rfl (fZ A_25 Z_25 (Ht rfl) (i:=0) rfl rfl) (dp 8 rfl (Vj U_64 Z_3 (Ht rfl) cW rfl (by decide) rfl) (dq 36 2 rfl (dW A_3 Z_3 (Ht rfl)) (dq 37 3 rfl (iN (Ht rfl) cW (r:=((((nJ js k).1 - 1).toNat:Nat):Int)) ((xK (z:=(nJ js k).1 - 1) zo).trans zo)) ?_)))))))
   refine dE 35 1 38 4 rfl (dJ U_25 Z_60 (Ht rfl) (Ht rfl) rfl (eZ (eX (d:=Qi.zero) zo))) (dq 39 5 rfl (dW A_60 Z_60 (Ht rfl)) (dp 2 rfl (eG eP (Ht rfl) rfl) (dq 41 7 rfl (fZ A_25 Z_25 (Ht rfl) (i:=0) rfl rfl) (dp 8 rfl (Vj U_64 Z_3 (Ht rfl) cW rfl (by decide) rfl) (dq 43 9 rfl (dW A_3 Z_3 (Ht rfl)) (dq 44 10 rfl (iN (Ht rfl) cW (r:=((((nJ js k).2 - 1).toNat:Nat):Int)) ((xK (z:=(nJ js k).2 - 1) zo).trans zo)) ?_))))))
   refine dE 42 8 45 11 rfl (dJ U_25 Z_60 (Ht rfl) (Ht rfl) rfl (eZ (eX (d:=Qi.zero) zo))) (dq 46 12 rfl (dW A_60 Z_60 (Ht rfl)) (fK aS rfl (by kernel_rfl) (zF (zF (zF (aJ (aJ (aV (ro rfl (cJ Tryz.call100 (Pu (x:=gv z ((nJ js k).1 - 1).toNat) (y:=gv z ((nJ js k).2 - 1).toNat) (L:=L) (M:=L) zo zo) ⟨(Ht rfl),(Ht rfl),trivial⟩) (ro rfl (eS (Ht rfl)) ?_))))))))))
   refine eW (dX (Ht rfl) (fun hg=>?_) (fun hg=>?_))
   ·have h4 : yG z js k = 40 := by rw [h3, if_neg (by simpa using hg)]
    have h5:Be z js = 40:=(vH h0 (by rw [h4]; decide) hkn).trans h4
    have h6:Gd z js = 40:=(a15 (by rw [h5]; decide)).trans h5
    refine ts (ro rfl (cX cW) (ro rfl (cX (cV 40)) (eW (bN rfl (fV (fX rfl) ?_) (fV (fX rfl) ?_)))))
    ·exact (fun v V h=>by rw [jeL,iD,h6]; exact iP v V h)
    ·exact (aR h6.symm)
   ·have h4 : yG z js k = 0 := by rw [h3, if_pos (by simpa using hg)]
    refine cY (bM (dQ (ro rfl (dK (Ht rfl) (cV 1) z6) (rm rfl (eW ?_)))))
    refine gX (k + 1, vI) ⟨hkn, fun j h => by
      by_cases e:j = k
      ·rw [e]; exact h4
      ·exact h0 j zo⟩ (by dsimp only; omega) (zS rfl) (aU (aD rfl) (aU (bD (by rw [hrow])) aY))
 ·obtain rfl : k = js.length := by simp only [decide_eq_false_iff_not] at hd; omega
  have h2:Be z js = 0:=iB h0
  have hll:=pZ js
  rw [List.take_length]
  refine gK rfl (cU (ts (rm rfl (ro rfl (oX U_103 (Ht rfl) (i:=1) rfl aB) (ro rfl (fM (Ht rfl) (cV 0)) (rm rfl (fJ rfl rfl (fQ rfl rfl (Ht rfl) (fun h=>cZ (Ht rfl))) (fJ rfl rfl (fQ rfl rfl (Ht rfl) (fun h=>oX U_103 (fG rfl h) (i:=1) rfl aB)) (fJ rfl rfl (fQ rfl rfl (Ht rfl) (fun h=>eG eP (Ht rfl) rfl)) (fJ rfl rfl (fQ rfl rfl (Ht rfl) (fun h=>fZ A_25 Z_25 (fG rfl h) (i:=0) rfl rfl)) (fJ rfl rfl (fQ rfl rfl (Ht rfl) (fun h=>dY U_25 (fG rfl h) aB)) ?_)))))))))))
  refine fJ rfl rfl (fQ rfl rfl (Ht rfl) (fun h=>cL (fG rfl h) (fG rfl h))) (ro rfl (fC (Ht rfl) (fun h=>(fG rfl h))) (eW (dX (Ht rfl) (fun hc=>?_) (fun hc=>?_))))
  ·have h3 : 0 < 2 * js.length ∧ 2 * js.length = z.length := by simpa [hll] using hc
   have h6:Gd z js = 4:=a3B h2 h3
   refine ts (ro rfl (cX cW) (ro rfl (cX (cV 4)) (eW (bN rfl (fV (fX rfl) ?_) (fV (fX rfl) ?_)))))
   ·exact (fun v V h=>by rw [jeL,iD,h6]; exact iP v V h)
   ·exact (aR h6.symm)
  ·have h3 : ¬ (0 < 2 * js.length ∧ 2 * js.length = z.length) := by simpa [hll] using hc
   have h6:Gd z js = 0:=a5p h2 h3
   refine gG (i:=1) (tt:=6) rfl rfl fR (cY (ts (rm rfl (ra rfl (ro rfl (cX (cV 0)) (eW (bN rfl (fV (fX rfl) ?_) (fV (fX rfl) ?_))))))))
   ·exact (kH (by rw [jeL,iD,h6]; rfl))
   ·exact (aR h6.symm)
end
section
open Go Go.RowKit
theorem a8O {x : Nat} (h : x < 20) : IntKind.wrap .i64 ((BitVec.ofInt (IntKind.bits .i64) (x : Int) ^^^ BitVec.ofInt (IntKind.bits .i64) ((1 : Nat) : Int)).toNat : Nat) = ((kV x : Nat) : Int) :=
 (by decide +kernel:∀ x:Nat,x < 20 → IntKind.wrap .i64 ((BitVec.ofInt (IntKind.bits .i64) (x:Int) ^^^ BitVec.ofInt (IntKind.bits .i64) ((1:Nat):Int)).toNat:Nat) = ((kV x:Nat):Int)) x h
theorem a2Y {z:List Qi} {S:List (List Qi)} {js:List (Int × Int)} {x:Nat} (hS:cB S z.length z.length) (hd:Be z js = 0) (hx:x < 2 * js.length) (hm:2 * js.length ≤ 18) (hz:z.length ≤ 1000):bB Tryz.prog 121 [NT .i64 x,PT (cO z S),PT (jC ((lQ js).map Nat.succ))] (bC (S.getD (gq (dA js) (kV x)) [])):=by
 have hpx:kV x < 2 * js.length:=pT hx
 have hgq:=(Eu hd).lt (kV x) hpx
 have hSl:=hS.1
 have hJl:=Jw js
 have hat:cR (lQ js) (kV x) = gq (dA js) (kV x):=Qp hpx
 refine bB.intro Tryz.func121 rfl Tryz.ntmps121 rfl (fun cx=>(ts (ro rfl (cX cW) (eW (cU (fW (m:=8) (dp 1 rfl (gR eD (Ht rfl) rfl) (dq 5 0 rfl (dW A_26 Z_26 (Ht rfl)) (dp 2 rfl (dW A_103 Z_103 (Ht rfl)) (dp 0 rfl (cZ (Ht rfl)) (dq 8 3 rfl (Vk (Ht rfl) (cV 1) (a8O zo)) (dE 7 2 9 4 rfl (dJ U_103 Z_3 (Ht rfl) (Ht rfl) rfl (eZ (qE zo))) (dq 10 5 rfl (dW A_3 Z_3 (Ht rfl)) (dq 11 6 rfl (aM.nat (dU (Ht rfl) (cV 1) zo z6) (show cR (lQ js) (kV x) + 1 - 1 = gq (dA js) (kV x) by omega)) ?_))))))))))))))
 refine fK aS rfl (by kernel_rfl) (zF (zF (aV (ro rfl (dJ U_26 Z_25 (Ht rfl) (Ht rfl) rfl (eZ (eX (d:=[]) zo))) (ro rfl (dW A_25 Z_25 (Ht rfl)) (ra rfl (eW ?_)))))))
 exact fU rfl (fX rfl)
theorem a62 {x y:Nat}:bB Tryz.prog 123 [NT .i64 x,NT .i64 y] (aI (if x = y then Qi.ofInt 1 else Qi.ofInt 0)):=by
 refine bB.intro Tryz.func123 rfl Tryz.ntmps123 rfl (fun cx=>(ts (rn rfl (eU (Ts:=[Is (.bool false),Is (.slice none 0 0),Is (.bool false),Is (.slice none 0 0),Is (.slice none 0 0)]) O_60 rfl (fun V=>aW zd (aW zd (aW zd (aW zd (aW zd (aG))))))) fun B4=>(eW (cU (ts (rm rfl (rm rfl (ro rfl (cL (Ht rfl) (Ht rfl)) (eW (dX (Ht rfl) (fun hb=>?_) (fun hb=>?_))))))))))))
 ·have h2 : x = y := by simpa using hb
  refine ts (ro rfl (cJ K_118 (tH (n:=1) (by decide) (by decide)) ⟨(cV 1),trivial⟩) (gJ Z_60 (Ht rfl) (Ht rfl) rfl (i:=0) rfl (aK rfl) rfl rfl (eW (fU rfl (fV (gQ A_60 Z_60 rfl (i:=0) rfl rfl) ?_)))))
  exact (jA (if_pos h2).symm)
 ·have h2 : ¬ x = y := by simpa using hb
  refine cY (ts (ro rfl (cJ K_118 (tH (n:=0) (by decide) (by decide)) ⟨(cV 0),trivial⟩) (gJ Z_60 (Ht rfl) (Ht rfl) rfl (i:=0) rfl (aK rfl) rfl rfl (eW (fU rfl (fV (gQ A_60 Z_60 rfl (i:=0) rfl rfl) ?_))))))
  exact (jA (if_neg h2).symm)
theorem a2Z {z:List Qi} {S:List (List Qi)} {js:List (Int × Int)} {x y L:Nat} (hS:cB S z.length z.length) (hf:bE S L) (hL:1 ≤ L) (hLb:L ≤ 1000000) (hd:Be z js = 0) (hx:x < 2 * js.length) (hy:y < 2 * js.length) (hm:2 * js.length ≤ 18) (hz:z.length ≤ 1000):bB Tryz.prog 122 [NT .i64 x,NT .i64 y,PT (Gg Tryz.prog (Fin (2 * js.length)) (fun x=>[NT .i64 x.1]) (fun x=>bC (S.getD (gq (dA js) (kV x.1)) []))),PT (jC ((lQ js).map Nat.succ))] (aI ((if x = y then Qi.ofInt 1 else Qi.ofInt 0) - gm S (gq (dA js) (kV x)) (gq (dA js) y))):=by
 have hpx:kV x < 2 * js.length:=pT hx
 have hgx:=(Eu hd).lt (kV x) hpx
 have hgy:=(Eu hd).lt y hy
 have hSl:=hS.1
 have hSr:=hS.row hgx
 have hJl:=Jw js
 have hat:cR (lQ js) y = gq (dA js) y:=Qp hy
 haveI g1:aF (gm S (gq (dA js) (kV x)) (gq (dA js) y)) L:=hf.get hL _ _
 haveI g2 : aF (if x = y then Qi.ofInt 1 else Qi.ofInt 0) 1 := by
  split
  ·exact lA
  ·exact (aF.zero (Nat.le_refl 1):aF Qi.zero 1)
 refine bB.intro Tryz.func122 rfl Tryz.ntmps122 rfl (fun cx=>(ts (rn rfl (eU (Ts:=[Is (.bool false),Is (.slice none 0 0),Is (.bool false),Is (.slice none 0 0),Is (.slice none 0 0)]) O_60 rfl (fun V=>aW zd (aW zd (aW zd (aW zd (aW zd (aG))))))) fun B6=>(eW (cU (fW (m:=14) (dp 0 rfl (cZ (Ht rfl)) (dp 1 rfl (cZ (Ht rfl)) (dE 7 0 8 1 rfl (cJ Tryz.call123 (a62 (x:=x) (y:=y)) ⟨(Ht rfl),(Ht rfl),trivial⟩) (dq 9 2 rfl (bT cD (Ht rfl)) ?_))))))))))
 refine dp 2 rfl (dW Tryz.isAgg182 Tryz.sizeOf182 (Ht rfl)) (dp 0 rfl (cZ (Ht rfl)) (dE 11 4 12 5 rfl (nX (Ts:=fun x:Fin (2 * js.length)=>[NT .i64 x.1]) ⟨x,hx⟩ (Ht rfl) ⟨(Ht rfl),trivial⟩) (dp 3 rfl (dW A_103 Z_103 (Ht rfl)) (dp 1 rfl (cZ (Ht rfl)) (dE 14 7 15 8 rfl (dJ U_103 Z_3 (Ht rfl) (Ht rfl) rfl (eZ (qE zo))) (dq 16 9 rfl (dW A_3 Z_3 (Ht rfl)) (dq 17 10 rfl (aM.nat (dU (Ht rfl) (cV 1) zo z6) (show cR (lQ js) y + 1 - 1 = gq (dA js) y by omega)) ?_)))))))
 refine dE 13 6 18 11 rfl (dJ U_25 Z_60 (Ht rfl) (Ht rfl) rfl (eZ (eX (d:=Qi.zero) (show gq (dA js) y < (S.getD (gq (dA js) (kV x)) []).length by omega)))) (dq 19 12 rfl (dW A_60 Z_60 (Ht rfl)) (fK aS rfl (by kernel_rfl) (zF (zF (zF (aJ (aJ (aV (ro rfl (bF lW K_69 (wI (x:=if x = y then Qi.ofInt 1 else Qi.ofInt 0) (y:=gm S (gq (dA js) (kV x)) (gq (dA js) y)) (L:=1) (M:=L) zo) (Ht rfl) ⟨(Ht rfl),trivial⟩) ?_)))))))))
 refine gJ Z_60 (Ht rfl) (Ht rfl) rfl (i:=0) rfl (aK rfl) rfl rfl (eW ?_)
 exact fU rfl (gQ A_60 Z_60 rfl (i:=0) rfl rfl)
theorem a5O {z:List Qi} {S:List (List Qi)} {js:List (Int × Int)} {L:Nat} (hS:cB S z.length z.length) (hf:bE S L) (hfz:bI z L) (hL:1 ≤ L) (hLb:L ≤ 1000000) (hz:z.length ≤ 18) (hj:js.length ≤ 100) (hg:∀ k,2 * k < z.length → 6 * lG (L + 2) (2 * k) + 4 ≤ 17592186044415) (hx:∀ k,2 * k < z.length → wN (lG (L + 2) (2 * k)) (2 * k + 1) ≤ 100000000000):bB Tryz.prog 32 [cO z S,JsT js] (eH [cO (xI z S js) (Ge z S js),aL .i64 (yE z S js)]):=by
 have hll:=pZ js
 have hJl:=Jw js
 have hSl:=hS.1
 refine bB.intro Tryz.func32 rfl Tryz.ntmps32 rfl (fun cx=>(ts (rn rfl (fY (Ht rfl)) fun B2=>(rn rfl (eU (Ts:=[Is (.slice none 0 0),Is (.slice none 0 0)]) O_28 rfl (fun V=>aW zd (aW zd (aG)))) fun B4=>(ro rfl (cX (cV 0)) (eW (ts (ro rfl (eK A_28 Z_28 (Ht rfl) (i:=0) rfl rfl rfl) (rm rfl (ro rfl (cJ Tryz.call120 (a0h (z:=z) (S:=S) (js:=js) (L:=L) hfz hL zo zo hj) ⟨(Ht rfl),(Ht rfl),trivial⟩) (rm rfl (ro rfl (eQ (Ht rfl) rfl) ?_))))))))))))
 refine ro rfl (eQ (Ht rfl) rfl) (rn rfl (eU (Ts:=[Is (.slice none 0 0)]) Tryz.zeroValue103 rfl (fun V=>aW zd (aG))) fun B6=>(lP Z_103 (Ht rfl) (Ht rfl) (i:=2) rfl (aK rfl) rfl (ra rfl (eW (cU (ts (rm rfl (ro rfl (iM (Ht rfl) cW) (eW (dX (Ht rfl) (fun hc=>?_) (fun hc=>?_)))))))))))
 ·have h3 : Gd z js ≠ 0 := by simpa using hc
  have he:yE z S js = Gd z js:=a85 h3
  refine ts (ro rfl (aM.imp (kY ) lC) (rm rfl (gJ Z_28 (Ht rfl) (Ht rfl) rfl (i:=1) rfl (aK rfl) rfl rfl (ra rfl (eW (bN rfl (fV (gQ A_28 Z_28 rfl (i:=1) rfl rfl) ?_) (fV (fX rfl) ?_)))))))
  ·exact (fun v V h=>by rw [xI,Ge,iD,iD,he,if_neg h3,if_neg h3]; exact h)
  ·exact (aR he.symm)
 ·have h3 : Gd z js = 0 := by simpa using hc
  obtain ⟨hd,hne⟩:=Jv h3
  have hok:jeL z js = oV js:=by rw [jeL,iD,if_pos h3]
  rw [hok]
  refine cY (cU (ts (ro rfl (fZ A_103 Z_103 (Ht rfl) (i:=2) rfl rfl) (ro rfl (dY U_103 (Ht rfl) (by rw [List.length_map,hll])) ?_))))
  refine ro rfl (cL (Ht rfl) (cV 0)) (eW (dX (Ht rfl) (fun hc2=>?_) (fun hc2=>?_)))
  ·have h4 : js.length = 0 := by simp only [decide_eq_true_eq] at hc2; omega
   have he:yE z S js = 0:=a3I h3 h4
   refine ts (ro rfl (eK A_28 Z_28 (Ht rfl) (i:=0) rfl rfl rfl) (gJ Z_28 (Ht rfl) (Ht rfl) rfl (i:=1) rfl (aK rfl) rfl rfl (ro rfl (cX (cV 0)) (eW (bN rfl (fV (gQ A_28 Z_28 rfl (i:=1) rfl rfl) ?_) (fV (fX rfl) ?_))))))
   ·exact (fun v V h=>by rw [xI,Ge,iD,iD,he,if_pos h4,if_pos h4]; exact h)
   ·exact (aR he.symm)
  ·have h4 : js.length ≠ 0 := by simp only [decide_eq_false_iff_not] at hc2; omega
   have hj:=Eu hd
   have hjl:=a17 hd
   have hm1:2 * js.length < z.length:=by omega
   obtain ⟨m,hm⟩:∃ m,m = 2 * js.length:=⟨_,rfl⟩
   have hg2:=hg js.length hm1
   have hx2:=hx js.length hm1
   have hxn:=Nat.le_trans (zO (lG (L + 2) (2 * js.length)) (2 * js.length)) hx2
   have yB:=Ix (z:=z) (s:=S) (G:=lQ js) zo zo
   rw [a0T] at yB
   have hfl:(eL z js).length ≤ z.length:=Ci _ _
   have hfx:∀ x,x ∈ eL z js → x < z.length:=fun x h=>wX h
   rw [a16 hd]
   refine cY (cU (gG (i:=0) (tt:=2) rfl rfl jF (gG (i:=2) (tt:=6) rfl rfl jE (dQ (ro rfl (lO (γ:=Fin (2 * js.length)) (Ts:=fun x=>[NT .i64 x.1]) (U:=fun x=>bC (S.getD (gq (dA js) (kV x.1)) [])) Tryz.call121 (fun x=>a2Y hS hd x.2 zo zo) ⟨(Ht rfl),(Ht rfl),trivial⟩) (rn rfl (eU (Ts:=[Is (.nilFunc)]) Tryz.zeroValue182 rfl (fun V=>aW zd (aG))) fun B8=>(lP Tryz.sizeOf182 (Ht rfl) (Ht rfl) (i:=3) rfl (aK rfl) rfl (eW (cU (gG (i:=3) (tt:=8) rfl rfl jE ?_))))))))))
   refine dQ (ro rfl (dW A_103 Z_103 (Ht rfl)) (ro rfl (dY U_103 (Ht rfl) (by rw [List.length_map,List.length_map,hJl])) ?_))
   refine ro rfl (lO (γ:=Fin (2 * js.length) × Fin (2 * js.length)) (Ts:=fun x=>[NT .i64 x.1.1,NT .i64 x.2.1]) (U:=fun x=>aI ((if x.1.1 = x.2.1 then Qi.ofInt 1 else Qi.ofInt 0) - gm S (gq (dA js) (kV x.1.1)) (gq (dA js) x.2.1))) Tryz.call122 (fun x=>a2Z hS hf hL hLb hd x.1.2 x.2.2 zo zo) ⟨(Ht rfl),(Ht rfl),trivial⟩) (ro rfl (cJ K_110 (uE (n:=2 * js.length) (f:=fun x y=>(if x = y then Qi.ofInt 1 else Qi.ofInt 0) - gm S (gq (dA js) (kV x)) (gq (dA js) y)) zo) ⟨(Ht rfl),(Ht rfl),trivial⟩) (ra rfl (eW (ts (ro rfl (dW A_28 Z_28 (Ht rfl)) ?_)))))
   refine ro rfl (dW A_103 Z_103 (Ht rfl)) (ro rfl (cJ Tryz.call124 yB ⟨(Ht rfl),(Ht rfl),trivial⟩) (ra rfl (eW (ts (ro rfl (dW A_28 Z_28 (Ht rfl)) (rm rfl (oS Tryz.call125 (Sy (Q:=eL z js) (m:=(eL z js).length) hS hfx rfl zo zo) ⟨(Ht rfl),(Ht rfl),trivial⟩ rfl (fun B47 _=>(rn rfl (eU (Ts:=[Is (.slice none 0 0),Is (.slice none 0 0)]) O_28 rfl (fun V=>aW zd (aW zd (aG)))) fun B11=>(gJ Z_28 (Ht rfl) (Ht rfl) rfl (i:=5) rfl (aK rfl) rfl rfl ?_))))))))))
   refine eW (cU (ts (rm rfl (ro rfl (dY U_103 (Ht rfl) (by rw [List.length_map,List.length_map])) ?_))))
   refine ro rfl (cZ (cV 0)) (eW (eY (cM [1,4,5] rfl (by decide) ?_)))
   refine cP (fun (j : Nat) => j ≤ (eL z js).length ∧ ∀ y, y < j → jO (nR S (dA js) (2 * js.length)) (Bf S (dA js) (2 * js.length) ((eL z js).getD y 0)) (2 * js.length) = 0) (fun (j : Nat) => (eL z js).length - j) (fun (j : Nat) => [(2, PT (cO z S)), (4, cC B4 0), (6, PT (jC ((lQ js).map Nat.succ))), (8, PT (Gg Tryz.prog (Fin (2 * js.length)) (fun x => [NT .i64 x.1]) (fun x => bC (S.getD (gq (dA js) (kV x.1)) [])))), (9, dF (nR S (dA js) (2 * js.length))), (10, jC ((eL z js).map Nat.succ)), (11, cC B11 0), (48, jC ((eL z js).map Nat.succ)), (49, NT .i64 ((eL z js).length)), (50, NT .i64 j)]) (fun (j : Nat) => [box B4 28 [Is (.slice none 0 0), Is (.slice none 0 0)], qC B47 25 60 5 (dO aI (tab ((eL z js).length) fun i => (pK (fun y => zQ S (dA js) (2 * js.length) (cR (eL z js) i) (cR (eL z js) y)) (fun y => gm S (cR (eL z js) i) (cR (eL z js) y)) (eL z js).length j))), box B11 28 [bC (oG z (eL z js)), Is (.slice (some ⟨B47, 0, none⟩) ((eL z js).length) ((eL z js).length))]]) 0 ⟨Nat.zero_le _, fun y h => by omega⟩
    (zS rfl) (aU (aD rfl) (aU (fT (congrArg (dO aI) (bR fun i _=>vL _ _ _))) (aU (aD rfl) aY))) (fun j ⟨hjq,h0⟩=>?_)
   refine ts (ro rfl (gV (Ht rfl) (Ht rfl)) (eW (cU (dX (Ht rfl) (fun hd1=>?_) (fun hd1=>?_)))))
   ·have hjn : j < (eL z js).length := by simp only [decide_eq_true_eq] at hd1; omega
    have hFj:cR (eL z js) j < z.length:=Qo hjn
    have hbf:bI (Bf S (dA js) (2 * js.length) ((eL z js).getD j 0)) L:=Uo hf hL
    refine cY (cU (eY (ts (rm rfl (ro rfl (dJ U_103 Z_3 (Ht rfl) (Ht rfl) rfl (eZ (qE hjn))) (ro rfl (dW A_3 Z_3 (Ht rfl)) (ra rfl (ra rfl (eW (ts (ro rfl (dW A_103 Z_103 (Ht rfl)) (ro rfl (dY U_103 (Ht rfl) (by rw [List.length_map,List.length_map,hJl])) ?_))))))))))))
    refine rn rfl (iU (T:=aI Qi.zero) (i:=Tryz.t60) lE jH rfl rfl (Ht rfl) rfl jB (El.ag rfl) (by show 88 * _ ≤ _; omega) zo) fun B57=>ra rfl (eW (cU (ts (rm rfl (ro rfl (oX U_25 (Ht rfl) (i:=3) rfl (show ((List.replicate (2 * js.length) (aI Qi.zero)).length:Int) = ((2 * js.length:Nat):Int) from by simp)) (ro rfl (cZ (cV 0)) (eW (eY ?_))))))))
    refine cP (fun (x : Nat) => x ≤ 2 * js.length) (fun (x : Nat) => 2 * js.length - x) (fun (x : Nat) => [(2, PT (cO z S)), (4, cC B4 0), (6, PT (jC ((lQ js).map Nat.succ))), (8, PT (Gg Tryz.prog (Fin (2 * js.length)) (fun x => [NT .i64 x.1]) (fun x => bC (S.getD (gq (dA js) (kV x.1)) [])))), (9, dF (nR S (dA js) (2 * js.length))), (10, jC ((eL z js).map Nat.succ)), (11, cC B11 0), (12, NT .i64 j), (13, NT .i64 (cR (eL z js) j + 1)), (14, Is B57), (48, jC ((eL z js).map Nat.succ)), (49, NT .i64 ((eL z js).length)), (50, NT .i64 j), (59, NT .i64 (2 * js.length)), (60, NT .i64 x)]) (fun (x : Nat) => [box B4 28 [Is (.slice none 0 0), Is (.slice none 0 0)], qC B47 25 60 5 (dO aI (tab ((eL z js).length) fun i => (pK (fun y => zQ S (dA js) (2 * js.length) (cR (eL z js) i) (cR (eL z js) y)) (fun y => gm S (cR (eL z js) i) (cR (eL z js) y)) (eL z js).length j))), box B11 28 [bC (oG z (eL z js)), Is (.slice (some ⟨B47, 0, none⟩) ((eL z js).length) ((eL z js).length))], bP 60 5 B57 ((nA (fun x => gm S (gq (dA js) (kV x)) (cR (eL z js) j)) Qi.zero (2 * js.length) x).map aI)]) 0 (Nat.zero_le _)
     (zS rfl) (aU (aD rfl) (aU (fun _ _ _ h=>h) (aU (aD rfl) (aU (bD (by rw [← kF]; exact rU aI _)) aY)))) (fun x hx1=>?_)
    refine ts (ro rfl (gV (Ht rfl) (Ht rfl)) (eW (cU (dX (Ht rfl) (fun hd2=>?_) (fun hd2=>?_)))))
    ·have hxm : x < 2 * js.length := by simp only [decide_eq_true_eq] at hd2; omega
     have hgx:=hj.lt (kV x) (pT hxm)
     have hSr:=hS.row hgx
     refine cY (cU (eY (ts (rm rfl (ra rfl (eW (dQ (rm rfl (rm rfl (ro rfl (dW Tryz.isAgg182 Tryz.sizeOf182 (Ht rfl)) (rm rfl (ro rfl (nX (Ts:=fun x:Fin (2 * js.length)=>[NT .i64 x.1]) ⟨x,hxm⟩ (Ht rfl) ⟨(Ht rfl),trivial⟩) (rm rfl (ro rfl (aM.nat (dU (Ht rfl) (cV 1) zo z6) (show cR (eL z js) j + 1 - 1 = cR (eL z js) j by omega)) (ro rfl (dJ U_25 Z_60 (Ht rfl) (Ht rfl) rfl (eZ (eX (d:=Qi.zero) (show cR (eL z js) j < (S.getD (gq (dA js) (kV x)) []).length by omega)))) ?_)))))))))))))))
     refine ro rfl (dW A_60 Z_60 (Ht rfl)) (ro rfl (dB U_25 Z_60 (Ht rfl) (Ht rfl) rfl (i:=3) rfl (by rw [List.length_map,eR]; omega) rfl) ?_)
     refine mP Z_60 (Ht rfl) (Ht rfl) (El.ag rfl) (i:=3) rfl rfl (by rw [List.length_map,eR]; omega) rfl ?_
     refine eW (bM (dQ (ro rfl (dK (Ht rfl) (cV 1) z6) (rm rfl (eW (gX (x + 1) hxm zo (zS rfl) (aU (aD rfl) (aU (fun _ _ _ h=>h) (aU (aD rfl) (aU (bD (by rw [iR]; exact congrArg _ (lN (f:=(fun x=>gm S (gq (dA js) (kV x)) (cR (eL z js) j)))))) aY))))))))))
    ·have hxm : x = 2 * js.length := by simp only [decide_eq_false_iff_not] at hd2; omega
     rw [hxm,lM]
     refine gK rfl (gG (i:=3) (tt:=14) rfl rfl fR (ts (rm rfl (rm rfl (ro rfl (cJ Tryz.call126 (a2R (M:=nR S (dA js) (2 * js.length)) (b:=Bf S (dA js) (2 * js.length) ((eL z js).getD j 0)) (n:=2 * js.length) (L:=L + 2) (nS _ _ _) (aE _ _) (Jx hf hL) (hbf.le zo) zo zo zo hg2 zo) ⟨(Ht rfl),(Ht rfl),trivial⟩) (rm rfl (ro rfl (eQ (Ht rfl) rfl) (ro rfl (eQ (Ht rfl) rfl) (ra rfl (ra rfl (eW (cU (ts (rm rfl (ro rfl (iM (Ht rfl) cW) (eW (dX (Ht rfl) (fun hc3=>?_) (fun hc3=>?_))))))))))))))))))
     ·have h5 : jO (nR S (dA js) (2 * js.length)) (Bf S (dA js) (2 * js.length) ((eL z js).getD j 0)) (2 * js.length) ≠ 0 := by simpa using hc3
      have h6:Qw z S js ≠ 0:=fun k=>h5 (iC k j hjn)
      have he:yE z S js = 6:=(Qu h3 h4).trans (if_neg h6)
      refine ts (ro rfl (aM.imp (kY ) lC) (gJ Z_28 (Ht rfl) (Ht rfl) rfl (i:=0) rfl (aK rfl) rfl rfl (ro rfl (cX (cV 6)) (eW (bN rfl (fV (gQ A_28 Z_28 rfl (i:=0) rfl rfl) ?_) (fV (fX rfl) ?_))))))
      ·exact (fun v V h=>by rw [xI,Ge,iD,iD,he]; exact h)
      ·exact (aR he.symm)
     ·have h5 : jO (nR S (dA js) (2 * js.length)) (Bf S (dA js) (2 * js.length) ((eL z js).getD j 0)) (2 * js.length) = 0 := by simpa using hc3
      have hxf:=Wa (nS S (dA js) (2 * js.length)) (Jx hf hL) (hbf.le zo) zo h5
      have hxl:(iK (nR S (dA js) (2 * js.length)) (Bf S (dA js) (2 * js.length) ((eL z js).getD j 0)) (2 * js.length)).length = 2 * js.length:=uW _ _ _
      have hGe:L + 2 ≤ wN (lG (L + 2) (2 * js.length)) (2 * js.length):=Nat.le_trans (rP (L + 2) (2 * js.length)) (Fy _ _)
      obtain ⟨G,hG⟩:∃ G,G = wN (lG (L + 2) (2 * js.length)) (2 * js.length):=⟨_,rfl⟩
      rw [← hG] at hxf hGe hxn
      have hmG:2 * js.length * (2 * G + 2) ≤ 18 * (2 * G + 2):=Nat.mul_le_mul_right _ zo
      have hokx:iD (jO (nR S (dA js) (2 * js.length)) (Bf S (dA js) (2 * js.length) ((eL z js).getD j 0)) (2 * js.length)) (iK (nR S (dA js) (2 * js.length)) (Bf S (dA js) (2 * js.length) ((eL z js).getD j 0)) (2 * js.length)) = iK (nR S (dA js) (2 * js.length)) (Bf S (dA js) (2 * js.length) ((eL z js).getD j 0)) (2 * js.length):=by rw [iD,if_pos h5]
      rw [hokx]
      refine cY (ts (rm rfl (ro rfl (dY U_103 (Ht rfl) (by rw [List.length_map,List.length_map])) ?_)))
      refine ro rfl (cZ (cV 0)) (eW (eY (cM [0,1,2] rfl (by decide) ?_)))
      refine cP (fun (i : Nat) => i ≤ (eL z js).length) (fun (i : Nat) => (eL z js).length - i) (fun (i : Nat) => [(2, PT (cO z S)), (4, cC B4 0), (6, PT (jC ((lQ js).map Nat.succ))), (8, PT (Gg Tryz.prog (Fin (2 * js.length)) (fun x => [NT .i64 x.1]) (fun x => bC (S.getD (gq (dA js) (kV x.1)) [])))), (9, dF (nR S (dA js) (2 * js.length))), (10, jC ((eL z js).map Nat.succ)), (11, cC B11 0), (12, NT .i64 j), (16, bC (iK (nR S (dA js) (2 * js.length)) (Bf S (dA js) (2 * js.length) ((eL z js).getD j 0)) (2 * js.length))), (48, jC ((eL z js).map Nat.succ)), (49, NT .i64 ((eL z js).length)), (50, NT .i64 j), (83, jC ((eL z js).map Nat.succ)), (84, NT .i64 ((eL z js).length)), (85, NT .i64 i)]) (fun (i : Nat) => [box B4 28 [Is (.slice none 0 0), Is (.slice none 0 0)], qC B47 25 60 5 (dO aI (pK (fun i => (pK (fun y => zQ S (dA js) (2 * js.length) (cR (eL z js) i) (cR (eL z js) y)) (fun y => gm S (cR (eL z js) i) (cR (eL z js) y)) (eL z js).length (j + 1))) (fun i => (pK (fun y => zQ S (dA js) (2 * js.length) (cR (eL z js) i) (cR (eL z js) y)) (fun y => gm S (cR (eL z js) i) (cR (eL z js) y)) (eL z js).length j)) ((eL z js).length) i)), box B11 28 [bC (oG z (eL z js)), Is (.slice (some ⟨B47, 0, none⟩) ((eL z js).length) ((eL z js).length))]]) 0 (Nat.zero_le _)
       (zS rfl) (aU (aD rfl) (aU (fT (congrArg (dO aI) (vL _ _ _))) (aU (aD rfl) aY))) (fun i hi=>?_)
      refine ts (ro rfl (gV (Ht rfl) (Ht rfl)) (eW (cU (dX (Ht rfl) (fun hd4=>?_) (fun hd4=>?_)))))
      ·have hin : i < (eL z js).length := by simp only [decide_eq_true_eq] at hd4; omega
       have hFi:cR (eL z js) i < z.length:=Qo hin
       have hSr:=hS.row hFi
       refine cY (cU (eY (ts (rm rfl (ro rfl (dJ U_103 Z_3 (Ht rfl) (Ht rfl) rfl (eZ (qE hin))) (ro rfl (dW A_3 Z_3 (Ht rfl)) (ra rfl (ra rfl (eW (ts (ro rfl (dW A_103 Z_103 (Ht rfl)) (ro rfl (dY U_103 (Ht rfl) (by rw [List.length_map,List.length_map,hJl])) ?_))))))))))))
       refine rn rfl (iU (T:=aI Qi.zero) (i:=Tryz.t60) lE jH rfl rfl (Ht rfl) rfl jB (El.ag rfl) (by show 88 * _ ≤ _; omega) zo) fun B92=>ra rfl (eW (cU (ts (ro rfl (dW A_103 Z_103 (Ht rfl)) (ro rfl (dY U_103 (Ht rfl) (by rw [List.length_map,List.length_map,hJl])) ?_)))))
       refine ro rfl (cZ (cV 0)) (eW (eY ?_))
       refine cP (fun (x : Nat) => x ≤ 2 * js.length) (fun (x : Nat) => 2 * js.length - x) (fun (x : Nat) => [(2, PT (cO z S)), (4, cC B4 0), (6, PT (jC ((lQ js).map Nat.succ))), (8, PT (Gg Tryz.prog (Fin (2 * js.length)) (fun x => [NT .i64 x.1]) (fun x => bC (S.getD (gq (dA js) (kV x.1)) [])))), (9, dF (nR S (dA js) (2 * js.length))), (10, jC ((eL z js).map Nat.succ)), (11, cC B11 0), (12, NT .i64 j), (16, bC (iK (nR S (dA js) (2 * js.length)) (Bf S (dA js) (2 * js.length) ((eL z js).getD j 0)) (2 * js.length))), (18, NT .i64 i), (19, NT .i64 (cR (eL z js) i + 1)), (20, Is B92), (48, jC ((eL z js).map Nat.succ)), (49, NT .i64 ((eL z js).length)), (50, NT .i64 j), (83, jC ((eL z js).map Nat.succ)), (84, NT .i64 ((eL z js).length)), (85, NT .i64 i), (93, jC ((lQ js).map Nat.succ)), (94, NT .i64 (2 * js.length)), (95, NT .i64 x)]) (fun (x : Nat) => [box B4 28 [Is (.slice none 0 0), Is (.slice none 0 0)], qC B47 25 60 5 (dO aI (pK (fun i => (pK (fun y => zQ S (dA js) (2 * js.length) (cR (eL z js) i) (cR (eL z js) y)) (fun y => gm S (cR (eL z js) i) (cR (eL z js) y)) (eL z js).length (j + 1))) (fun i => (pK (fun y => zQ S (dA js) (2 * js.length) (cR (eL z js) i) (cR (eL z js) y)) (fun y => gm S (cR (eL z js) i) (cR (eL z js) y)) (eL z js).length j)) ((eL z js).length) i)), box B11 28 [bC (oG z (eL z js)), Is (.slice (some ⟨B47, 0, none⟩) ((eL z js).length) ((eL z js).length))], bP 60 5 B92 ((nA (fun x => gm S (cR (eL z js) i) (gq (dA js) x)) Qi.zero (2 * js.length) x).map aI)]) 0 (Nat.zero_le _)
        (zS rfl) (aU (aD rfl) (aU (fun _ _ _ h=>h) (aU (aD rfl) (aU (bD (by rw [← kF]; exact rU aI _)) aY)))) (fun x hx1=>?_)
       refine ts (ro rfl (gV (Ht rfl) (Ht rfl)) (eW (cU (dX (Ht rfl) (fun hd5=>?_) (fun hd5=>?_)))))
       ·have hxm : x < 2 * js.length := by simp only [decide_eq_true_eq] at hd5; omega
        have hat:cR (lQ js) x = gq (dA js) x:=Qp hxm
        have hgx:=hj.lt x hxm
        refine cY (cU (eY (ts (rm rfl (ro rfl (dJ U_103 Z_3 (Ht rfl) (Ht rfl) rfl (eZ (qE zo))) (ro rfl (dW A_3 Z_3 (Ht rfl)) (ra rfl (ra rfl (eW (dQ (rm rfl (rm rfl (ro rfl (gR eD (Ht rfl) rfl) (ro rfl (dW A_26 Z_26 (Ht rfl)) (rm rfl (ro rfl (aM.nat (dU (Ht rfl) (cV 1) zo z6) (show cR (eL z js) i + 1 - 1 = cR (eL z js) i by omega)) (ro rfl (dJ U_26 Z_25 (Ht rfl) (Ht rfl) rfl (eZ (eX (d:=[]) (show cR (eL z js) i < S.length by omega)))) ?_)))))))))))))))))
        refine ro rfl (dW A_25 Z_25 (Ht rfl)) (rm rfl (ro rfl (aM.nat (dU (Ht rfl) (cV 1) zo z6) (show cR (lQ js) x + 1 - 1 = gq (dA js) x by omega)) (ro rfl (dJ U_25 Z_60 (Ht rfl) (Ht rfl) rfl (eZ (eX (d:=Qi.zero) (show gq (dA js) x < (S.getD (cR (eL z js) i) []).length by omega)))) (ro rfl (dW A_60 Z_60 (Ht rfl)) (ro rfl (dB U_25 Z_60 (Ht rfl) (Ht rfl) rfl (i:=3) rfl (by rw [List.length_map,eR]; omega) rfl) ?_)))))
        refine mP Z_60 (Ht rfl) (Ht rfl) (El.ag rfl) (i:=3) rfl rfl (by rw [List.length_map,eR]; omega) rfl ?_
        refine eW (bM (dQ (ro rfl (dK (Ht rfl) (cV 1) z6) (rm rfl (eW (gX (x + 1) hxm zo (zS rfl) (aU (aD rfl) (aU (fun _ _ _ h=>h) (aU (aD rfl) (aU (bD (by rw [iR]; exact congrArg _ (lN (f:=(fun x=>gm S (cR (eL z js) i) (gq (dA js) x)))))) aY))))))))))
       ·have hxm : x = 2 * js.length := by simp only [decide_eq_false_iff_not] at hd5; omega
        rw [hxm,lM]
        refine gK rfl (gG (i:=3) (tt:=20) rfl rfl fR (cM [0,1,2] rfl (by decide) (tD 1 (i) rfl (Hm hin) (fun v0=>?_))))
        have hrl:=qU (fun y=>zQ S (dA js) (2 * js.length) (cR (eL z js) i) (cR (eL z js) y)) (fun y=>gm S (cR (eL z js) i) (cR (eL z js) y)) ((eL z js).length) j
        have hrf:bI (tab (2 * js.length) (fun x=>gm S (cR (eL z js) i) (gq (dA js) x))) G:=bI.tab fun x _=>(hf.get hL _ _).le zo
        have hro : ((pK (fun y => zQ S (dA js) (2 * js.length) (cR (eL z js) i) (cR (eL z js) y)) (fun y => gm S (cR (eL z js) i) (cR (eL z js) y)) (eL z js).length j)).set j (wD (gm S (cR (eL z js) i) (cR (eL z js) j)) (tab (2 * js.length) (fun x => gm S (cR (eL z js) i) (gq (dA js) x))) (iK (nR S (dA js) (2 * js.length)) (Bf S (dA js) (2 * js.length) ((eL z js).getD j 0)) (2 * js.length)) (2 * js.length)) = (pK (fun y => zQ S (dA js) (2 * js.length) (cR (eL z js) i) (cR (eL z js) y)) (fun y => gm S (cR (eL z js) i) (cR (eL z js) y)) (eL z js).length (j + 1)) := by
         rw [a0C]; exact yL (f:=fun y=>zQ S (dA js) (2 * js.length) (cR (eL z js) i) (cR (eL z js) y))
        refine fW (m:=17) (dp 11 rfl (eG eD (Ht rfl) rfl) (dq 114 0 rfl (fZ A_26 Z_26 (Ht rfl) (i:=2) rfl rfl) (dp 18 rfl (cZ (Ht rfl)) (dE 115 1 116 2 rfl (gZ U_26 Z_25 (Ht rfl) (Ht rfl) rfl zo (by rw [Nat.mul_one,Nat.zero_add])) ?_))))
        refine dq 117 3 rfl (pR A_25 Z_25 (Ht rfl) (j:=1) rfl) (dp 12 rfl (cZ (Ht rfl)) (dp 11 rfl (eG eD (Ht rfl) rfl) (dq 120 6 rfl (fZ A_26 Z_26 (Ht rfl) (i:=2) rfl rfl) (dp 18 rfl (cZ (Ht rfl)) (dE 121 7 122 8 rfl (gZ U_26 Z_25 (Ht rfl) (Ht rfl) rfl zo (by rw [Nat.mul_one,Nat.zero_add])) ?_)))))
        refine dq 123 9 rfl (pR A_25 Z_25 (Ht rfl) (j:=1) rfl) (dp 12 rfl (cZ (Ht rfl)) (dE 124 10 125 11 rfl (dB U_25 Z_60 (Ht rfl) (Ht rfl) rfl (i:=3) rfl (by simp only [List.length_map,hrl]; omega) rfl) ?_))
        refine dq 126 12 rfl (pS A_60 Z_60 (Ht rfl) (i:=3) rfl rfl (eZ (Fa hjn))) (dp 20 rfl (cZ (Ht rfl)) (dp 16 rfl (cZ (Ht rfl)) (C.D_step (Ei:=[(127,_),(128,_),(129,_)]) rfl rfl (bV (bG 13 rfl rfl) (bV (bG 14 rfl rfl) (bV (bG 15 rfl rfl) bW))) (dZ rfl (cJ Tryz.call127 (a7J (x:=gm S (cR (eL z js) i) (cR (eL z js) j)) (l:=tab (2 * js.length) (fun x=>gm S (cR (eL z js) i) (gq (dA js) x))) (m:=iK (nR S (dA js) (2 * js.length)) (Bf S (dA js) (2 * js.length) ((eL z js).getD j 0)) (2 * js.length)) (L:=G) (M:=L) (n:=2 * js.length) (hf.get hL _ _) hrf hxf zo (aE _ _) hxl zo zo) ⟨(Ht rfl),(Ht rfl),(Ht rfl),trivial⟩)) ?_)))
        refine fK aS rfl (by kernel_rfl) (zF (zF (zF (zF (aJ (aV (ro rfl (dB U_25 Z_60 (Ht rfl) (Ht rfl) rfl (i:=3) rfl (by simp only [List.length_map,hrl]; omega) rfl) ?_)))))))
        refine mP Z_60 (Ht rfl) (Ht rfl) (El.ag rfl) (i:=3) rfl rfl (by simp only [List.length_map,hrl]; omega) rfl ?_
        refine eW (nB 1 3 rfl rfl (by decide) (by simp only [dO,List.length_map,qU]; omega) ?_)
        refine bM (dQ (ro rfl (dK (Ht rfl) (cV 1) z6) (rm rfl (eW (cM [0,1,2] rfl (by decide) (gX (i + 1) hin zo (zS rfl) (aU (aD rfl) (aU (fT (by rw [iR,hro,oA]; exact congrArg _ (yL (f:=fun i=>(pK (fun y=>zQ S (dA js) (2 * js.length) (cR (eL z js) i) (cR (eL z js) y)) (fun y=>gm S (cR (eL z js) i) (cR (eL z js) y)) (eL z js).length (j + 1)))))) (aU (aD rfl) aY)))))))))
      ·have hin : i = (eL z js).length := by simp only [decide_eq_false_iff_not] at hd4; omega
       rw [hin,yK]
       refine gK rfl (bM (dQ (ro rfl (dK (Ht rfl) (cV 1) z6) (rm rfl (eW ?_)))))
       refine gX (j + 1) ⟨hjn, fun y h => by
         by_cases e:y = j
         ·rw [e]; exact h5
         ·exact h0 y zo⟩ zo (zS rfl) (aU (aD rfl) (aU (fun _ _ _ h=>h) (aU (aD rfl) aY)))
   ·have hjn : j = (eL z js).length := by simp only [decide_eq_false_iff_not] at hd1; omega
    rw [hjn] at h0
    have h6:Qw z S js = 0:=iB h0
    have he:yE z S js = 0:=(Qu h3 h4).trans (if_pos h6)
    rw [hjn,show (tab ((eL z js).length) fun i=>(pK (fun y=>zQ S (dA js) (2 * js.length) (cR (eL z js) i) (cR (eL z js) y)) (fun y=>gm S (cR (eL z js) i) (cR (eL z js) y)) (eL z js).length (eL z js).length)) = Ak z S js from bR fun i _=>yK _ _ _]
    refine gK rfl (cU (Dm 2 1 1 rfl rfl rfl (by decide) (a7X (q:=fun _=>True) (M:=Ak z S js) (aE _ _).symm) (dQ (ro rfl (eK A_28 Z_28 (Ht rfl) (i:=2) rfl rfl rfl) (gJ Z_28 (Ht rfl) (Ht rfl) rfl (i:=0) rfl (aK rfl) rfl rfl (ro rfl (cX (cV 0)) (eW (bN rfl (fV (gQ A_28 Z_28 rfl (i:=0) rfl rfl) ?_) (fV (fX rfl) ?_)))))))))
    ·exact (fun v V h=>by rw [xI,Ge,iD,iD,he,if_neg h4,if_neg h4]; exact h)
    ·exact (aR he.symm)
end
section
open Go Go.RowKit
theorem a34 {z:List Qi} {s:List (List Qi)} {Q:List Nat} {m:Nat} (hs:cB s z.length z.length) (hQ:∀ x,x ∈ Q → x < z.length) (hm:Q.length = m) (hm2:m ≤ 1000) (hl:z.length ≤ 1000):jM Tryz.prog 125 [cO z s,jC (Q.map Nat.succ)] [] (Nat × Nat) (fun B=>eT [Is (.slice (some ⟨B.1,0,none⟩) m m),Is (.slice (some ⟨B.2,0,none⟩) m m)]) (fun B=>[bP 60 5 (.slice (some ⟨B.1,0,none⟩) m m) ((oG z Q).map aI),qC B.2 25 60 5 (dO aI (rG s Q))]) (fun _=>True):=by
 have hll:(Q.map Nat.succ).length = m:=by rw [List.length_map]; exact hm
 refine jM.intro Tryz.func125 rfl Tryz.ntmps125 rfl (fun cx Z=>(ts (rn rfl (fY (Ht rfl)) fun B2=>(rn rfl (nV (Ht rfl)) fun B3=>(rn rfl (eU (Ts:=[Is (.slice none 0 0),Is (.slice none 0 0)]) O_28 rfl (fun V=>aW zd (aW zd (aG)))) fun B4=>(eW (cU (gG (i:=1) (tt:=2) rfl rfl jF (gG (i:=2) (tt:=3) rfl rfl jE (dQ (ro rfl (dW A_103 Z_103 (Ht rfl)) (ro rfl (dY U_103 (Ht rfl) (by rw [List.length_map,hll])) ?_))))))))))))
 refine rn rfl (Yd (T:=aI Qi.zero) (i:=Tryz.t60) lE jH rfl rfl (Ht rfl) rfl jB (El.ag rfl) (by show 88 * _ ≤ _; omega) zo) fun B10=>ra rfl (eW (cU (ts (ro rfl (dW A_103 Z_103 (Ht rfl)) (ro rfl (dY U_103 (Ht rfl) (by rw [List.length_map,hll])) ?_)))))
 refine ro rfl (cZ (cV 0)) (eW (eY (cM [0,3,4] rfl (by decide) ?_)))
 refine cP (fun (i : Nat) => i ≤ m) (fun (i : Nat) => m - i) (fun (i : Nat) => [(2, PT (cO z s)), (3, PT (jC (Q.map Nat.succ))), (4, cC B4 0), (5, Is (.slice (some ⟨B10, 0, none⟩) m m)), (11, jC (Q.map Nat.succ)), (12, NT .i64 m), (13, NT .i64 i)]) (fun (i : Nat) => [Z, box B4 28 [Is (.slice none 0 0), Is (.slice none 0 0)], bP 60 5 (.slice (some ⟨B10, 0, none⟩) m m) ((nA (fun i => gv z (cR Q i)) Qi.zero m i).map aI)]) 0 (Nat.zero_le _)
  (zS rfl) (aU (fun _ _ _ h=>h) (aU (fun _ _ _ h=>h) (aU (bD (by rw [← kF]; exact rU aI m)) aY))) (fun i hi=>?_)
 refine ts (ro rfl (gV (Ht rfl) (Ht rfl)) (eW (cU (dX (Ht rfl) (fun hd=>?_) (fun hd=>?_)))))
 ·simp only [decide_eq_true_eq] at hd
  have hki:cR Q i < z.length:=sA hQ zo
  refine cY (cU (eY (ts (rm rfl (ro rfl (dJ U_103 Z_3 (Ht rfl) (Ht rfl) rfl (eZ (qE zo))) (ro rfl (dW A_3 Z_3 (Ht rfl)) (ra rfl (ra rfl (eW (dQ (rm rfl (rm rfl (ro rfl (gR eP (Ht rfl) rfl) (ro rfl (dW A_25 Z_25 (Ht rfl)) (rm rfl (ro rfl (aM.nat (dU (Ht rfl) (cV 1) zo z6) (show cR Q i + 1 - 1 = cR Q i by omega)) (ro rfl (dJ U_25 Z_60 (Ht rfl) (Ht rfl) rfl (eZ (eX (d:=Qi.zero) hki))) ?_)))))))))))))))))
  refine ro rfl (dW A_60 Z_60 (Ht rfl)) (ro rfl (dB U_25 Z_60 (Ht rfl) (Ht rfl) rfl (i:=2) rfl (by rw [List.length_map,eR]; omega) rfl) ?_)
  refine mP Z_60 (Ht rfl) (Ht rfl) (El.ag rfl) (i:=2) rfl rfl (by rw [List.length_map,eR]; omega) rfl ?_
  refine eW (bM (dQ (ro rfl (dK (Ht rfl) (cV 1) z6) (rm rfl (eW (gX (i + 1) hd zo (zS rfl) (aU (fun _ _ _ h=>h) (aU (fun _ _ _ h=>h) (aU (bD (by rw [iR,← lN (f:=(fun i=>gv z (cR Q i)))])) aY)))))))))
 ·simp only [decide_eq_false_iff_not] at hd
  obtain rfl:m = i:=Nat.le_antisymm zo hi
  rw [lM]
  rw [show oG z Q = tab m fun i=>gv z (cR Q i) from by rw [oG,hm],show rG s Q = tab m fun i=>tab m fun j=>gm s (cR Q i) (cR Q j) from by rw [rG,hm]]
  refine gK rfl (ts (rm rfl (ro rfl (dW A_103 Z_103 (Ht rfl)) (ro rfl (dY U_103 (Ht rfl) (by rw [List.length_map,hll])) ?_))))
  refine ro rfl (lO (γ:=Fin m × Fin m) (Ts:=fun x=>[NT .i64 x.1.1,NT .i64 x.2.1]) (U:=fun x=>aI (gm s (cR Q x.1.1) (cR Q x.2.1))) Tryz.call220 (fun x=>Sx hs hQ hm hm2 hl x.1.2 x.2.2) ⟨(Ht rfl),(Ht rfl),trivial⟩) (oS K_110 (Iw (n:=m) (f:=fun i j=>gm s (cR Q i) (cR Q j)) zo) ⟨(Ht rfl),(Ht rfl),trivial⟩ rfl (fun B32 _=>(ro rfl (oK (Ht rfl) (Ht rfl)) (gJ Z_28 (Ht rfl) (Ht rfl) rfl (i:=1) rfl (aK rfl) rfl rfl (eW ?_)))))
  exact lJ (B10,B32) trivial [0,2,3] ⟨⟨_,rfl,fun _ _ _ h=>h⟩,⟨_,rfl,fun _ _ _ h=>h⟩,⟨_,rfl,fun _ _ _ h=>h⟩,trivial⟩ (by decide) (zJ rfl (gQ A_28 Z_28 rfl (i:=1) rfl rfl))
end
section
open Go Go.RowKit
theorem a30 {z : List Qi} {s : List (List Qi)} (hl : z.length ≤ 1000) : bB Tryz.prog 124 [cO z s, Is (.slice none 0 0)] (jC ((gN [] z.length).map Nat.succ)) :=
 (Ix (z := z) (s := s) (G := []) hl (by simp)).arg fun vs V h => match vs, h with
  | [_,b],⟨h1,h2,_⟩=>⟨h1,iP b V h2,trivial⟩
end
section
open Go Go.RowKit
abbrev nb (x:Qi):List Ty:=[aH (decide (x.a < 0)),aN x.a.natAbs,aH (decide (x.b < 0)),aN x.b.natAbs,aN (du x)]
abbrev nbZ:List Ty:=[Is (.bool false),Is (.slice none 0 0),Is (.bool false),Is (.slice none 0 0),Is (.slice none 0 0)]
def fxC (f : List (List Qi)) : Nat → List Ty
 | 0=>nbZ ++ nbZ ++ (nbZ ++ nbZ)
 | 1=>nb (gm f 0 0) ++ nb (gm f 0 1) ++ (nbZ ++ nbZ)
 | _=>nb (gm f 0 0) ++ nb (gm f 0 1) ++ (nb (gm f 1 0) ++ nb (gm f 1 1))
theorem a3s (f : List (List Qi)) : ∀ i, (fxC f i).length = 20
 | 0=>rfl
 | 1=>rfl
 | _ + 2=>rfl
theorem a0Q (f : List (List Qi)) : ∀ {i : Nat}, i < 2 → (fxC f i).take (0 + i * 10) ++ (nb (gm f i 0) ++ nb (gm f i 1)) ++ (fxC f i).drop (0 + i * 10 + 10) = fxC f (i + 1)
 | 0,_=>rfl
 | 1,_=>rfl
theorem a8G {f:List (List Qi)} (h:cB f 2 2) {i:Nat} (hi:i < 2):(f.getD i []).map aI = [aI (gm f i 0),aI (gm f i 1)]:=by
 have hl:=h.row hi
 show (f.getD i []).map aI = [aI (gv (f.getD i []) 0),aI (gv (f.getD i []) 1)]
 generalize f.getD i [] = l at hl
 match l,hl with
 | [a,b],_=>rfl
theorem a8A {z fz:List Qi} {port:Int} {x:Nat} (h:fz.length ≠ 2):Gc z fz port x = 4:=if_pos h
theorem a8z {z fz:List Qi} {port:Int} {x:Nat} (h:fz.length = 2) (h2:¬ (1 ≤ port ∧ port ≤ (z.length:Int))):Gc z fz port x = 1:=by rw [Gc,if_neg (fun k=>k h),if_pos h2]
theorem a8B {z fz:List Qi} {port:Int} {x:Nat} (h:fz.length = 2) (h2:1 ≤ port ∧ port ≤ (z.length:Int)):Gc z fz port x = if gv fz (x - 1) = gv z (port - 1).toNat then 0 else 40:=by rw [Gc,if_neg (fun k=>k h),if_neg (fun k=>k h2)]
theorem Py {fz:List Qi} {f:List (List Qi)} (h2:fz.length = 2) (hf:cB f 2 2):bB Tryz.prog 225 [cO fz f] (eH [eT (fxC f 2),aL .i64 0]):=by
 have hfl:=hf.1
 refine bB.intro Tryz.func225 rfl Tryz.ntmps225 rfl (fun cx=>(ts (rn rfl (fY (Ht rfl)) fun B1=>(rn rfl (eU (Ts:=[Is (.bool false),Is (.slice none 0 0),Is (.bool false),Is (.slice none 0 0),Is (.slice none 0 0),Is (.bool false),Is (.slice none 0 0),Is (.bool false),Is (.slice none 0 0),Is (.slice none 0 0),Is (.bool false),Is (.slice none 0 0),Is (.bool false),Is (.slice none 0 0),Is (.slice none 0 0),Is (.bool false),Is (.slice none 0 0),Is (.bool false),Is (.slice none 0 0),Is (.slice none 0 0)]) O_191 rfl (fun V=>aW zd (aW zd (aW zd (aW zd (aW zd (aW zd (aW zd (aW zd (aW zd (aW zd (aW zd (aW zd (aW zd (aW zd (aW zd (aW zd (aW zd (aW zd (aW zd (aW zd (aG)))))))))))))))))))))) fun B2=>?_))))
 refine ro rfl (cX (cV 0)) (eW (ts (rn rfl (eU (Ts:=[Is (.bool false),Is (.slice none 0 0),Is (.bool false),Is (.slice none 0 0),Is (.slice none 0 0),Is (.bool false),Is (.slice none 0 0),Is (.bool false),Is (.slice none 0 0),Is (.slice none 0 0),Is (.bool false),Is (.slice none 0 0),Is (.bool false),Is (.slice none 0 0),Is (.slice none 0 0),Is (.bool false),Is (.slice none 0 0),Is (.bool false),Is (.slice none 0 0),Is (.slice none 0 0)]) O_191 rfl (fun V=>aW zd (aW zd (aW zd (aW zd (aW zd (aW zd (aW zd (aW zd (aW zd (aW zd (aW zd (aW zd (aW zd (aW zd (aW zd (aW zd (aW zd (aW zd (aW zd (aW zd (aG)))))))))))))))))))))) fun B4=>?_)))
 refine eW (cU (ts (ro rfl (eG eP (Ht rfl) rfl) (ro rfl (fZ A_25 Z_25 (Ht rfl) (i:=0) rfl rfl) (ro rfl (dY U_25 (Ht rfl) aB) (ro rfl (jR (Ht rfl) (cV 2)) (eW (jQ (Ht rfl) (by simp [h2]) ?_))))))))
 refine cY (cU (ts (ro rfl (cZ (cV 0)) (eW (eY ?_)))))
 refine cP (fun (i : Nat) => i ≤ 2) (fun (i : Nat) => 2 - i) (fun (i : Nat) => [(1, cC B1 0), (2, cC B2 0), (4, cC B4 0), (11, NT .i64 i)]) (fun (i : Nat) => [box B1 28 [bC fz, dF f], box B2 191 (nbZ ++ nbZ ++ (nbZ ++ nbZ)), box B4 191 (fxC f i)]) 0 (Nat.zero_le _)
  (zS rfl) (aU (aD rfl) (aU (aD rfl) (aU (aD rfl) aY))) (fun i hi=>?_)
 refine ts (ro rfl (gV (Ht rfl) (cV 2)) (eW (cU (dX (Ht rfl) (fun hd=>?_) (fun hd=>?_)))))
 ·have hi2 : i < 2 := by simp only [decide_eq_true_eq] at hd; omega
  have hxl:=a3s f i
  refine cY (cU (eY (ts (rm rfl (ra rfl (eW (dQ (rm rfl (ro rfl (eG eD (Ht rfl) rfl) (ro rfl (fZ A_26 Z_26 (Ht rfl) (i:=0) rfl rfl) (rm rfl (ro rfl (dJ U_26 Z_25 (Ht rfl) (Ht rfl) rfl (eZ (eX (d:=[]) zo))) (ro rfl (dW A_25 Z_25 (Ht rfl)) (ro rfl (a4c U_190 (bH.to (Ht rfl) (kH (a8G hf hi2))) rfl) (ro rfl (dW Tryz.isAgg190 Z_190 (Ht rfl)) (ro rfl (kO U_191 Z_190 (Ht rfl) (Ht rfl) rfl zo rfl) ?_))))))))))))))))
  refine gJ Z_190 (Ht rfl) (Ht rfl) rfl (i:=2) rfl (by rw [hxl]; omega) rfl rfl ?_
  refine eW (bM (dQ (ro rfl (dK (Ht rfl) (cV 1) z6) (rm rfl (eW (gX (i + 1) hi2 zo (zS rfl) (aU (aD rfl) (aU (aD rfl) (aU (aD (a0Q f hi2)) aY)))))))))
 ·obtain rfl : i = 2 := by simp only [decide_eq_false_iff_not] at hd; omega
  refine gK rfl (ts (ro rfl (eK A_191 Z_191 (Ht rfl) (i:=2) rfl rfl rfl) (gJ Z_191 (Ht rfl) (Ht rfl) rfl (i:=1) rfl (aK rfl) rfl rfl (ro rfl (cX (cV 0)) (eW ?_)))))
  exact bN rfl (gQ A_191 Z_191 rfl (i:=1) rfl rfl) (fX rfl)
theorem Px {fz:List Qi} {f:List (List Qi)} (h2:fz.length ≠ 2):bB Tryz.prog 225 [cO fz f] (eH [eT (fxC [] 0),aL .i64 4]):=by
 refine bB.intro Tryz.func225 rfl Tryz.ntmps225 rfl (fun cx=>(ts (rn rfl (fY (Ht rfl)) fun B1=>(rn rfl (eU (Ts:=[Is (.bool false),Is (.slice none 0 0),Is (.bool false),Is (.slice none 0 0),Is (.slice none 0 0),Is (.bool false),Is (.slice none 0 0),Is (.bool false),Is (.slice none 0 0),Is (.slice none 0 0),Is (.bool false),Is (.slice none 0 0),Is (.bool false),Is (.slice none 0 0),Is (.slice none 0 0),Is (.bool false),Is (.slice none 0 0),Is (.bool false),Is (.slice none 0 0),Is (.slice none 0 0)]) O_191 rfl (fun V=>aW zd (aW zd (aW zd (aW zd (aW zd (aW zd (aW zd (aW zd (aW zd (aW zd (aW zd (aW zd (aW zd (aW zd (aW zd (aW zd (aW zd (aW zd (aW zd (aW zd (aG)))))))))))))))))))))) fun B2=>?_))))
 refine ro rfl (cX (cV 0)) (eW (ts (rn rfl (eU (Ts:=[Is (.bool false),Is (.slice none 0 0),Is (.bool false),Is (.slice none 0 0),Is (.slice none 0 0),Is (.bool false),Is (.slice none 0 0),Is (.bool false),Is (.slice none 0 0),Is (.slice none 0 0),Is (.bool false),Is (.slice none 0 0),Is (.bool false),Is (.slice none 0 0),Is (.slice none 0 0),Is (.bool false),Is (.slice none 0 0),Is (.bool false),Is (.slice none 0 0),Is (.slice none 0 0)]) O_191 rfl (fun V=>aW zd (aW zd (aW zd (aW zd (aW zd (aW zd (aW zd (aW zd (aW zd (aW zd (aW zd (aW zd (aW zd (aW zd (aW zd (aW zd (aW zd (aW zd (aW zd (aW zd (aG)))))))))))))))))))))) fun B4=>?_)))
 refine eW (cU (ts (ro rfl (eG eP (Ht rfl) rfl) (ro rfl (fZ A_25 Z_25 (Ht rfl) (i:=0) rfl rfl) (ro rfl (dY U_25 (Ht rfl) aB) (ro rfl (jR (Ht rfl) (cV 2)) (eW (rH (Ht rfl) (by simp; omega) ?_))))))))
 refine ts (ro rfl (eK A_191 Z_191 (Ht rfl) (i:=2) rfl rfl rfl) (gJ Z_191 (Ht rfl) (Ht rfl) rfl (i:=1) rfl (aK rfl) rfl rfl (ro rfl (cX (cV 4)) (eW ?_))))
 exact bN rfl (gQ A_191 Z_191 rfl (i:=1) rfl rfl) (fX rfl)
theorem Ww {z fz:List Qi} {s f:List (List Qi)} {port:Int} {x L:Nat} (h2:fz.length = 2) (hf:cB f 2 2) (hx:x = 1 ∨ x = 2) (hfz:bI z L) (hff:bI fz L) (hL:1 ≤ L) (hLb:L ≤ 1000000) (hl:z.length ≤ 1000):bB Tryz.prog 133 [cO z s,aL .i64 port,cO fz f,NT .i64 x] (eH [eT (fxC f 2),aL .i64 (Gc z fz port x)]):=by
 refine bB.intro Tryz.func133 rfl Tryz.ntmps133 rfl (fun cx=>(ts (rn rfl (fY (Ht rfl)) fun B4=>(rn rfl (fY (Ht rfl)) fun B6=>(rn rfl (eU (Ts:=[Is (.bool false),Is (.slice none 0 0),Is (.bool false),Is (.slice none 0 0),Is (.slice none 0 0),Is (.bool false),Is (.slice none 0 0),Is (.bool false),Is (.slice none 0 0),Is (.slice none 0 0),Is (.bool false),Is (.slice none 0 0),Is (.bool false),Is (.slice none 0 0),Is (.slice none 0 0),Is (.bool false),Is (.slice none 0 0),Is (.bool false),Is (.slice none 0 0),Is (.slice none 0 0)]) O_191 rfl (fun V=>aW zd (aW zd (aW zd (aW zd (aW zd (aW zd (aW zd (aW zd (aW zd (aW zd (aW zd (aW zd (aW zd (aW zd (aW zd (aW zd (aW zd (aW zd (aW zd (aW zd (aG)))))))))))))))))))))) fun B8=>?_)))))
 refine ro rfl (cX (cV 0)) (eW (ts (ro rfl (eK A_28 Z_28 (Ht rfl) (i:=1) rfl rfl rfl) (ro rfl (cJ Tryz.call225 (Py h2 hf) ⟨(Ht rfl),trivial⟩) (rm rfl (ro rfl (eQ (Ht rfl) rfl) (ro rfl (eQ (Ht rfl) rfl) (rn rfl (eU (Ts:=[Is (.bool false),Is (.slice none 0 0),Is (.bool false),Is (.slice none 0 0),Is (.slice none 0 0),Is (.bool false),Is (.slice none 0 0),Is (.bool false),Is (.slice none 0 0),Is (.slice none 0 0),Is (.bool false),Is (.slice none 0 0),Is (.bool false),Is (.slice none 0 0),Is (.slice none 0 0),Is (.bool false),Is (.slice none 0 0),Is (.bool false),Is (.slice none 0 0),Is (.slice none 0 0)]) O_191 rfl (fun V=>aW zd (aW zd (aW zd (aW zd (aW zd (aW zd (aW zd (aW zd (aW zd (aW zd (aW zd (aW zd (aW zd (aW zd (aW zd (aW zd (aW zd (aW zd (aW zd (aW zd (aG)))))))))))))))))))))) fun B10=>?_))))))))
 refine gJ Z_191 (Ht rfl) (Ht rfl) rfl (i:=3) rfl (aK rfl) rfl rfl (ra rfl (eW (cU (eY (ts (rm rfl (ro rfl (iM (Ht rfl) cW) (ra rfl (eW (jQ (Ht rfl) (by rfl) ?_))))))))))
 refine ts (ro rfl (eK A_28 Z_28 (Ht rfl) (i:=0) rfl rfl rfl) (rm rfl (ro rfl (cJ K_138 Gx ⟨(Ht rfl),(Ht rfl),trivial⟩) (ro rfl (eS (Ht rfl)) (ra rfl (eW (dX (Ht rfl) (fun hb=>?_) (fun hb=>?_))))))))
 ·have he := a8z (x := x) h2 (by simpa only [Bool.not_eq_true', decide_eq_false_iff_not] using hb : ¬ (1 ≤ port ∧ port ≤ (z.length : Int)))
  refine ts (ro rfl (eK A_191 Z_191 (Ht rfl) (i:=3) rfl rfl rfl) (gJ Z_191 (Ht rfl) (Ht rfl) rfl (i:=2) rfl (aK rfl) rfl rfl (ro rfl (cX (cV 1)) (eW (bN rfl (gQ A_191 Z_191 rfl (i:=2) rfl rfl) (fV (fX rfl) ?_))))))
  exact (aR he.symm)
 ·have hb2 : 1 ≤ port ∧ port ≤ (z.length : Int) := by simpa using hb
  have hd:=a8B (x:=x) h2 hb2
  haveI g1:aF (gv fz (x - 1)) L:=hff.get hL _
  haveI g2:aF (gv z (port - 1).toNat) L:=hfz.get hL _
  refine cU (fW (m:=12) (dp 6 rfl (eG eP (Ht rfl) rfl) (dq 29 0 rfl (fZ A_25 Z_25 (Ht rfl) (i:=1) rfl rfl) (dp 3 rfl (cZ (Ht rfl)) (dq 31 2 rfl (dU (Ht rfl) (cV 1) zo z6) (dE 30 1 32 3 rfl (dJ U_25 Z_60 (Ht rfl) (Ht rfl) rfl (eZ (eX (d:=Qi.zero) zo))) (dq 33 4 rfl (dW A_60 Z_60 (Ht rfl)) (dp 4 rfl (eG eP (Ht rfl) rfl) (dq 35 6 rfl (fZ A_25 Z_25 (Ht rfl) (i:=0) rfl rfl) ?_)))))))))
  refine dp 1 rfl (cZ (Ht rfl)) (dq 37 8 rfl (iN (Ht rfl) cW (r:=(((port - 1).toNat:Nat):Int)) ((xK (z:=port - 1) zo).trans zo)) ?_)
  refine dE 36 7 38 9 rfl (dJ U_25 Z_60 (Ht rfl) (Ht rfl) rfl (eZ (eX (d:=Qi.zero) zo))) (dq 39 10 rfl (dW A_60 Z_60 (Ht rfl)) (fK aS rfl (by kernel_rfl) (zF (zF (zF (aV (ro rfl (cJ Tryz.call100 (Pu (x:=gv fz (x - 1)) (y:=gv z (port - 1).toNat) (L:=L) (M:=L) zo zo) ⟨(Ht rfl),(Ht rfl),trivial⟩) (ro rfl (eS (Ht rfl)) (ra rfl (eW (dX (Ht rfl) (fun hc=>?_) (fun hc=>?_))))))))))))
  ·have he : Gc z fz port x = 40 := by rw [hd, if_neg (by simpa using hc)]
   refine ts (ro rfl (eK A_191 Z_191 (Ht rfl) (i:=3) rfl rfl rfl) (gJ Z_191 (Ht rfl) (Ht rfl) rfl (i:=2) rfl (aK rfl) rfl rfl (ro rfl (cX (cV 40)) (eW (bN rfl (gQ A_191 Z_191 rfl (i:=2) rfl rfl) (fV (fX rfl) ?_))))))
   exact (aR he.symm)
  ·have he : Gc z fz port x = 0 := by rw [hd, if_pos (by simpa using hc)]
   refine cY (bM (ts (ro rfl (eK A_191 Z_191 (Ht rfl) (i:=3) rfl rfl rfl) (gJ Z_191 (Ht rfl) (Ht rfl) rfl (i:=2) rfl (aK rfl) rfl rfl (ro rfl (cX (cV 0)) (eW (bN rfl (gQ A_191 Z_191 rfl (i:=2) rfl rfl) (fV (fX rfl) ?_))))))))
   exact (aR he.symm)
theorem Wv {z fz:List Qi} {s f:List (List Qi)} {port:Int} {x:Nat} (h2:fz.length ≠ 2):bB Tryz.prog 133 [cO z s,aL .i64 port,cO fz f,NT .i64 x] (eH [eT (fxC [] 0),aL .i64 4]):=by
 refine bB.intro Tryz.func133 rfl Tryz.ntmps133 rfl (fun cx=>(ts (rn rfl (fY (Ht rfl)) fun B4=>(rn rfl (fY (Ht rfl)) fun B6=>(rn rfl (eU (Ts:=[Is (.bool false),Is (.slice none 0 0),Is (.bool false),Is (.slice none 0 0),Is (.slice none 0 0),Is (.bool false),Is (.slice none 0 0),Is (.bool false),Is (.slice none 0 0),Is (.slice none 0 0),Is (.bool false),Is (.slice none 0 0),Is (.bool false),Is (.slice none 0 0),Is (.slice none 0 0),Is (.bool false),Is (.slice none 0 0),Is (.bool false),Is (.slice none 0 0),Is (.slice none 0 0)]) O_191 rfl (fun V=>aW zd (aW zd (aW zd (aW zd (aW zd (aW zd (aW zd (aW zd (aW zd (aW zd (aW zd (aW zd (aW zd (aW zd (aW zd (aW zd (aW zd (aW zd (aW zd (aW zd (aG)))))))))))))))))))))) fun B8=>?_)))))
 refine ro rfl (cX (cV 0)) (eW (ts (ro rfl (eK A_28 Z_28 (Ht rfl) (i:=1) rfl rfl rfl) (ro rfl (cJ Tryz.call225 (Px h2) ⟨(Ht rfl),trivial⟩) (rm rfl (ro rfl (eQ (Ht rfl) rfl) (ro rfl (eQ (Ht rfl) rfl) (rn rfl (eU (Ts:=[Is (.bool false),Is (.slice none 0 0),Is (.bool false),Is (.slice none 0 0),Is (.slice none 0 0),Is (.bool false),Is (.slice none 0 0),Is (.bool false),Is (.slice none 0 0),Is (.slice none 0 0),Is (.bool false),Is (.slice none 0 0),Is (.bool false),Is (.slice none 0 0),Is (.slice none 0 0),Is (.bool false),Is (.slice none 0 0),Is (.bool false),Is (.slice none 0 0),Is (.slice none 0 0)]) O_191 rfl (fun V=>aW zd (aW zd (aW zd (aW zd (aW zd (aW zd (aW zd (aW zd (aW zd (aW zd (aW zd (aW zd (aW zd (aW zd (aW zd (aW zd (aW zd (aW zd (aW zd (aW zd (aG)))))))))))))))))))))) fun B10=>?_))))))))
 refine gJ Z_191 (Ht rfl) (Ht rfl) rfl (i:=3) rfl (aK rfl) rfl rfl (ra rfl (eW (cU (eY (ts (rm rfl (ro rfl (iM (Ht rfl) cW) (ra rfl (eW (rH (Ht rfl) (by rfl) ?_))))))))))
 refine ts (ro rfl (eK A_191 Z_191 (Ht rfl) (i:=3) rfl rfl rfl) (rm rfl (gJ Z_191 (Ht rfl) (Ht rfl) rfl (i:=2) rfl (aK rfl) rfl rfl (ra rfl (eW ?_)))))
 exact bN rfl (gQ A_191 Z_191 rfl (i:=2) rfl rfl) (fX rfl)
theorem Wy {z:List Qi} {s:List (List Qi)} {p:Nat} {e:Qi} {L M:Nat} (hs:cB s z.length z.length) (hp:p < z.length) (hz:z.length ≤ 1000) (hf:bE s L) (he2:aF e M) (hL:1 ≤ L) (hLb:L + 3 * M + 2 ≤ 1000000) (he:e = Qi.zero):bB Tryz.prog 134 [cO z s,NT .i64 p,aI e] (eH [bC [],bC [],aL .i64 6]):=by
 have hsl:=hs.1
 have hspr:=hs.row hp
 haveI:=he2
 refine bB.intro Tryz.func134 rfl Tryz.ntmps134 rfl (fun cx=>(ts (rn rfl (fY (Ht rfl)) fun B3=>(rn rfl (fY (Ht rfl)) fun B5=>(ro rfl (cX cW) (ro rfl (cX cW) (ro rfl (cX (cV 0)) (eW (cU (cU (uA 60 5 (uA 60 5 (dQ (ro rfl (eG eD (Ht rfl) rfl) (ro rfl (fZ A_26 Z_26 (Ht rfl) (i:=0) rfl rfl) (ro rfl (dY U_26 (Ht rfl) (by rw [List.length_map,hsl])) ?_))))))))))))))))
 refine ro rfl (cZ (cV 0)) (eW (eY ?_))
 refine mF (fun (i : Nat) (vU : Value) (vV : Value) => i = 0) (fun (i : Nat) (vU : Value) (vV : Value) => z.length - i) (fun (i : Nat) (vU : Value) (vV : Value) => [(1, NT .i64 p), (3, cC B3 0), (5, cC B5 0), (6, Is vU), (7, Is vV), (8, NT .i64 0), (16, NT .i64 z.length), (17, NT .i64 i)]) (fun (i : Nat) (vU : Value) (vV : Value) => [box B3 28 [bC z, dF s], box B5 60 (nb e), bP 60 5 vU ((tab i (fun i => gm s i p / e)).map aI), bP 60 5 vV ((tab i (fun i => gm s p i / e)).map aI)]) 0 _ _ rfl
  (zS rfl) (aU (aD rfl) (aU (aD rfl) (aU (bD rfl) (aU (bD rfl) aY)))) (fun i vU vV hi=>?_)
 refine ts (ro rfl (gV (Ht rfl) (Ht rfl)) (eW (cU (dX (Ht rfl) (fun hd=>?_) (fun hd=>?_)))))
 ·have hin : i < z.length := by simp only [decide_eq_true_eq] at hd; omega
  have hsr:=hs.row hin
  haveI g1:aF (gm s i p) L:=hf.get hL _ _
  haveI g2:aF (gm s p i) L:=hf.get hL _ _
  refine cY (cU (eY (ts (rm rfl (ra rfl (eW (cU (Y.D_start (m:=16) [] (cQ (Ei:=[(3,_)]) rfl rfl (bQ (bJ rfl rfl) bX) rfl rfl (dZ rfl (eG eD (Ht rfl) rfl)) (cQ (Ei:=[(21,_)]) rfl rfl (bQ (bZ 0 rfl rfl) bX) rfl rfl (dZ rfl (fZ A_26 Z_26 (Ht rfl) (i:=0) rfl rfl)) (cQ (Ei:=[(9,_)]) rfl rfl (bQ (bJ rfl rfl) bX) rfl rfl (dZ rfl (cZ (Ht rfl))) (cQ (Ei:=[(22,_),(23,_)]) rfl rfl (bQ (bZ 1 rfl rfl) (bQ (bZ 2 rfl rfl) bX)) rfl rfl (dZ rfl (dJ U_26 Z_25 (Ht rfl) (Ht rfl) rfl (eZ (eX (d:=[]) zo)))) ?_))))))))))))
  refine cQ (Ei:=[(24,_)]) rfl rfl (bQ (bZ 3 rfl rfl) bX) rfl rfl (dZ rfl (dW A_25 Z_25 (Ht rfl))) (cQ (Ei:=[(1,_)]) rfl rfl (bQ (bJ rfl rfl) bX) rfl rfl (dZ rfl (cZ (Ht rfl))) (cQ (Ei:=[(25,_),(26,_)]) rfl rfl (bQ (bZ 4 rfl rfl) (bQ (bZ 5 rfl rfl) bX)) rfl rfl (dZ rfl (dJ U_25 Z_60 (Ht rfl) (Ht rfl) rfl (eZ (eX (d:=Qi.zero) zo)))) (cQ (Ei:=[(27,_)]) rfl rfl (bQ (bZ 6 rfl rfl) bX) rfl rfl (dZ rfl (dW A_60 Z_60 (Ht rfl))) ?_)))
  refine cQ (Ei:=[(28,_)]) rfl rfl (bQ (bZ 7 rfl rfl) bX) rfl rfl (dZ rfl (bT cD (Ht rfl))) (cQ (Ei:=[(5,_)]) rfl rfl (bQ (bJ rfl rfl) bX) rfl rfl (dZ rfl (eK A_60 Z_60 (Ht rfl) (i:=1) rfl rfl rfl)) (cQ (Ei:=[(29,_),(30,_)]) rfl rfl (bQ (bZ 8 rfl rfl) (bQ (bZ 9 rfl rfl) bX)) rfl rfl (dZ rfl (bF lV K_64 (tX (x:=gm s i p) (y:=e) (L:=L) (M:=M) zo) (Ht rfl) ⟨(Ht rfl),trivial⟩)) (cQ (Ei:=[(31,_)]) rfl rfl (bQ (bZ 10 rfl rfl) bX) rfl rfl (dZ rfl (cZ (Ht rfl))) ?_)))
  refine cQ (Ei:=[(20,_)]) rfl rfl (bQ (bZ 11 rfl rfl) bX) rfl rfl (dZ rfl (eQ (Ht rfl) rfl)) (cQ (Ei:=[(20,_)]) rfl rfl (bQ (bZ 11 rfl rfl) bX) rfl rfl (dZ rfl (eQ (Ht rfl) rfl)) (Y.D_newp (Ei:=[]) (fun bb=>box bb 60 (nb (gm s i p / e))) 15 rfl rfl rfl bX rfl rfl (by kernel_rfl) (eU (Ts:=[Is (.bool false),Is (.slice none 0 0),Is (.bool false),Is (.slice none 0 0),Is (.slice none 0 0)]) O_60 rfl (fun V=>aW zd (aW zd (aW zd (aW zd (aW zd (aG))))))) ?_))
  refine Y.D_putN (Ei:=[(32,_)]) 14 rfl rfl rfl rfl rfl rfl (bQ (bZ 12 rfl rfl) bX) (fun bb=>mO Z_60 (Ht rfl) (Ht rfl) rfl (i:=0) rfl (aK rfl) rfl rfl) (Y.D_done aS rfl (by kernel_rfl) rfl (by simp [Y.okP]) rfl rfl (bU (bU (bU (bU (bU (bU (bU (bU (bU (bU (bU (bU (bU (bU (Y.F_newp (fun B10=>Y.F_putN (Y.F_nil ?_))))))))))))))))))
  refine ra rfl (eW (cU (gG (i:=4) (tt:=10) rfl rfl jF (cM [0,1,2,3] rfl (by decide) (Y.D_start (m:=16) [] (cQ (Ei:=[(3,_)]) rfl rfl (bQ (bJ rfl rfl) bX) rfl rfl (dZ rfl (eG eD (Ht rfl) rfl)) (cQ (Ei:=[(35,_)]) rfl rfl (bQ (bZ 0 rfl rfl) bX) rfl rfl (dZ rfl (fZ A_26 Z_26 (Ht rfl) (i:=0) rfl rfl)) (cQ (Ei:=[(1,_)]) rfl rfl (bQ (bJ rfl rfl) bX) rfl rfl (dZ rfl (cZ (Ht rfl))) (cQ (Ei:=[(36,_),(37,_)]) rfl rfl (bQ (bZ 1 rfl rfl) (bQ (bZ 2 rfl rfl) bX)) rfl rfl (dZ rfl (dJ U_26 Z_25 (Ht rfl) (Ht rfl) rfl (eZ (eX (d:=[]) zo)))) ?_)))))))))
  refine cQ (Ei:=[(38,_)]) rfl rfl (bQ (bZ 3 rfl rfl) bX) rfl rfl (dZ rfl (dW A_25 Z_25 (Ht rfl))) (cQ (Ei:=[(9,_)]) rfl rfl (bQ (bJ rfl rfl) bX) rfl rfl (dZ rfl (cZ (Ht rfl))) (cQ (Ei:=[(39,_),(40,_)]) rfl rfl (bQ (bZ 4 rfl rfl) (bQ (bZ 5 rfl rfl) bX)) rfl rfl (dZ rfl (dJ U_25 Z_60 (Ht rfl) (Ht rfl) rfl (eZ (eX (d:=Qi.zero) zo)))) (cQ (Ei:=[(41,_)]) rfl rfl (bQ (bZ 6 rfl rfl) bX) rfl rfl (dZ rfl (dW A_60 Z_60 (Ht rfl))) ?_)))
  refine cQ (Ei:=[(42,_)]) rfl rfl (bQ (bZ 7 rfl rfl) bX) rfl rfl (dZ rfl (bT cD (Ht rfl))) (cQ (Ei:=[(5,_)]) rfl rfl (bQ (bJ rfl rfl) bX) rfl rfl (dZ rfl (eK A_60 Z_60 (Ht rfl) (i:=1) rfl rfl rfl)) (cQ (Ei:=[(43,_),(44,_)]) rfl rfl (bQ (bZ 8 rfl rfl) (bQ (bZ 9 rfl rfl) bX)) rfl rfl (dZ rfl (bF lV K_64 (tX (x:=gm s p i) (y:=e) (L:=L) (M:=M) zo) (Ht rfl) ⟨(Ht rfl),trivial⟩)) (cQ (Ei:=[(45,_)]) rfl rfl (bQ (bZ 10 rfl rfl) bX) rfl rfl (dZ rfl (cZ (Ht rfl))) ?_)))
  refine cQ (Ei:=[(34,_)]) rfl rfl (bQ (bZ 11 rfl rfl) bX) rfl rfl (dZ rfl (eQ (Ht rfl) rfl)) (cQ (Ei:=[(34,_)]) rfl rfl (bQ (bZ 11 rfl rfl) bX) rfl rfl (dZ rfl (eQ (Ht rfl) rfl)) (Y.D_newp (Ei:=[]) (fun bb=>box bb 60 (nb (gm s p i / e))) 15 rfl rfl rfl bX rfl rfl (by kernel_rfl) (eU (Ts:=[Is (.bool false),Is (.slice none 0 0),Is (.bool false),Is (.slice none 0 0),Is (.slice none 0 0)]) O_60 rfl (fun V=>aW zd (aW zd (aW zd (aW zd (aW zd (aG))))))) ?_))
  refine Y.D_putN (Ei:=[(46,_)]) 14 rfl rfl rfl rfl rfl rfl (bQ (bZ 12 rfl rfl) bX) (fun bb=>mO Z_60 (Ht rfl) (Ht rfl) rfl (i:=0) rfl (aK rfl) rfl rfl) (Y.D_done aS rfl (by kernel_rfl) rfl (by simp [Y.okP]) rfl rfl (bU (bU (bU (bU (bU (bU (bU (bU (bU (bU (bU (bU (bU (bU (Y.F_newp (fun B12=>Y.F_putN (Y.F_nil ?_))))))))))))))))))
  refine ra rfl (eW (cU (cU (gG (i:=4) (tt:=12) rfl rfl jF (cM [0,1,2,3] rfl (by decide) (dQ (rm rfl (ro rfl (iM (Ht rfl) cW) (rm rfl (fJ rfl rfl (fQ rfl rfl (Ht rfl) (fun h=>cZ (Ht rfl))) (fJ rfl rfl (fQ rfl rfl (Ht rfl) (fun h=>iM (fG rfl h) cW)) (ro rfl (kQ (Ht rfl) (fun h=>(fG rfl h))) (eW (rH (Ht rfl) (by simp [he]) ?_))))))))))))))
  refine ts (ro rfl (cX cW) (ro rfl (cX cW) (ro rfl (cX (cV 6)) (eW (wP rfl (fV (fX rfl) ?_) (fV (fX rfl) ?_) (fX rfl))))))
  ·exact iP
  ·exact iP
 ·exact absurd hd (by simp; omega)
theorem Wz {z:List Qi} {s:List (List Qi)} {p:Nat} {e:Qi} {L M:Nat} (hs:cB s z.length z.length) (hp:p < z.length) (hz:z.length ≤ 1000) (hf:bE s L) (he2:aF e M) (hL:1 ≤ L) (hLb:L + 3 * M + 2 ≤ 1000000) (he:e ≠ Qi.zero):bB Tryz.prog 134 [cO z s,NT .i64 p,aI e] (eH [bC (tab z.length (fun i=>gm s i p / e)),bC (tab z.length (fun i=>gm s p i / e)),aL .i64 0]):=by
 have hsl:=hs.1
 have hspr:=hs.row hp
 haveI:=he2
 refine bB.intro Tryz.func134 rfl Tryz.ntmps134 rfl (fun cx=>(ts (rn rfl (fY (Ht rfl)) fun B3=>(rn rfl (fY (Ht rfl)) fun B5=>(ro rfl (cX cW) (ro rfl (cX cW) (ro rfl (cX (cV 0)) (eW (cU (cU (uA 60 5 (uA 60 5 (dQ (ro rfl (eG eD (Ht rfl) rfl) (ro rfl (fZ A_26 Z_26 (Ht rfl) (i:=0) rfl rfl) (ro rfl (dY U_26 (Ht rfl) (by rw [List.length_map,hsl])) ?_))))))))))))))))
 refine ro rfl (cZ (cV 0)) (eW (eY ?_))
 refine mF (fun (i : Nat) (vU : Value) (vV : Value) => i ≤ z.length) (fun (i : Nat) (vU : Value) (vV : Value) => z.length - i) (fun (i : Nat) (vU : Value) (vV : Value) => [(1, NT .i64 p), (3, cC B3 0), (5, cC B5 0), (6, Is vU), (7, Is vV), (8, NT .i64 0), (16, NT .i64 z.length), (17, NT .i64 i)]) (fun (i : Nat) (vU : Value) (vV : Value) => [box B3 28 [bC z, dF s], box B5 60 (nb e), bP 60 5 vU ((tab i (fun i => gm s i p / e)).map aI), bP 60 5 vV ((tab i (fun i => gm s p i / e)).map aI)]) 0 _ _ (Nat.zero_le _)
  (zS rfl) (aU (aD rfl) (aU (aD rfl) (aU (bD rfl) (aU (bD rfl) aY)))) (fun i vU vV hi=>?_)
 refine ts (ro rfl (gV (Ht rfl) (Ht rfl)) (eW (cU (dX (Ht rfl) (fun hd=>?_) (fun hd=>?_)))))
 ·have hin : i < z.length := by simp only [decide_eq_true_eq] at hd; omega
  have hsr:=hs.row hin
  haveI g1:aF (gm s i p) L:=hf.get hL _ _
  haveI g2:aF (gm s p i) L:=hf.get hL _ _
  refine cY (cU (eY (ts (rm rfl (ra rfl (eW (cU (Y.D_start (m:=16) [] (cQ (Ei:=[(3,_)]) rfl rfl (bQ (bJ rfl rfl) bX) rfl rfl (dZ rfl (eG eD (Ht rfl) rfl)) (cQ (Ei:=[(21,_)]) rfl rfl (bQ (bZ 0 rfl rfl) bX) rfl rfl (dZ rfl (fZ A_26 Z_26 (Ht rfl) (i:=0) rfl rfl)) (cQ (Ei:=[(9,_)]) rfl rfl (bQ (bJ rfl rfl) bX) rfl rfl (dZ rfl (cZ (Ht rfl))) (cQ (Ei:=[(22,_),(23,_)]) rfl rfl (bQ (bZ 1 rfl rfl) (bQ (bZ 2 rfl rfl) bX)) rfl rfl (dZ rfl (dJ U_26 Z_25 (Ht rfl) (Ht rfl) rfl (eZ (eX (d:=[]) zo)))) ?_))))))))))))
  refine cQ (Ei:=[(24,_)]) rfl rfl (bQ (bZ 3 rfl rfl) bX) rfl rfl (dZ rfl (dW A_25 Z_25 (Ht rfl))) (cQ (Ei:=[(1,_)]) rfl rfl (bQ (bJ rfl rfl) bX) rfl rfl (dZ rfl (cZ (Ht rfl))) (cQ (Ei:=[(25,_),(26,_)]) rfl rfl (bQ (bZ 4 rfl rfl) (bQ (bZ 5 rfl rfl) bX)) rfl rfl (dZ rfl (dJ U_25 Z_60 (Ht rfl) (Ht rfl) rfl (eZ (eX (d:=Qi.zero) zo)))) (cQ (Ei:=[(27,_)]) rfl rfl (bQ (bZ 6 rfl rfl) bX) rfl rfl (dZ rfl (dW A_60 Z_60 (Ht rfl))) ?_)))
  refine cQ (Ei:=[(28,_)]) rfl rfl (bQ (bZ 7 rfl rfl) bX) rfl rfl (dZ rfl (bT cD (Ht rfl))) (cQ (Ei:=[(5,_)]) rfl rfl (bQ (bJ rfl rfl) bX) rfl rfl (dZ rfl (eK A_60 Z_60 (Ht rfl) (i:=1) rfl rfl rfl)) (cQ (Ei:=[(29,_),(30,_)]) rfl rfl (bQ (bZ 8 rfl rfl) (bQ (bZ 9 rfl rfl) bX)) rfl rfl (dZ rfl (bF lV K_64 (tX (x:=gm s i p) (y:=e) (L:=L) (M:=M) zo) (Ht rfl) ⟨(Ht rfl),trivial⟩)) (cQ (Ei:=[(31,_)]) rfl rfl (bQ (bZ 10 rfl rfl) bX) rfl rfl (dZ rfl (cZ (Ht rfl))) ?_)))
  refine cQ (Ei:=[(20,_)]) rfl rfl (bQ (bZ 11 rfl rfl) bX) rfl rfl (dZ rfl (eQ (Ht rfl) rfl)) (cQ (Ei:=[(20,_)]) rfl rfl (bQ (bZ 11 rfl rfl) bX) rfl rfl (dZ rfl (eQ (Ht rfl) rfl)) (Y.D_newp (Ei:=[]) (fun bb=>box bb 60 (nb (gm s i p / e))) 15 rfl rfl rfl bX rfl rfl (by kernel_rfl) (eU (Ts:=[Is (.bool false),Is (.slice none 0 0),Is (.bool false),Is (.slice none 0 0),Is (.slice none 0 0)]) O_60 rfl (fun V=>aW zd (aW zd (aW zd (aW zd (aW zd (aG))))))) ?_))
  refine Y.D_putN (Ei:=[(32,_)]) 14 rfl rfl rfl rfl rfl rfl (bQ (bZ 12 rfl rfl) bX) (fun bb=>mO Z_60 (Ht rfl) (Ht rfl) rfl (i:=0) rfl (aK rfl) rfl rfl) (Y.D_done aS rfl (by kernel_rfl) rfl (by simp [Y.okP]) rfl rfl (bU (bU (bU (bU (bU (bU (bU (bU (bU (bU (bU (bU (bU (bU (Y.F_newp (fun B10=>Y.F_putN (Y.F_nil ?_))))))))))))))))))
  refine ra rfl (eW (cU (gG (i:=4) (tt:=10) rfl rfl jF (cM [0,1,2,3] rfl (by decide) (Y.D_start (m:=16) [] (cQ (Ei:=[(3,_)]) rfl rfl (bQ (bJ rfl rfl) bX) rfl rfl (dZ rfl (eG eD (Ht rfl) rfl)) (cQ (Ei:=[(35,_)]) rfl rfl (bQ (bZ 0 rfl rfl) bX) rfl rfl (dZ rfl (fZ A_26 Z_26 (Ht rfl) (i:=0) rfl rfl)) (cQ (Ei:=[(1,_)]) rfl rfl (bQ (bJ rfl rfl) bX) rfl rfl (dZ rfl (cZ (Ht rfl))) (cQ (Ei:=[(36,_),(37,_)]) rfl rfl (bQ (bZ 1 rfl rfl) (bQ (bZ 2 rfl rfl) bX)) rfl rfl (dZ rfl (dJ U_26 Z_25 (Ht rfl) (Ht rfl) rfl (eZ (eX (d:=[]) zo)))) ?_)))))))))
  refine cQ (Ei:=[(38,_)]) rfl rfl (bQ (bZ 3 rfl rfl) bX) rfl rfl (dZ rfl (dW A_25 Z_25 (Ht rfl))) (cQ (Ei:=[(9,_)]) rfl rfl (bQ (bJ rfl rfl) bX) rfl rfl (dZ rfl (cZ (Ht rfl))) (cQ (Ei:=[(39,_),(40,_)]) rfl rfl (bQ (bZ 4 rfl rfl) (bQ (bZ 5 rfl rfl) bX)) rfl rfl (dZ rfl (dJ U_25 Z_60 (Ht rfl) (Ht rfl) rfl (eZ (eX (d:=Qi.zero) zo)))) (cQ (Ei:=[(41,_)]) rfl rfl (bQ (bZ 6 rfl rfl) bX) rfl rfl (dZ rfl (dW A_60 Z_60 (Ht rfl))) ?_)))
  refine cQ (Ei:=[(42,_)]) rfl rfl (bQ (bZ 7 rfl rfl) bX) rfl rfl (dZ rfl (bT cD (Ht rfl))) (cQ (Ei:=[(5,_)]) rfl rfl (bQ (bJ rfl rfl) bX) rfl rfl (dZ rfl (eK A_60 Z_60 (Ht rfl) (i:=1) rfl rfl rfl)) (cQ (Ei:=[(43,_),(44,_)]) rfl rfl (bQ (bZ 8 rfl rfl) (bQ (bZ 9 rfl rfl) bX)) rfl rfl (dZ rfl (bF lV K_64 (tX (x:=gm s p i) (y:=e) (L:=L) (M:=M) zo) (Ht rfl) ⟨(Ht rfl),trivial⟩)) (cQ (Ei:=[(45,_)]) rfl rfl (bQ (bZ 10 rfl rfl) bX) rfl rfl (dZ rfl (cZ (Ht rfl))) ?_)))
  refine cQ (Ei:=[(34,_)]) rfl rfl (bQ (bZ 11 rfl rfl) bX) rfl rfl (dZ rfl (eQ (Ht rfl) rfl)) (cQ (Ei:=[(34,_)]) rfl rfl (bQ (bZ 11 rfl rfl) bX) rfl rfl (dZ rfl (eQ (Ht rfl) rfl)) (Y.D_newp (Ei:=[]) (fun bb=>box bb 60 (nb (gm s p i / e))) 15 rfl rfl rfl bX rfl rfl (by kernel_rfl) (eU (Ts:=[Is (.bool false),Is (.slice none 0 0),Is (.bool false),Is (.slice none 0 0),Is (.slice none 0 0)]) O_60 rfl (fun V=>aW zd (aW zd (aW zd (aW zd (aW zd (aG))))))) ?_))
  refine Y.D_putN (Ei:=[(46,_)]) 14 rfl rfl rfl rfl rfl rfl (bQ (bZ 12 rfl rfl) bX) (fun bb=>mO Z_60 (Ht rfl) (Ht rfl) rfl (i:=0) rfl (aK rfl) rfl rfl) (Y.D_done aS rfl (by kernel_rfl) rfl (by simp [Y.okP]) rfl rfl (bU (bU (bU (bU (bU (bU (bU (bU (bU (bU (bU (bU (bU (bU (Y.F_newp (fun B12=>Y.F_putN (Y.F_nil ?_))))))))))))))))))
  refine ra rfl (eW (cU (cU (gG (i:=4) (tt:=12) rfl rfl jF (cM [0,1,2,3] rfl (by decide) (dQ (rm rfl (ro rfl (iM (Ht rfl) cW) (rm rfl (fJ rfl rfl (fQ rfl rfl (Ht rfl) (fun h=>cZ (Ht rfl))) (fJ rfl rfl (fQ rfl rfl (Ht rfl) (fun h=>iM (fG rfl h) cW)) (ro rfl (kQ (Ht rfl) (fun h=>(fG rfl h))) (eW (jQ (Ht rfl) (by simp [he]) ?_))))))))))))))
  refine cY (Y.D_startA (m:=7) [] 3 2 rfl rfl (cQ (Ei:=[(6,_)]) rfl rfl (bQ (bJ rfl rfl) bX) rfl rfl (dZ rfl (cZ (Ht rfl))) (cQ (Ei:=[(10,_)]) rfl rfl (bQ (bJ rfl rfl) bX) rfl rfl (dZ rfl (dW A_60 Z_60 (Ht rfl))) (cQ (Ei:=[(55,_)]) rfl rfl (bQ (bZ 1 rfl rfl) bX) rfl rfl (dZ rfl (eB (xs:=[.tmp 55]) U_25 Z_60 O_60 (cG (Ht rfl) cK) rfl rfl rfl)) (Y.D_app (Ei:=[(54,_),(56,_)]) rfl rfl rfl rfl (bQ (bZ 0 rfl rfl) (bQ (bZ 2 rfl rfl) bX)) rfl (De (inf:=Tryz.t60) lE jH rfl rfl rfl (Ht rfl) (Ht rfl) (by simp) (fun T hT=>by simp at hT; subst hT; exact El.ag rfl) (by show _ * 88 ≤ _; simp only [List.length_map,aE,List.length_cons,List.length_nil]; omega) (by simp only [List.length_map,aE,List.length_cons,List.length_nil]; omega)) ?_)))))
  refine cQ (Ei:=[(7,_)]) rfl rfl (bQ (bJ rfl rfl) bX) rfl rfl (dZ rfl (cZ (Ht rfl))) (cQ (Ei:=[(12,_)]) rfl rfl (bQ (bJ rfl rfl) bX) rfl rfl (dZ rfl (dW A_60 Z_60 (Ht rfl))) (cQ (Ei:=[(59,_)]) rfl rfl (bQ (bZ 5 rfl rfl) bX) rfl rfl (dZ rfl (eB (xs:=[.tmp 59]) U_25 Z_60 O_60 (cG (Ht rfl) cK) rfl rfl rfl)) (Y.D_done aS rfl (by kernel_rfl) rfl (by simp [Y.okP]) rfl rfl (bU (bU (bU (Y.F_app (fun v2=>bU (bU (bU (Y.F_nil ?_)))))))))))
  refine sD (inf:=Tryz.t60) lE jH rfl rfl rfl (Ht rfl) (Ht rfl) (i:=3) rfl (by simp) (fun T hT=>by simp at hT; subst hT; exact El.ag rfl) (by show _ * 88 ≤ _; simp only [List.length_map,aE,List.length_cons,List.length_nil]; omega) (by simp only [List.length_map,aE,List.length_cons,List.length_nil]; omega) rfl (fun v3=>?_)
  refine ra rfl (ra rfl (eW (bM (dQ (ro rfl (dK (Ht rfl) (cV 1) z6) (rm rfl (eW ?_)))))))
  refine cM [0,1,4,3] rfl (by decide) (gX (i + 1,v2,v3) hin (by dsimp only; omega) (zS rfl) (aU (aD rfl) (aU (aD rfl) (aU (bD (by rw [mD,List.map_append]; rfl)) (aU (bD (by rw [mD,List.map_append]; rfl)) aY)))))
 ·obtain rfl : i = z.length := by simp only [decide_eq_false_iff_not] at hd; omega
  refine gK rfl (cU (gG (i:=2) (tt:=6) rfl rfl fR (gG (i:=3) (tt:=7) rfl rfl fR (dQ (rm rfl (rm rfl (ra rfl (ra rfl (ro rfl (cX (cV 0)) (eW ?_))))))))))
  exact wP rfl (fX rfl) (fX rfl) (fX rfl)
theorem a63 {z:List Qi} {s:List (List Qi)} {p:Nat} {x:Qi} {F:Nat → Nat → Qi} (hs:cB s z.length z.length) (hp:p < z.length) (hz:z.length ≤ 1000):bB Tryz.prog 135 [cO z s,NT .i64 p,aI x,Gg Tryz.prog (Fin z.length × Fin z.length) (fun x=>[NT .i64 x.1.1,NT .i64 x.2.1]) (fun x=>aI (F x.1.1 x.2.1))] (cO (z.set p x) (tab z.length fun i=>tab z.length fun j=>F i j)):=by
 refine bB.intro Tryz.func135 rfl Tryz.ntmps135 rfl (fun cx=>(ts (rn rfl (fY (Ht rfl)) fun B4=>(rn rfl (fY (Ht rfl)) fun B6=>(rn rfl (eU (Ts:=[Is (.slice none 0 0),Is (.slice none 0 0)]) O_28 rfl (fun V=>aW zd (aW zd (aG)))) fun B8=>(eW (cU (fW (m:=5) (dp 4 rfl (eK A_28 Z_28 (Ht rfl) (i:=0) rfl rfl rfl) (dp 4 rfl (eK A_28 Z_28 (Ht rfl) (i:=0) rfl rfl rfl) (dq 11 1 rfl (cJ Tryz.call124 (a30 (z:=z) (s:=s) zo) ⟨(Ht rfl),cW,trivial⟩) ?_)))))))))))
 refine C.D_new (Ei:=[(10,_),(12,_)]) rfl rfl rfl (bV (bG 0 rfl rfl) (bV (bG 2 rfl rfl) bW)) (Hv Tryz.call125 (jM.pack (a34 (z:=z) (s:=s) (Q:=gN [] z.length) (m:=z.length) hs (fun x h=>wX h) (Sg _) zo zo)) ⟨(Ht rfl),(Ht rfl),trivial⟩) (C.D_new (Ei:=[]) rfl rfl rfl bW (eU (Ts:=[Is (.slice none 0 0),Is (.slice none 0 0)]) O_28 rfl (fun V=>aW zd (aW zd (aG)))) (fK aS rfl (by kernel_rfl) (aJ (aJ (aJ (C.F_new (fun B13=>C.F_new (fun B9=>aV ?_))))))))
 refine gJ Z_28 (Ht rfl) (Ht rfl) rfl (i:=4) rfl (aK rfl) rfl rfl (eW (cU (cM [3,0,1,2,4] rfl (by decide) ?_)))
 obtain ⟨⟨vZ,bS⟩,hQ⟩:=B13
 refine a5J (X:=[SA.emp,bP 60 5 (.slice (some ⟨vZ,0,none⟩) z.length z.length) ((oG z (gN [] z.length)).map aI),qC bS 25 60 5 (dO aI (rG s (gN [] z.length)))]) (Y:=[box B4 28 [bC z,dF s],box B6 60 (nb x),box B8 28 [Is (.slice none 0 0),Is (.slice none 0 0)],box B9 28 [Is (.slice (some ⟨vZ,0,none⟩) z.length z.length),Is (.slice (some ⟨bS,0,none⟩) z.length z.length)]]) (cM [1,3,4,5,6] rfl (by decide) (tC 0 rfl (bD (congrArg (List.map aI) a2E)) (dQ (ro rfl (eG eP (Ht rfl) rfl) (ro rfl (a48 A_25 Z_25 (Ht rfl) (i:=4) rfl rfl) ?_)))))
 refine rm rfl (ro rfl (eK A_60 Z_60 (Ht rfl) (i:=2) rfl rfl rfl) (ro rfl (dB U_25 Z_60 (Ht rfl) (Ht rfl) rfl (i:=0) rfl (by rw [List.length_map]; omega) rfl) ?_))
 refine mP Z_60 (Ht rfl) (Ht rfl) (El.ag rfl) (i:=0) rfl rfl (by rw [List.length_map]; omega) rfl ?_
 refine eW (ts (ro rfl (eG eP (Ht rfl) rfl) (ro rfl (fZ A_25 Z_25 (Ht rfl) (i:=1) rfl rfl) (ro rfl (dY U_25 (Ht rfl) aB) (rm rfl (ro rfl (cJ K_110 (uE (n:=z.length) (f:=F) zo) ⟨(Ht rfl),(Ht rfl),trivial⟩) (ro rfl (eG eD (Ht rfl) rfl) (lP Z_26 (Ht rfl) (Ht rfl) (i:=4) rfl (aK rfl) rfl (eW (cU (tC 0 rfl (bD (iR aI z p x)) (Wp 4 0 0 rfl rfl rfl (by decide) (dQ (ro rfl (eK A_28 Z_28 (Ht rfl) (i:=4) rfl rfl rfl) ?_))))))))))))))
 refine gJ Z_28 (Ht rfl) (Ht rfl) rfl (i:=3) rfl (aK rfl) rfl rfl (eW ?_)
 exact fU rfl (gQ A_28 Z_28 rfl (i:=3) rfl rfl)
end
section
open Go Go.RowKit
theorem a2h {n i:Nat} {f:Nat → Qi} (h:i < n):(tab n f).getD i Qi.zero = f i:=gF h
theorem Jj {s f:List (List Qi)} {p L:Nat} (hs:bE s L) (hf:bE f L) (hL:1 ≤ L):aF (oD s f p) (2 * L + 3):=by
 haveI:=hs.get hL p p; haveI:=hf.get hL 1 1; haveI:=lA
 exact (inferInstance:aF (Qi.ofInt 1 - gm f 1 1 * gm s p p) (1 + (L + L + 1) + 1)).le zo
theorem a0J {s f:List (List Qi)} {p i j L:Nat} (hs:bE s L) (hf:bE f L) (hL:1 ≤ L) (hd:oD s f p ≠ Qi.zero):aF (wW s f p i j) (20 * L + 20):=by
 haveI e:=Jj (p:=p) hs hf hL
 have q:∀ a b,aF (gm s a b / oD s f p) (7 * L + 11):=fun a b=>(oU (hs.get hL a b) e hd).le zo
 haveI q1:=q p p; haveI q2:=q i p; haveI q3:=q p j
 haveI:=hs.get hL i j; haveI:=hs.get hL p j; haveI:=hf.get hL 1 1; haveI:=hf.get hL 0 0; haveI:=hf.get hL 0 1; haveI:=hf.get hL 1 0
 rw [wW]
 split
 ·exact (inferInstance:aF (_ + _ * (_ * _)) (L + (L + (L + (7 * L + 11) + 1) + 1) + 1)).le zo
 ·split
  ·exact (inferInstance:aF (_ * _) ((7 * L + 11) + L + 1)).le zo
  ·split
   ·exact (inferInstance:aF (_ * _) (L + (7 * L + 11) + 1)).le zo
   ·exact (inferInstance:aF (_ + _ * (_ * _)) (L + ((7 * L + 11) + (L + L + 1) + 1) + 1)).le zo
theorem a0I {s f:List (List Qi)} {p n L:Nat} (hs:bE s L) (hf:bE f L) (hL:1 ≤ L) (hd:oD s f p ≠ Qi.zero):bE (a0H s f p n) (20 * L + 20):=bE.tab fun i j _ _=>a0J hs hf hL hd
theorem zL {n i:Nat} {f:Nat → Qi} (h:i < n):((tab n f).map aI)[i]? = some (aI (f i)):=by rw [List.getElem?_map,cH h]; rfl
theorem a05 {z:List Qi} {s f:List (List Qi)} {p i j L:Nat} (hs:cB s z.length z.length) (hp:p < z.length) (hi:i < z.length) (hj:j < z.length) (hz:z.length ≤ 1000) (hfs:bE s L) (hff:bE f L) (hL:1 ≤ L) (hLb:L ≤ 60000) (hd:oD s f p ≠ Qi.zero):bB Tryz.prog 136 [NT .i64 i,NT .i64 j,PT (NT .i64 p),PT (aI (gm f 0 0)),PT (aI (gm f 0 1)),PT (aI (gm f 1 0)),PT (bC (tab z.length fun j=>gm s p j / oD s f p)),PT (bC (tab z.length fun i=>gm s i p / oD s f p)),PT (cO z s),PT (aI (gm f 1 1))] (aI (wW s f p i j)):=by
 have hsl:=hs.1
 have hsi:=hs.row hi
 have hsp:=hs.row hp
 haveI e:=Jj (p:=p) hfs hff hL
 have q:∀ a b,aF (gm s a b / oD s f p) (7 * L + 11):=fun a b=>(oU (hfs.get hL a b) e hd).le zo
 have hU:∀ k,k < z.length → (tab z.length fun i=>gm s i p / oD s f p).getD k Qi.zero = gm s k p / oD s f p:=fun k h=>a2h h
 have hV:∀ k,k < z.length → (tab z.length fun j=>gm s p j / oD s f p).getD k Qi.zero = gm s p k / oD s f p:=fun k h=>a2h h
 haveI:=q p p; haveI:=q i p; haveI:=q p j
 haveI:=hfs.get hL i j; haveI:=hfs.get hL p j; haveI:=hff.get hL 1 1; haveI:=hff.get hL 0 0; haveI:=hff.get hL 0 1; haveI:=hff.get hL 1 0
 refine bB.intro Tryz.func136 rfl Tryz.ntmps136 rfl (fun cx=>(ts (rn rfl (eU (Ts:=[Is (.bool false),Is (.slice none 0 0),Is (.bool false),Is (.slice none 0 0),Is (.slice none 0 0)]) O_60 rfl (fun V=>aW zd (aW zd (aW zd (aW zd (aW zd (aG))))))) fun B12=>(eW (cU (eY (ts (rm rfl (ro rfl (dW A_3 Z_3 (Ht rfl)) (ro rfl (cL (Ht rfl) (Ht rfl)) (rm rfl (fJ rfl rfl (fQ rfl rfl (Ht rfl) (fun h=>cZ (Ht rfl))) ?_))))))))))))
 refine fJ rfl rfl (fQ rfl rfl (Ht rfl) (fun h=>dW A_3 Z_3 (Ht rfl))) (fJ rfl rfl (fQ rfl rfl (Ht rfl) (fun h=>cL (fG rfl h) (fG rfl h))) (ro rfl (fC (Ht rfl) (fun h=>(fG rfl h))) (ra rfl (eW (dX (Ht rfl) (fun hb1=>?_) (fun hb1=>?_))))))
 ·have h2 : i = p ∧ j = p := by simpa using hb1
  refine cU (fW (m:=12) (dp 3 rfl (dW A_60 Z_60 (Ht rfl)) (dq 22 0 rfl (bT cD (Ht rfl)) (dp 4 rfl (dW A_60 Z_60 (Ht rfl)) (dq 24 2 rfl (bT cD (Ht rfl)) (dp 5 rfl (dW A_60 Z_60 (Ht rfl)) (dq 26 4 rfl (bT cD (Ht rfl)) (dp 6 rfl (dW A_25 Z_25 (Ht rfl)) (dp 2 rfl (dW A_3 Z_3 (Ht rfl)) (dE 28 6 29 7 rfl (dJ U_25 Z_60 (Ht rfl) (Ht rfl) rfl (zL hp)) (dq 30 8 rfl (dW A_60 Z_60 (Ht rfl)) (dE 27 5 31 9 rfl (bF eM K_70 (lS (x:=gm f 1 0) (y:=gm s p p / oD s f p) (L:=L) (M:=(7 * L + 11)) zo) (Ht rfl) ⟨(Ht rfl),trivial⟩) ?_))))))))))))
  refine dE 25 3 32 10 rfl (bF eM K_70 (lS (x:=gm f 0 1) (y:=gm f 1 0 * (gm s p p / oD s f p)) (L:=L) (M:=L + (7 * L + 11) + 1) zo) (Ht rfl) ⟨(Ht rfl),trivial⟩) (fK aS rfl (by kernel_rfl) (zF (zF (zF (aV (ro rfl (bF lU K_71 (tW (x:=gm f 0 0) (y:=gm f 0 1 * (gm f 1 0 * (gm s p p / oD s f p))) (L:=L) (M:=L + (L + (7 * L + 11) + 1) + 1) zo) (Ht rfl) ⟨(Ht rfl),trivial⟩) (gJ Z_60 (Ht rfl) (Ht rfl) rfl (i:=0) rfl (aK rfl) rfl rfl ?_)))))))
  refine eW (fU rfl (fV (gQ A_60 Z_60 rfl (i:=0) rfl rfl) ?_))
  exact (jA (by rw [wW,if_pos h2]))
 ·have h2 : ¬ (i = p ∧ j = p) := by simpa using hb1
  refine ts (rm rfl (ro rfl (dW A_3 Z_3 (Ht rfl)) (ro rfl (cL (Ht rfl) (Ht rfl)) (ra rfl (eW (dX (Ht rfl) (fun hb2=>?_) (fun hb2=>?_)))))))
  ·have h3 : j = p := by simpa using hb2
   refine cU (fW (m:=6) (dp 7 rfl (dW A_25 Z_25 (Ht rfl)) (dp 0 rfl (cZ (Ht rfl)) (dE 39 0 40 1 rfl (dJ U_25 Z_60 (Ht rfl) (Ht rfl) rfl (zL hi)) (dq 41 2 rfl (dW A_60 Z_60 (Ht rfl)) (dq 42 3 rfl (bT cD (Ht rfl)) (dp 5 rfl (dW A_60 Z_60 (Ht rfl)) (fK aS rfl (by kernel_rfl) (zF (aJ (aJ (aV (ro rfl (bF eM K_70 (lS (x:=gm s i p / oD s f p) (y:=gm f 1 0) (L:=(7 * L + 11)) (M:=L) zo) (Ht rfl) ⟨(Ht rfl),trivial⟩) ?_)))))))))))))
   refine gJ Z_60 (Ht rfl) (Ht rfl) rfl (i:=0) rfl (aK rfl) rfl rfl (eW (fU rfl (fV (gQ A_60 Z_60 rfl (i:=0) rfl rfl) ?_)))
   exact (jA (by rw [wW,if_neg h2,if_pos h3]))
  ·have h3 : ¬ j = p := by simpa using hb2
   refine ts (rm rfl (ro rfl (dW A_3 Z_3 (Ht rfl)) (ro rfl (cL (Ht rfl) (Ht rfl)) (ra rfl (eW (dX (Ht rfl) (fun hb3=>?_) (fun hb3=>?_)))))))
   ·have h4 : i = p := by simpa using hb3
    refine cU (fW (m:=6) (dp 4 rfl (dW A_60 Z_60 (Ht rfl)) (dq 50 0 rfl (bT cD (Ht rfl)) (dp 6 rfl (dW A_25 Z_25 (Ht rfl)) (dp 1 rfl (cZ (Ht rfl)) (dE 52 2 53 3 rfl (dJ U_25 Z_60 (Ht rfl) (Ht rfl) rfl (zL hj)) (dq 54 4 rfl (dW A_60 Z_60 (Ht rfl)) (fK aS rfl (by kernel_rfl) (zF (aJ (aJ (aV (ro rfl (bF eM K_70 (lS (x:=gm f 0 1) (y:=gm s p j / oD s f p) (L:=L) (M:=(7 * L + 11)) zo) (Ht rfl) ⟨(Ht rfl),trivial⟩) ?_)))))))))))))
    refine gJ Z_60 (Ht rfl) (Ht rfl) rfl (i:=0) rfl (aK rfl) rfl rfl (eW (fU rfl (fV (gQ A_60 Z_60 rfl (i:=0) rfl rfl) ?_)))
    exact (jA (by rw [wW,if_neg h2,if_neg h3,if_pos h4]))
   ·have h4 : ¬ i = p := by simpa using hb3
    refine cY (bM (cU (fW (m:=26) (dp 8 rfl (gR eD (Ht rfl) rfl) (dq 57 0 rfl (dW A_26 Z_26 (Ht rfl)) (dp 0 rfl (cZ (Ht rfl)) (dE 58 1 59 2 rfl (dJ U_26 Z_25 (Ht rfl) (Ht rfl) rfl (eZ (eX (d:=[]) zo))) (dq 60 3 rfl (dW A_25 Z_25 (Ht rfl)) (dp 1 rfl (cZ (Ht rfl)) (dE 61 4 62 5 rfl (dJ U_25 Z_60 (Ht rfl) (Ht rfl) rfl (eZ (eX (d:=Qi.zero) zo))) (dq 63 6 rfl (dW A_60 Z_60 (Ht rfl)) (dq 64 7 rfl (bT cD (Ht rfl)) ?_))))))))))))
    refine dp 7 rfl (dW A_25 Z_25 (Ht rfl)) (dp 0 rfl (cZ (Ht rfl)) (dE 66 9 67 10 rfl (dJ U_25 Z_60 (Ht rfl) (Ht rfl) rfl (zL hi)) (dq 68 11 rfl (dW A_60 Z_60 (Ht rfl)) (dq 69 12 rfl (bT cD (Ht rfl)) (dp 9 rfl (dW A_60 Z_60 (Ht rfl)) (dq 71 14 rfl (bT cD (Ht rfl)) (dp 8 rfl (gR eD (Ht rfl) rfl) (dq 73 16 rfl (dW A_26 Z_26 (Ht rfl)) (dp 2 rfl (dW A_3 Z_3 (Ht rfl)) (dE 74 17 75 18 rfl (dJ U_26 Z_25 (Ht rfl) (Ht rfl) rfl (eZ (eX (d:=[]) zo))) ?_))))))))))
    refine dq 76 19 rfl (dW A_25 Z_25 (Ht rfl)) (dp 1 rfl (cZ (Ht rfl)) (dE 77 20 78 21 rfl (dJ U_25 Z_60 (Ht rfl) (Ht rfl) rfl (eZ (eX (d:=Qi.zero) zo))) (dq 79 22 rfl (dW A_60 Z_60 (Ht rfl)) (dE 72 15 80 23 rfl (bF eM K_70 (lS (x:=gm f 1 1) (y:=gm s p j) (L:=L) (M:=L) zo) (Ht rfl) ⟨(Ht rfl),trivial⟩) (dE 70 13 81 24 rfl (bF eM K_70 (lS (x:=gm s i p / oD s f p) (y:=gm f 1 1 * gm s p j) (L:=(7 * L + 11)) (M:=L + L + 1) zo) (Ht rfl) ⟨(Ht rfl),trivial⟩) ?_)))))
    refine fK aS rfl (by kernel_rfl) (zF (zF (zF (zF (zF (zF (aJ (aJ (aV (ro rfl (bF lU K_71 (tW (x:=gm s i j) (y:=gm s i p / oD s f p * (gm f 1 1 * gm s p j)) (L:=L) (M:=(7 * L + 11) + (L + L + 1) + 1) zo) (Ht rfl) ⟨(Ht rfl),trivial⟩) (gJ Z_60 (Ht rfl) (Ht rfl) rfl (i:=0) rfl (aK rfl) rfl rfl ?_)))))))))))
    refine eW (fU rfl (fV (gQ A_60 Z_60 rfl (i:=0) rfl rfl) ?_))
    exact (jA (by rw [wW,if_neg h2,if_neg h3,if_neg h4]))
theorem a04 {z fz:List Qi} {s f:List (List Qi)} {port:Int} {L:Nat} (hs:cB s z.length z.length) (hz1:1 ≤ z.length) (hz:z.length ≤ 1000) (hfs:bE s L) (hff:bE f L) (hfz:bI z L) (hfg:bI fz L) (hL:1 ≤ L) (hLb:L ≤ 60000) (h2:fz.length ≠ 2):bB Tryz.prog 36 [cO z s,aL .i64 port,cO fz f] (eH [cO (Qk z s fz f port) (Ua z s fz f port),aL .i64 (Ga z s fz f port)]):=by
 have hfx:Gc z fz port 2 = 4:=a8A h2
 have he:Ga z s fz f port = 4:=(a5f (by rw [hfx]; decide)).trans hfx
 have hne:Ga z s fz f port ≠ 0:=by rw [he]; decide
 refine bB.intro Tryz.func36 rfl Tryz.ntmps36 rfl (fun cx=>(ts (rn rfl (fY (Ht rfl)) fun B3=>(rn rfl (fY (Ht rfl)) fun B5=>(rn rfl (eU (Ts:=[Is (.slice none 0 0),Is (.slice none 0 0)]) O_28 rfl (fun V=>aW zd (aW zd (aG)))) fun B6=>(ro rfl (cX (cV 0)) (eW (ts (ro rfl (eK A_28 Z_28 (Ht rfl) (i:=0) rfl rfl rfl) (rm rfl (ro rfl (eK A_28 Z_28 (Ht rfl) (i:=1) rfl rfl rfl) (ro rfl (cJ Tryz.call133 (Wv (x:=2) h2) ⟨(Ht rfl),(Ht rfl),(Ht rfl),(cV 2),trivial⟩) ?_))))))))))))
 refine rm rfl (ro rfl (eQ (Ht rfl) rfl) (ro rfl (eQ (Ht rfl) rfl) (rn rfl (eU (Ts:=[Is (.bool false),Is (.slice none 0 0),Is (.bool false),Is (.slice none 0 0),Is (.slice none 0 0),Is (.bool false),Is (.slice none 0 0),Is (.bool false),Is (.slice none 0 0),Is (.slice none 0 0),Is (.bool false),Is (.slice none 0 0),Is (.bool false),Is (.slice none 0 0),Is (.slice none 0 0),Is (.bool false),Is (.slice none 0 0),Is (.bool false),Is (.slice none 0 0),Is (.slice none 0 0)]) O_191 rfl (fun V=>aW zd (aW zd (aW zd (aW zd (aW zd (aW zd (aW zd (aW zd (aW zd (aW zd (aW zd (aW zd (aW zd (aW zd (aW zd (aW zd (aW zd (aW zd (aW zd (aW zd (aG)))))))))))))))))))))) fun B8=>?_)))
 refine gJ Z_191 (Ht rfl) (Ht rfl) rfl (i:=3) rfl (aK rfl) rfl rfl (ra rfl (eW (cU (ts (rm rfl (ro rfl (iM (Ht rfl) cW) (eW (rH (Ht rfl) (by rfl) ?_))))))))
 refine ts (ro rfl (aM.imp (kY ) lC) (rm rfl (gJ Z_28 (Ht rfl) (Ht rfl) rfl (i:=2) rfl (aK rfl) rfl rfl (ra rfl (eW (bN rfl (fV (gQ A_28 Z_28 rfl (i:=2) rfl rfl) ?_) (fV (fX rfl) ?_)))))))
 ·exact (fun v V h=>by rw [Qk,Ua,iD,iD,if_neg hne,if_neg hne]; exact h)
 ·exact (aR he.symm)
theorem a06 {z fz:List Qi} {s f:List (List Qi)} {port:Int} {L:Nat} (hs:cB s z.length z.length) (hz1:1 ≤ z.length) (hz:z.length ≤ 1000) (hfs:bE s L) (hff:bE f L) (hfz:bI z L) (hfg:bI fz L) (hL:1 ≤ L) (hLb:L ≤ 60000) (h2:fz.length = 2) (hf:cB f 2 2):bB Tryz.prog 36 [cO z s,aL .i64 port,cO fz f] (eH [cO (Qk z s fz f port) (Ua z s fz f port),aL .i64 (Ga z s fz f port)]):=by
 have hsl:=hs.1
 haveI h1f:=lA
 refine bB.intro Tryz.func36 rfl Tryz.ntmps36 rfl (fun cx=>(ts (rn rfl (fY (Ht rfl)) fun B3=>(rn rfl (fY (Ht rfl)) fun B5=>(rn rfl (eU (Ts:=[Is (.slice none 0 0),Is (.slice none 0 0)]) O_28 rfl (fun V=>aW zd (aW zd (aG)))) fun B6=>(ro rfl (cX (cV 0)) (eW (ts (ro rfl (eK A_28 Z_28 (Ht rfl) (i:=0) rfl rfl rfl) (rm rfl (ro rfl (eK A_28 Z_28 (Ht rfl) (i:=1) rfl rfl rfl) (ro rfl (cJ Tryz.call133 (Ww (x:=2) (L:=L) h2 hf (by decide) hfz hfg hL zo hz) ⟨(Ht rfl),(Ht rfl),(Ht rfl),(cV 2),trivial⟩) ?_))))))))))))
 refine rm rfl (ro rfl (eQ (Ht rfl) rfl) (ro rfl (eQ (Ht rfl) rfl) (rn rfl (eU (Ts:=[Is (.bool false),Is (.slice none 0 0),Is (.bool false),Is (.slice none 0 0),Is (.slice none 0 0),Is (.bool false),Is (.slice none 0 0),Is (.bool false),Is (.slice none 0 0),Is (.slice none 0 0),Is (.bool false),Is (.slice none 0 0),Is (.bool false),Is (.slice none 0 0),Is (.slice none 0 0),Is (.bool false),Is (.slice none 0 0),Is (.bool false),Is (.slice none 0 0),Is (.slice none 0 0)]) O_191 rfl (fun V=>aW zd (aW zd (aW zd (aW zd (aW zd (aW zd (aW zd (aW zd (aW zd (aW zd (aW zd (aW zd (aW zd (aW zd (aW zd (aW zd (aW zd (aW zd (aW zd (aW zd (aG)))))))))))))))))))))) fun B8=>?_)))
 refine gJ Z_191 (Ht rfl) (Ht rfl) rfl (i:=3) rfl (aK rfl) rfl rfl (ra rfl (eW (cU (ts (rm rfl (ro rfl (iM (Ht rfl) cW) (eW (dX (Ht rfl) (fun hc=>?_) (fun hc=>?_)))))))))
 ·have hfx : Gc z fz port 2 ≠ 0 := by simpa using hc
  have he:Ga z s fz f port = Gc z fz port 2:=a5f hfx
  have hne:Ga z s fz f port ≠ 0:=by rw [he]; exact hfx
  refine ts (ro rfl (aM.imp (kY ) lC) (rm rfl (gJ Z_28 (Ht rfl) (Ht rfl) rfl (i:=2) rfl (aK rfl) rfl rfl (ra rfl (eW (bN rfl (fV (gQ A_28 Z_28 rfl (i:=2) rfl rfl) ?_) (fV (fX rfl) ?_)))))))
  ·exact (fun v V h=>by rw [Qk,Ua,iD,iD,if_neg hne,if_neg hne]; exact h)
  ·exact (aR he.symm)
 ·have hfx : Gc z fz port 2 = 0 := by simpa using hc
  obtain ⟨_,hb2,hzz⟩:=a80 hfx
  obtain ⟨p,hp⟩:∃ p,p = (port - 1).toNat:=⟨_,rfl⟩
  have hpe:port - 1 = (p:Int):=by omega
  have hpl:p < z.length:=by omega
  have hspr:=hs.row hpl
  haveI:=hfs.get hL p p; haveI:=hff.get hL 1 1; haveI:=hff.get hL 0 0; haveI:=hff.get hL 0 1; haveI:=hff.get hL 1 0
  refine cY (cU (Y.D_start (m:=23) [] (cQ (Ei:=[(8,_)]) rfl rfl (bQ (bJ rfl rfl) bX) rfl rfl (dZ rfl (kO U_191 Z_190 (Ht rfl) (cV 0) rfl (by decide) rfl)) (cQ (Ei:=[(28,_)]) rfl rfl (bQ (bZ 0 rfl rfl) bX) rfl rfl (dZ rfl (kO U_190 Z_60 (Ht rfl) (cV 0) rfl (by decide) rfl)) (cQ (Ei:=[(29,_)]) rfl rfl (bQ (bZ 1 rfl rfl) bX) rfl rfl (dZ rfl (eK A_60 Z_60 (Ht rfl) (i:=3) rfl rfl rfl)) ?_)))))
  refine cQ (Ei:=[(8,_)]) rfl rfl (bQ (bJ rfl rfl) bX) rfl rfl (dZ rfl (kO U_191 Z_190 (Ht rfl) (cV 0) rfl (by decide) rfl)) (cQ (Ei:=[(31,_)]) rfl rfl (bQ (bZ 3 rfl rfl) bX) rfl rfl (dZ rfl (kO U_190 Z_60 (Ht rfl) (cV 1) rfl (by decide) rfl)) (cQ (Ei:=[(32,_)]) rfl rfl (bQ (bZ 4 rfl rfl) bX) rfl rfl (dZ rfl (eK A_60 Z_60 (Ht rfl) (i:=3) rfl rfl rfl)) (cQ (Ei:=[(8,_)]) rfl rfl (bQ (bJ rfl rfl) bX) rfl rfl (dZ rfl (kO U_191 Z_190 (Ht rfl) (cV 1) rfl (by decide) rfl)) ?_)))
  refine cQ (Ei:=[(34,_)]) rfl rfl (bQ (bZ 6 rfl rfl) bX) rfl rfl (dZ rfl (kO U_190 Z_60 (Ht rfl) (cV 0) rfl (by decide) rfl)) (cQ (Ei:=[(35,_)]) rfl rfl (bQ (bZ 7 rfl rfl) bX) rfl rfl (dZ rfl (eK A_60 Z_60 (Ht rfl) (i:=3) rfl rfl rfl)) (cQ (Ei:=[(8,_)]) rfl rfl (bQ (bJ rfl rfl) bX) rfl rfl (dZ rfl (kO U_191 Z_190 (Ht rfl) (cV 1) rfl (by decide) rfl)) (cQ (Ei:=[(37,_)]) rfl rfl (bQ (bZ 9 rfl rfl) bX) rfl rfl (dZ rfl (kO U_190 Z_60 (Ht rfl) (cV 1) rfl (by decide) rfl)) ?_)))
  refine cQ (Ei:=[(38,_)]) rfl rfl (bQ (bZ 10 rfl rfl) bX) rfl rfl (dZ rfl (eK A_60 Z_60 (Ht rfl) (i:=3) rfl rfl rfl)) (cQ (Ei:=[(1,_)]) rfl rfl (bQ (bJ rfl rfl) bX) rfl rfl (dZ rfl (cZ (Ht rfl))) (cQ (Ei:=[(40,_)]) rfl rfl (bQ (bZ 12 rfl rfl) bX) rfl rfl (dZ rfl (iN (Ht rfl) cW (r:=((p:Nat):Int)) ((xK (z:=port - 1) zo).trans zo))) ?_))
  refine Y.D_newp (Ei:=[]) (fun bb=>box bb 60 (nb (gm f 0 0))) 19 rfl rfl rfl bX rfl rfl (by kernel_rfl) (eU (Ts:=[Is (.bool false),Is (.slice none 0 0),Is (.bool false),Is (.slice none 0 0),Is (.slice none 0 0)]) O_60 rfl (fun V=>aW zd (aW zd (aW zd (aW zd (aW zd (aG))))))) (Y.D_newp (Ei:=[]) (fun bb=>box bb 60 (nb (gm f 0 1))) 20 rfl rfl rfl bX rfl rfl (by kernel_rfl) (eU (Ts:=[Is (.bool false),Is (.slice none 0 0),Is (.bool false),Is (.slice none 0 0),Is (.slice none 0 0)]) O_60 rfl (fun V=>aW zd (aW zd (aW zd (aW zd (aW zd (aG))))))) ?_)
  refine Y.D_newp (Ei:=[]) (fun bb=>box bb 60 (nb (gm f 1 0))) 21 rfl rfl rfl bX rfl rfl (by kernel_rfl) (eU (Ts:=[Is (.bool false),Is (.slice none 0 0),Is (.bool false),Is (.slice none 0 0),Is (.slice none 0 0)]) O_60 rfl (fun V=>aW zd (aW zd (aW zd (aW zd (aW zd (aG))))))) (Y.D_newp (Ei:=[]) (fun bb=>box bb 60 (nb (gm f 1 1))) 22 rfl rfl rfl bX rfl rfl (by kernel_rfl) (eU (Ts:=[Is (.bool false),Is (.slice none 0 0),Is (.bool false),Is (.slice none 0 0),Is (.slice none 0 0)]) O_60 rfl (fun V=>aW zd (aW zd (aW zd (aW zd (aW zd (aG))))))) ?_)
  refine Y.D_new (Ei:=[]) rfl rfl rfl bX rfl rfl (eU (Ts:=[Is (.int .i64 0)]) O_3 rfl (fun V=>aW zd (aG))) (Y.D_putN (Ei:=[(30,_)]) 14 rfl rfl rfl rfl rfl rfl (bQ (bZ 2 rfl rfl) bX) (fun bb=>mO Z_60 (Ht rfl) (Ht rfl) rfl (i:=0) rfl (aK rfl) rfl rfl) (Y.D_putN (Ei:=[(33,_)]) 15 rfl rfl rfl rfl rfl rfl (bQ (bZ 5 rfl rfl) bX) (fun bb=>mO Z_60 (Ht rfl) (Ht rfl) rfl (i:=0) rfl (aK rfl) rfl rfl) (Y.D_putN (Ei:=[(36,_)]) 16 rfl rfl rfl rfl rfl rfl (bQ (bZ 8 rfl rfl) bX) (fun bb=>mO Z_60 (Ht rfl) (Ht rfl) rfl (i:=0) rfl (aK rfl) rfl rfl) ?_)))
  refine Y.D_putN (Ei:=[(39,_)]) 17 rfl rfl rfl rfl rfl rfl (bQ (bZ 11 rfl rfl) bX) (fun bb=>mO Z_60 (Ht rfl) (Ht rfl) rfl (i:=0) rfl (aK rfl) rfl rfl) (Y.D_done aS rfl (by kernel_rfl) rfl (by simp [Y.okP]) rfl rfl (bU (bU (bU (bU (bU (bU (bU (bU (bU (bU (bU (bU (bU (bU (Y.F_newp (fun B10=>Y.F_newp (fun B11=>Y.F_newp (fun B12=>Y.F_newp (fun B13=>Y.F_new (fun B14=>Y.F_putN (Y.F_putN (Y.F_putN (Y.F_putN (Y.F_nil ?_)))))))))))))))))))))))))
  refine lP Z_3 (Ht rfl) (Ht rfl) (i:=8) rfl (aK rfl) rfl (eW (cU (gG (i:=4) (tt:=10) rfl rfl jF (gG (i:=5) (tt:=11) rfl rfl jF (gG (i:=6) (tt:=12) rfl rfl jF (gG (i:=7) (tt:=13) rfl rfl jF (gG (i:=8) (tt:=14) rfl rfl jE (gG (i:=0) (tt:=3) rfl rfl jF (cM [1,2] rfl (by decide) ?_)))))))))
  have hDf:=Jj (p:=p) hfs hff hL
  by_cases hD:oD s f p = Qi.zero
  ·refine Y.D_start (m := 25) [] (cQ (Ei := [(3, _)]) rfl rfl (bQ (bJ rfl rfl) bX) rfl rfl (dZ rfl (dW A_28 Z_28 (Ht rfl))) (cQ (Ei := [(14, _)]) rfl rfl (bQ (bJ rfl rfl) bX) rfl rfl (dZ rfl (dW A_3 Z_3 (Ht rfl))) (cQ (Ei := []) rfl rfl bX rfl rfl (dZ rfl (cJ K_118 (tH (n := 1) (by decide) (by decide)) ⟨(cV 1), trivial⟩)) (cQ (Ei := [(45, _)]) rfl rfl (bQ (bZ 2 rfl rfl) bX) rfl rfl (dZ rfl (bT cD (Ht rfl))) ?_))))
   refine cQ (Ei:=[(13,_)]) rfl rfl (bQ (bJ rfl rfl) bX) rfl rfl (dZ rfl (dW A_60 Z_60 (Ht rfl))) (cQ (Ei:=[(47,_)]) rfl rfl (bQ (bZ 4 rfl rfl) bX) rfl rfl (dZ rfl (bT cD (Ht rfl))) (cQ (Ei:=[(3,_)]) rfl rfl (bQ (bJ rfl rfl) bX) rfl rfl (dZ rfl (gR eD (Ht rfl) rfl)) (cQ (Ei:=[(49,_)]) rfl rfl (bQ (bZ 6 rfl rfl) bX) rfl rfl (dZ rfl (dW A_26 Z_26 (Ht rfl))) (cQ (Ei:=[(14,_)]) rfl rfl (bQ (bJ rfl rfl) bX) rfl rfl (dZ rfl (dW A_3 Z_3 (Ht rfl))) ?_))))
   refine cQ (Ei:=[(50,_),(51,_)]) rfl rfl (bQ (bZ 7 rfl rfl) (bQ (bZ 8 rfl rfl) bX)) rfl rfl (dZ rfl (dJ U_26 Z_25 (Ht rfl) (Ht rfl) rfl (eZ (eX (d:=[]) zo)))) (cQ (Ei:=[(52,_)]) rfl rfl (bQ (bZ 9 rfl rfl) bX) rfl rfl (dZ rfl (dW A_25 Z_25 (Ht rfl))) (cQ (Ei:=[(14,_)]) rfl rfl (bQ (bJ rfl rfl) bX) rfl rfl (dZ rfl (dW A_3 Z_3 (Ht rfl))) (cQ (Ei:=[(53,_),(54,_)]) rfl rfl (bQ (bZ 10 rfl rfl) (bQ (bZ 11 rfl rfl) bX)) rfl rfl (dZ rfl (dJ U_25 Z_60 (Ht rfl) (Ht rfl) rfl (eZ (eX (d:=Qi.zero) zo)))) ?_)))
   refine cQ (Ei:=[(55,_)]) rfl rfl (bQ (bZ 12 rfl rfl) bX) rfl rfl (dZ rfl (dW A_60 Z_60 (Ht rfl))) (cQ (Ei:=[(48,_),(56,_)]) rfl rfl (bQ (bZ 5 rfl rfl) (bQ (bZ 13 rfl rfl) bX)) rfl rfl (dZ rfl (bF eM K_70 (lS (x:=gm f 1 1) (y:=gm s p p) (L:=L) (M:=L) zo) (Ht rfl) ⟨(Ht rfl),trivial⟩)) (cQ (Ei:=[(46,_),(57,_)]) rfl rfl (bQ (bZ 3 rfl rfl) (bQ (bZ 14 rfl rfl) bX)) rfl rfl (dZ rfl (bF lW K_69 (wI (x:=Qi.ofInt 1) (y:=gm f 1 1 * gm s p p) (L:=1) (M:=L + L + 1) zo) (Ht rfl) ⟨(Ht rfl),trivial⟩)) ?_))
   refine cQ (Ei:=[(43,_),(44,_),(58,_)]) rfl rfl (bQ (bZ 0 rfl rfl) (bQ (bZ 1 rfl rfl) (bQ (bZ 15 rfl rfl) bX))) rfl rfl (dZ rfl (cJ Tryz.call134 (Wy (z:=z) (s:=s) (p:=p) (e:=oD s f p) (L:=L) (M:=2 * L + 3) hs hpl hz hfs hDf hL zo hD) ⟨(Ht rfl),(Ht rfl),(Ht rfl),trivial⟩)) (cQ (Ei:=[(59,_)]) rfl rfl (bQ (bZ 16 rfl rfl) bX) rfl rfl (dZ rfl (cZ (Ht rfl))) (cQ (Ei:=[(42,_)]) rfl rfl (bQ (bZ 17 rfl rfl) bX) rfl rfl (dZ rfl (eQ (Ht rfl) rfl)) ?_))
   refine cQ (Ei:=[(42,_)]) rfl rfl (bQ (bZ 17 rfl rfl) bX) rfl rfl (dZ rfl (eQ (Ht rfl) rfl)) (cQ (Ei:=[(42,_)]) rfl rfl (bQ (bZ 17 rfl rfl) bX) rfl rfl (dZ rfl (eQ (Ht rfl) rfl)) (Y.D_newp (Ei:=[]) (fun bb=>box bb 25 [bC []]) 23 rfl rfl rfl bX rfl rfl (by kernel_rfl) (eU (Ts:=[Is (.slice none 0 0)]) O_25 rfl (fun V=>aW zd (aG))) (Y.D_newp (Ei:=[]) (fun bb=>box bb 25 [bC []]) 24 rfl rfl rfl bX rfl rfl (by kernel_rfl) (eU (Ts:=[Is (.slice none 0 0)]) O_25 rfl (fun V=>aW zd (aG))) ?_)))
   refine Y.D_putN (Ei:=[(60,_)]) 21 rfl rfl rfl rfl rfl rfl (bQ (bZ 18 rfl rfl) bX) (fun bb=>Gq Z_25 (Ht rfl) (Ht rfl) (i:=0) rfl (aK rfl) rfl rfl) (Y.D_putN (Ei:=[(61,_)]) 22 rfl rfl rfl rfl rfl rfl (bQ (bZ 19 rfl rfl) bX) (fun bb=>Gq Z_25 (Ht rfl) (Ht rfl) (i:=0) rfl (aK rfl) rfl rfl) (Y.D_done aS rfl (by kernel_rfl) rfl (by simp [Y.okP]) rfl rfl (bU (bU (bU (bU (bU (bU (bU (bU (bU (bU (bU (bU (bU (bU (bU (bU (bU (bU (bU (bU (bU (Y.F_newp (fun B15=>Y.F_newp (fun B16=>Y.F_putN (Y.F_putN (Y.F_nil ?_))))))))))))))))))))))))))))
   refine ra rfl (eW (cU (cU ?_)))
   have he:Ga z s fz f port = 6:=a0G hfx (by rw [← hp]; exact hD)
   have hne:Ga z s fz f port ≠ 0:=by rw [he]; decide
   refine dQ (rm rfl (ro rfl (iM (Ht rfl) cW) (eW (rH (Ht rfl) (by rfl) ?_))))
   refine ts (ro rfl (aM.imp (kY ) lC) (rm rfl (gJ Z_28 (Ht rfl) (Ht rfl) rfl (i:=1) rfl (aK rfl) rfl rfl (ra rfl (eW (bN rfl (fV (gQ A_28 Z_28 rfl (i:=1) rfl rfl) ?_) (fV (fX rfl) ?_)))))))
   ·exact (fun v V h=>by rw [Qk,Ua,iD,iD,if_neg hne,if_neg hne]; exact h)
   ·exact (aR he.symm)
  ·refine Y.D_start (m := 25) [] (cQ (Ei := [(3, _)]) rfl rfl (bQ (bJ rfl rfl) bX) rfl rfl (dZ rfl (dW A_28 Z_28 (Ht rfl))) (cQ (Ei := [(14, _)]) rfl rfl (bQ (bJ rfl rfl) bX) rfl rfl (dZ rfl (dW A_3 Z_3 (Ht rfl))) (cQ (Ei := []) rfl rfl bX rfl rfl (dZ rfl (cJ K_118 (tH (n := 1) (by decide) (by decide)) ⟨(cV 1), trivial⟩)) (cQ (Ei := [(45, _)]) rfl rfl (bQ (bZ 2 rfl rfl) bX) rfl rfl (dZ rfl (bT cD (Ht rfl))) ?_))))
   refine cQ (Ei:=[(13,_)]) rfl rfl (bQ (bJ rfl rfl) bX) rfl rfl (dZ rfl (dW A_60 Z_60 (Ht rfl))) (cQ (Ei:=[(47,_)]) rfl rfl (bQ (bZ 4 rfl rfl) bX) rfl rfl (dZ rfl (bT cD (Ht rfl))) (cQ (Ei:=[(3,_)]) rfl rfl (bQ (bJ rfl rfl) bX) rfl rfl (dZ rfl (gR eD (Ht rfl) rfl)) (cQ (Ei:=[(49,_)]) rfl rfl (bQ (bZ 6 rfl rfl) bX) rfl rfl (dZ rfl (dW A_26 Z_26 (Ht rfl))) (cQ (Ei:=[(14,_)]) rfl rfl (bQ (bJ rfl rfl) bX) rfl rfl (dZ rfl (dW A_3 Z_3 (Ht rfl))) ?_))))
   refine cQ (Ei:=[(50,_),(51,_)]) rfl rfl (bQ (bZ 7 rfl rfl) (bQ (bZ 8 rfl rfl) bX)) rfl rfl (dZ rfl (dJ U_26 Z_25 (Ht rfl) (Ht rfl) rfl (eZ (eX (d:=[]) zo)))) (cQ (Ei:=[(52,_)]) rfl rfl (bQ (bZ 9 rfl rfl) bX) rfl rfl (dZ rfl (dW A_25 Z_25 (Ht rfl))) (cQ (Ei:=[(14,_)]) rfl rfl (bQ (bJ rfl rfl) bX) rfl rfl (dZ rfl (dW A_3 Z_3 (Ht rfl))) (cQ (Ei:=[(53,_),(54,_)]) rfl rfl (bQ (bZ 10 rfl rfl) (bQ (bZ 11 rfl rfl) bX)) rfl rfl (dZ rfl (dJ U_25 Z_60 (Ht rfl) (Ht rfl) rfl (eZ (eX (d:=Qi.zero) zo)))) ?_)))
   refine cQ (Ei:=[(55,_)]) rfl rfl (bQ (bZ 12 rfl rfl) bX) rfl rfl (dZ rfl (dW A_60 Z_60 (Ht rfl))) (cQ (Ei:=[(48,_),(56,_)]) rfl rfl (bQ (bZ 5 rfl rfl) (bQ (bZ 13 rfl rfl) bX)) rfl rfl (dZ rfl (bF eM K_70 (lS (x:=gm f 1 1) (y:=gm s p p) (L:=L) (M:=L) zo) (Ht rfl) ⟨(Ht rfl),trivial⟩)) (cQ (Ei:=[(46,_),(57,_)]) rfl rfl (bQ (bZ 3 rfl rfl) (bQ (bZ 14 rfl rfl) bX)) rfl rfl (dZ rfl (bF lW K_69 (wI (x:=Qi.ofInt 1) (y:=gm f 1 1 * gm s p p) (L:=1) (M:=L + L + 1) zo) (Ht rfl) ⟨(Ht rfl),trivial⟩)) ?_))
   refine cQ (Ei:=[(43,_),(44,_),(58,_)]) rfl rfl (bQ (bZ 0 rfl rfl) (bQ (bZ 1 rfl rfl) (bQ (bZ 15 rfl rfl) bX))) rfl rfl (dZ rfl (cJ Tryz.call134 (Wz (z:=z) (s:=s) (p:=p) (e:=oD s f p) (L:=L) (M:=2 * L + 3) hs hpl hz hfs hDf hL zo hD) ⟨(Ht rfl),(Ht rfl),(Ht rfl),trivial⟩)) (cQ (Ei:=[(59,_)]) rfl rfl (bQ (bZ 16 rfl rfl) bX) rfl rfl (dZ rfl (cZ (Ht rfl))) (cQ (Ei:=[(42,_)]) rfl rfl (bQ (bZ 17 rfl rfl) bX) rfl rfl (dZ rfl (eQ (Ht rfl) rfl)) ?_))
   refine cQ (Ei:=[(42,_)]) rfl rfl (bQ (bZ 17 rfl rfl) bX) rfl rfl (dZ rfl (eQ (Ht rfl) rfl)) (cQ (Ei:=[(42,_)]) rfl rfl (bQ (bZ 17 rfl rfl) bX) rfl rfl (dZ rfl (eQ (Ht rfl) rfl)) (Y.D_newp (Ei:=[]) (fun bb=>box bb 25 [bC (tab z.length fun i=>gm s i p / oD s f p)]) 23 rfl rfl rfl bX rfl rfl (by kernel_rfl) (eU (Ts:=[Is (.slice none 0 0)]) O_25 rfl (fun V=>aW zd (aG))) (Y.D_newp (Ei:=[]) (fun bb=>box bb 25 [bC (tab z.length fun j=>gm s p j / oD s f p)]) 24 rfl rfl rfl bX rfl rfl (by kernel_rfl) (eU (Ts:=[Is (.slice none 0 0)]) O_25 rfl (fun V=>aW zd (aG))) ?_)))
   refine Y.D_putN (Ei:=[(60,_)]) 21 rfl rfl rfl rfl rfl rfl (bQ (bZ 18 rfl rfl) bX) (fun bb=>Gq Z_25 (Ht rfl) (Ht rfl) (i:=0) rfl (aK rfl) rfl rfl) (Y.D_putN (Ei:=[(61,_)]) 22 rfl rfl rfl rfl rfl rfl (bQ (bZ 19 rfl rfl) bX) (fun bb=>Gq Z_25 (Ht rfl) (Ht rfl) (i:=0) rfl (aK rfl) rfl rfl) (Y.D_done aS rfl (by kernel_rfl) rfl (by simp [Y.okP]) rfl rfl (bU (bU (bU (bU (bU (bU (bU (bU (bU (bU (bU (bU (bU (bU (bU (bU (bU (bU (bU (bU (bU (Y.F_newp (fun B15=>Y.F_newp (fun B16=>Y.F_putN (Y.F_putN (Y.F_nil ?_))))))))))))))))))))))))))))
   refine ra rfl (eW (cU (cU ?_)))
   have he:Ga z s fz f port = 0:=a6c hfx (by rw [← hp]; exact hD)
   refine gG (i:=2) (tt:=15) rfl rfl jE (gG (i:=3) (tt:=16) rfl rfl jE (dQ (rm rfl (ro rfl (iM (Ht rfl) cW) (eW (jQ (Ht rfl) (by rfl) ?_))))))
   refine cY (cU (fW (m:=7) (dp 3 rfl (dW A_28 Z_28 (Ht rfl)) (dp 14 rfl (dW A_3 Z_3 (Ht rfl)) (dp 5 rfl (eG eP (Ht rfl) rfl) (dq 69 2 rfl (fZ A_25 Z_25 (Ht rfl) (i:=0) rfl rfl) (dq 70 3 rfl (dJ U_25 Z_60 (Ht rfl) (cV 0) rfl (eZ (eX (d:=Qi.zero) zo))) (dq 71 4 rfl (dW A_60 Z_60 (Ht rfl)) (C.D_step (Ei:=[(14,_),(10,_),(11,_),(12,_),(16,_),(15,_),(3,_),(13,_)]) rfl rfl (bV (bK rfl rfl) (bV (bK rfl rfl) (bV (bK rfl rfl) (bV (bK rfl rfl) (bV (bK rfl rfl) (bV (bK rfl rfl) (bV (bK rfl rfl) (bV (bK rfl rfl) bW)))))))) (dZ rfl (lO (γ:=Fin z.length × Fin z.length) (Ts:=fun x=>[NT .i64 x.1.1,NT .i64 x.2.1]) (U:=fun x=>aI (wW s f p x.1.1 x.2.1)) Tryz.call136 (fun x=>a05 (z:=z) (s:=s) (f:=f) (p:=p) (L:=L) hs hpl x.1.2 x.2.2 hz hfs hff hL hLb hD) ⟨(Ht rfl),(Ht rfl),(Ht rfl),(Ht rfl),(Ht rfl),(Ht rfl),(Ht rfl),(Ht rfl),trivial⟩)) ?_)))))))))
   refine fK aS rfl (by kernel_rfl) (zF (aJ (aJ (aJ (aV (ro rfl (cJ Tryz.call135 (a63 (z:=z) (s:=s) (p:=p) (x:=gv fz 0) (F:=fun i j=>wW s f p i j) hs hpl hz) ⟨(Ht rfl),(Ht rfl),(Ht rfl),(Ht rfl),trivial⟩) (gJ Z_28 (Ht rfl) (Ht rfl) rfl (i:=1) rfl (aK rfl) rfl rfl (ro rfl (cX (cV 0)) (eW (bN rfl (fV (gQ A_28 Z_28 rfl (i:=1) rfl rfl) ?_) (fV (fX rfl) ?_)))))))))))
   ·exact (fun v V h=>by rw [Qk,Ua,iD,iD,if_pos he,if_pos he,← hp]; exact h)
   ·exact (aR he.symm)
theorem a2M {z fz:List Qi} {s f:List (List Qi)} {port:Int} {L:Nat} (hs:cB s z.length z.length) (hz1:1 ≤ z.length) (hz:z.length ≤ 1000) (hfs:bE s L) (hff:bE f L) (hfz:bI z L) (hfg:bI fz L) (hL:1 ≤ L) (hLb:L ≤ 60000) (hf:fz.length = 2 → cB f 2 2):bB Tryz.prog 36 [cO z s,aL .i64 port,cO fz f] (eH [cO (Qk z s fz f port) (Ua z s fz f port),aL .i64 (Ga z s fz f port)]):=by
 by_cases h2:fz.length = 2
 ·exact a06 hs hz1 hz hfs hff hfz hfg hL hLb h2 (hf h2)
 ·exact a04 hs hz1 hz hfs hff hfz hfg hL hLb h2
end
section
open Go Go.RowKit
section
variable {s f:List (List Qi)} {p n:Nat}
theorem sd4 (hp:p < n):gm (xV s f n) (n + 1) p = 0 ∧ gm (xV s f n) (n + 1) (n + 1) = gm f 1 1 ∧ gm (xV s f n) p (n + 1) = 0 ∧ gm (xV s f n) p p = gm s p p:=by
 refine ⟨?_,?_,?_,?_⟩
 ·rw [dP zo zo,if_neg zo,if_neg zo]; rfl
 ·rw [dP zo zo,if_neg zo,if_pos zo,show n + 1 - n = 1 by omega]
 ·rw [dP zo zo,if_pos hp,if_neg zo]; rfl
 ·rw [dP zo zo,if_pos hp,if_pos hp]
theorem Rp (hp:p < n):Wn (gm (xV s f n)) p (n + 1) ↔ oD s f p ≠ 0:=by
 obtain ⟨b1,b2,b3,b4⟩:=sd4 (s:=s) (f:=f) hp
 have e:oD s f p = 1 - gm f 1 1 * gm s p p:=rfl
 constructor
 ·intro h hz
  rw [e] at hz
  obtain ⟨a1,a2⟩:=h (gm f 1 1) 1 (by rw [b1,b2]; grind) (by rw [b3,b4]; grind)
  have:=congrArg Qi.re a2; revert this; decide
 ·intro hD v0 v1 h0 h1
  rw [b1,b2] at h0
  rw [b3,b4] at h1
  have e2:v1 * oD s f p = 0:=by rw [e]; grind
  rcases gL e2 with k | k
  ·exact ⟨by rw [h0,k]; grind,k⟩
  ·exact absurd k hD
theorem a8J {x y:Nat} (hp:p < n) (hD:oD s f p ≠ 0) (hx:x < n) (hy:y < n):zQ (xV s f n) [(p,n + 1)] 2 (if x = p then n else x) (if y = p then n else y) = wW s f p x y:=by
 obtain ⟨b1,b2,b3,b4⟩:=sd4 (s:=s) (f:=f) hp
 obtain ⟨v0,v1,⟨h0,h1⟩,hX⟩:=a8b (b:=if y = p then n else y) ((Rp (s:=s) (f:=f) hp).2 hD)
 rw [hX]
 have e:oD s f p = 1 - gm f 1 1 * gm s p p:=rfl
 have u:=kN hD
 rw [b1,b2] at h0
 rw [b3,b4] at h1
 have gA : ∀ b, b < n + 2 → gm (xV s f n) (n + 1) b = if b < n then 0 else gm f 1 (b - n) := fun b hb => by
  rw [dP zo hb,if_neg zo]
  by_cases c:b < n
  ·rw [if_neg zo,if_pos c]; rfl
  ·rw [if_pos zo,if_neg c,show n + 1 - n = 1 by omega]
 have gB : ∀ a b, a < n → b < n + 2 → gm (xV s f n) a b = if b < n then gm s a b else 0 := fun a b ha hb => by
  rw [dP zo hb,if_pos ha]
  by_cases c:b < n
  ·rw [if_pos c,if_pos c]
  ·rw [if_neg c,if_neg c]; rfl
 have gC : ∀ b, b < n + 2 → gm (xV s f n) n b = if b < n then 0 else gm f 0 (b - n) := fun b hb => by
  rw [dP zo hb,if_neg zo]
  by_cases c:b < n
  ·rw [if_neg zo,if_pos c]; rfl
  ·rw [if_pos zo,if_neg c,Nat.sub_self]
 by_cases b:y = p
 ·rw [if_pos b] at h0 h1 ⊢
  rw [gA n zo,if_neg zo,Nat.sub_self] at h0
  rw [gB p n hp zo,if_neg zo] at h1
  have v0e : v0 = gm f 1 0 * Qi.inv (oD s f p) := by
   have k:v0 * oD s f p = gm f 1 0:=by rw [e]; clear u hX gA gB gC; grind
   rw [← k]
   have k2:v0 * oD s f p * Qi.inv (oD s f p) = v0 * (oD s f p * Qi.inv (oD s f p)):=by grind
   rw [k2,u]; grind
  have v1e:v1 = gm s p p * (gm f 1 0 * Qi.inv (oD s f p)):=by rw [h1,v0e]; grind
  by_cases a:x = p
  ·rw [if_pos a, gC n zo, gC p zo, gC (n + 1) zo, if_neg zo, if_pos hp, if_neg zo, Nat.sub_self, show n + 1 - n = 1 by omega, wW, if_pos ⟨a, b⟩, v0e, v1e, Qi.div_def]
   clear u h0 h1 hX v0e v1e; grind
  ·rw [if_neg a, gB x n hx zo, gB x p hx zo, gB x (n + 1) hx zo, if_neg zo, if_pos hp, if_neg zo, wW, if_neg (fun k => a k.1), if_pos b, v0e, Qi.div_def]
   clear u h0 h1 hX v0e v1e; grind
 ·rw [if_neg b] at h0 h1 ⊢
  rw [gA y zo,if_pos hy] at h0
  rw [gB p y hp zo,if_pos hy] at h1
  have v1e : v1 = gm s p y * Qi.inv (oD s f p) := by
   have k:v1 * oD s f p = gm s p y:=by rw [e]; clear u hX gA gB gC; grind
   rw [← k]
   have k2:v1 * oD s f p * Qi.inv (oD s f p) = v1 * (oD s f p * Qi.inv (oD s f p)):=by grind
   rw [k2,u]; grind
  have v0e:v0 = gm f 1 1 * (gm s p y * Qi.inv (oD s f p)):=by rw [h0,v1e]; grind
  by_cases a:x = p
  ·rw [if_pos a, gC y zo, gC p zo, gC (n + 1) zo, if_pos hy, if_pos hp, if_neg zo, show n + 1 - n = 1 by omega, wW, if_neg (fun k => b k.2), if_neg b, if_pos a, v1e, Qi.div_def]
   clear u h0 h1 hX v0e v1e; grind
  ·rw [if_neg a, gB x y hx zo, gB x p hx zo, gB x (n + 1) hx zo, if_pos hy, if_pos hp, if_neg zo, wW, if_neg (fun k => a k.1), if_neg b, if_neg a, v0e, Qi.div_def]
   clear u h0 h1 hX v0e v1e; grind
end
theorem a1b {n p:Nat} (hp:p < n):gN [p,n + 1] (n + 2) = tab n (lI p):=by
 rw [gN,if_pos (by simp),List.append_nil]
 have : ∀ k, k ≤ n + 1 → gN [p, n + 1] k = gN [p] k := fun k => by
  induction k with
  | zero=>intro _; rfl
  | succ k ih =>
   intro hk
   rw [gN,gN,ih zo]
   have e:(k ∈ [p,n + 1]) ↔ (k ∈ [p]):=by simp; omega
   by_cases c:k ∈ [p]
   ·rw [if_pos c,if_pos (e.2 c)]
   ·rw [if_neg c,if_neg fun h=>c (e.1 h)]
 rw [this (n + 1) (Nat.le_refl _),rR,tI zo]; rfl
section
variable {z fz:List Qi} {s f:List (List Qi)} {p n:Nat} (hz:z.length = n) (hfl:fz.length = 2) (hp:p < n) (hpz:gv fz 1 = gv z p)
theorem a8o (hz : z.length = n) (hfl : fz.length = 2) (hp : p < n) (hpz : gv fz 1 = gv z p) : Be (z ++ fz) (J1 p (n + 1)) = 0 := iB fun i hi => by
 obtain rfl:i = 0:=by simp at hi; omega
 refine a19 (l:=[]) rfl rfl (by rw [List.length_append]; omega) (by rw [List.length_append]; omega) (by simp) (by simp) zo ?_
 have e1:gv (z ++ fz) p = gv z p:=by simp [gv,List.getD,List.getElem?_append_left (show p < z.length by omega)]
 have e2 : gv (z ++ fz) (n + 1) = gv fz 1 := by
  subst hz
  simp only [gv,List.getD]
  rw [List.getElem?_append_right zo,show z.length + 1 - z.length = 1 by omega]
 rw [e1,e2,hpz]
theorem a8n (hz:z.length = n) (hfl:fz.length = 2) (hp:p < n) (hpz:gv fz 1 = gv z p):yE (z ++ fz) (xV s f n) (J1 p (n + 1)) = if oD s f p = 0 then 6 else 0:=by
 have hl:(z ++ fz).length = n + 2:=by rw [List.length_append]; omega
 have hj:Gd (z ++ fz) (J1 p (n + 1)) = 0:=a5p (a8o hz hfl hp hpz) (by rw [hl]; show ¬ (0 < 2 * 1 ∧ 2 * 1 = n + 2); omega)
 have hs:=Qu (S:=xV s f n) hj (by simp)
 have hi : Qw (z ++ fz) (xV s f n) (J1 p (n + 1)) = 0 ↔ Wn (gm (xV s f n)) p (n + 1) := by
  have e:Qw (z ++ fz) (xV s f n) (J1 p (n + 1)) = kK (fun y=>jO (nR (xV s f n) (dA (J1 p (n + 1))) 2) (Bf (xV s f n) (dA (J1 p (n + 1))) 2 ((eL (z ++ fz) (J1 p (n + 1))).getD y 0)) 2) (eL (z ++ fz) (J1 p (n + 1))).length:=rfl
  rw [e,a6t,hl,a1b hp,aE]
  exact Xm zo fun i=>by rw [Xx]; exact Cn
 rw [hs]
 by_cases c:oD s f p = 0
 ·rw [if_pos c,if_neg fun k=>(Rp hp).1 (hi.1 k) c]
 ·rw [if_neg c,if_pos (hi.2 ((Rp hp).2 c))]
theorem a1Y (hz : z.length = n) (hfl : fz.length = 2) (hp : p < n) (hpz : gv fz 1 = gv z p) (hD : oD s f p ≠ 0) :
  rG (Ge (z ++ fz) (xV s f n) (J1 p (n + 1))) (Tz n p) = a0H s f p n ∧ oG (xI (z ++ fz) (xV s f n) (J1 p (n + 1))) (Tz n p) = z.set p (gv fz 0) ∧ (xI (z ++ fz) (xV s f n) (J1 p (n + 1))).length = n:=by
 have hl:(z ++ fz).length = n + 2:=by rw [List.length_append]; omega
 have hE:yE (z ++ fz) (xV s f n) (J1 p (n + 1)) = 0:=by rw [a8n hz hfl hp hpz,if_neg hD]
 obtain ⟨hS,hZ⟩:=a8m hE
 rw [hl,a1b hp,aE] at hS
 rw [hl,a1b hp] at hZ
 have hql:(Tz n p).length = n:=by rw [Eh hp,aE]
 have hqa:∀ x,x < n → cR (Tz n p) x = Ef p x n:=fun x hx=>by rw [Eh hp]; exact kT hx
 have hsk:∀ x,x < n → cR (tab n (lI p)) (Ef p x n) = if x = p then n else x:=fun x hx=>by rw [show cR (tab n (lI p)) (Ef p x n) = lI p (Ef p x n) from kT (Eg hx),Jk hp hx]
 refine ⟨?_,?_,by rw [hZ,show (oG (z ++ fz) (tab n (lI p))).length = (tab n (lI p)).length from aE _ _,aE]⟩
 ·rw [rG, hql]
  refine bR fun x hx=>bR fun y hy=>?_
  rw [hqa x hx,hqa y hy,hS,eI (Eg hx) (Eg hy),hsk x hx,hsk y hy]
  exact a8J hp hD hx hy
 ·rw [oG, hql]
  refine List.ext_getElem (by rw [aE,List.length_set,hz]) fun x h1 h2=>?_
  rw [aE] at h1
  rw [List.getElem_set]
  have e:(tab n fun i=>gv (xI (z ++ fz) (xV s f n) (J1 p (n + 1))) (cR (Tz n p) i))[x]'(by rw [aE]; exact h1) = gv (xI (z ++ fz) (xV s f n) (J1 p (n + 1))) (cR (Tz n p) x):=by simp [tab]
  rw [e,hqa x h1,hZ,oG,gF (by rw [aE]; exact Eg h1),hsk x h1]
  by_cases c:p = x
  ·rw [if_pos c,if_pos c.symm]; subst hz; simp only [gv,List.getD]; rw [List.getElem?_append_right (Nat.le_refl _),Nat.sub_self]
  ·rw [if_neg c,if_neg (Ne.symm c)]; simp [gv,List.getD,List.getElem?_append_left (show x < z.length by omega),show x < z.length by omega]
end
end
section
open Go Go.RowKit
theorem a5j {n m i j:Nat} (hi:i < n) (hj:j < m):gm (Ij n m) i j = 0:=eI hi hj
section
variable {z:List Qi} {s:List (List Qi)}
theorem a6Q (hs:cB s z.length z.length) (hp:z.all eA = true) (h:iA z s = Ij z.length z.length):xJ z s = Ij z.length z.length:=by
 have hne:∀ {i},i < z.length → gv z i ≠ 0:=fun hi=>nK hp hi
 have ho : ∀ {i k}, i < z.length → k < z.length → (aC z.length fun m => gm s i m * gv z m * (gm s k m).conj) = if i = k then gv z i else 0 := fun {i k} hi hk => by
  have e:=qY (s:=s) (z:=z) hs.1 hi hk
  rw [h,a5j hi hk] at e
  grind
 have hm : oF s (tab z.length fun m => tab z.length fun k => gv z m * (gm s k m).conj / gv z k) z.length z.length z.length = rQ z.length := lB nT (nQ _) fun i hi k hk => by
  rw [nU hi hk,wK hi hk]
  have t : ∀ m, m < z.length → gm s i m * gm (tab z.length fun m => tab z.length fun k => gv z m * (gm s k m).conj / gv z k) m k = (gm s i m * gv z m * (gm s k m).conj) * Qi.inv (gv z k) := fun m hm => by
   rw [eI hm hk,Qi.div_def]; grind
  rw [aA t,iL,ho hi hk]
  have hk1:=kN (hne hk)
  by_cases c:i = k
  ·rw [if_pos c,if_pos c,c]; exact hk1
  ·rw [if_neg c,if_neg c]; grind
 have hr:=Kn hs cB.tab hm
 refine lB cB.tab (Za _ _) fun i hi k hk=>?_
 rw [a5j hi hk,show gm (xJ z s) i k = Bs z s i k z.length from eI hi hk,Bs]
 have e:gm (rQ z.length) i k = if i = k then 1 else 0:=wK hi hk
 rw [← hr,nU hi hk] at e
 have t : ∀ m, m < z.length → gm (tab z.length fun m => tab z.length fun k => gv z m * (gm s k m).conj / gv z k) i m * gm s m k = gv z i * ((gm s m i).conj * gm s m k / gv z m) := fun m hm => by
  rw [eI hi hm,Qi.div_def,Qi.div_def]; grind
 rw [aA t,gY] at e
 have hk1:=kN (hne hi)
 generalize (aC z.length fun m=>(gm s m i).conj * gm s m k / gv z m) = X at *
 have e3 : X = (if i = k then 1 else 0) * Qi.inv (gv z i) := by
  rw [← e]
  have:gv z i * X * Qi.inv (gv z i) = (gv z i * Qi.inv (gv z i)) * X:=by grind
  rw [this,hk1]; grind
 rw [e3]
 by_cases c:i = k
 ·rw [if_pos c,if_pos c,Qi.div_def]; grind
 ·rw [if_neg c,if_neg c]; grind
end
def Rcp (z:List Qi) (s:List (List Qi)) (n:Nat):Prop:=∀ i,i < n → ∀ j,j < n → gm s i j * gv z j = gm s j i * gv z i
section
variable {z:List Qi} {S:List (List Qi)} {js:List (Int × Int)}
end
section
variable {z w:List Qi} {s:List (List Qi)} {n:Nat}
end
section
variable {z:List Qi} {s:List (List Qi)} {Q:List Nat}
theorem a1U (hs:cB s z.length z.length) (hl:Q.length = z.length) (hlt:∀ x,x ∈ Q → x < z.length) (hinj:∀ i j,i < z.length → j < z.length → cR Q i = cR Q j → i = j):rG (iA z s) Q = iA (oG z Q) (rG s Q):=by
 have hq:∀ i,i < z.length → cR Q i < z.length:=fun i hi=>sA hlt zo
 refine lB (n:=z.length) (m:=z.length) (by rw [← hl]; exact Om _ _) (by have:=lZ (oG z Q) (rG s Q); rwa [sT,hl] at this) fun i hi j hj=>?_
 rw [qY (by rw [(Om s Q).1,sT]) (by rw [sT,hl]; exact hi) (by rw [sT,hl]; exact hj),sT,hl]
 have e1:gm (rG (iA z s) Q) i j = gm (iA z s) (cR Q i) (cR Q j):=eI zo zo
 have e2:∀ a k,a < z.length → k < z.length → gm (rG s Q) a k = gm s (cR Q a) (cR Q k):=fun a k ha hk=>eI zo zo
 have e3:∀ k,k < z.length → gv (oG z Q) k = gv z (cR Q k):=fun k hk=>gF zo
 have e4 : (aC z.length fun k => gm (rG s Q) i k * gv (oG z Q) k * (gm (rG s Q) j k).conj) = aC z.length fun k => gm s (cR Q i) k * gv z k * (gm s (cR Q j) k).conj := by
  rw [← a1F hl hlt hinj (fun k=>gm s (cR Q i) k * gv z k * (gm s (cR Q j) k).conj)]
  exact aA fun k hk=>by rw [e2 i k hi hk,e2 j k hj hk,e3 k hk]
 rw [e1,qY hs.1 (hq i hi) (hq j hj),e4,e3 i hi]
 congr 1
 by_cases c:i = j
 ·rw [if_pos c,if_pos (by rw [c])]
 ·rw [if_neg c,if_neg fun e=>c (hinj i j hi hj e)]
end
section
variable {q:List (List Qi)} {n:Nat}
end
end
section
open Go Go.RowKit
theorem Qh {t y z:Qi} (h:t * y = z) (hy:¬ y = Qi.zero):z / y = t:=by
 have e:=rY (x:=z) (y:=y) hy
 have e2:(z / y - t) * y = 0:=by grind
 rcases gL e2 with k | k
 ·grind
 ·exact absurd k hy
section
variable (c x:List (List Qi)) (n:Nat)
end
section
variable {c x:List (List Qi)} {n:Nat}
end
section
variable (c x:List (List Qi)) (n:Nat)
end
section
variable {c x:List (List Qi)} {n:Nat}
end
section
variable {h:List (List Qi)} {n G V:Nat}
end
end
section
open Go Go.RowKit
def scF (k:Nat):Qi:=Qi.frac (k:Int) 0 1024
def zK (s:List (List Qi)) (n k:Nat):List (List Qi):=tab n fun i=>tab n fun j=>scF k * gm s i j
theorem vW (s:List (List Qi)) (n k:Nat):cB (zK s n k) n n:=cB.tab
theorem Vw {k:Nat} (h:k ≤ 9223372036854775807):aF (scF k) 2:=⟨Qi.Fit.frac zo zo (by decide) (by decide) (by decide) (by decide) (by decide)⟩
theorem Kt {s : List (List Qi)} {n k L : Nat} (hs : bE s L) (hL : 1 ≤ L) (h : k ≤ 9223372036854775807) : bE (zK s n k) (L + 3) := bE.tab fun i j _ _ => by
 haveI:=Vw h; haveI:=hs.get hL i j
 exact (fitMul (x:=scF k) (y:=gm s i j) (L:=2) (M:=L)).le zo
def Lg (p : Nat → Bool) : Nat → Nat → Nat → Nat
 | 0,lo,_=>lo
 | f + 1,lo,hi=>if lo < hi then (if p ((lo + hi + 1) / 2) = true then Lg p f ((lo + hi + 1) / 2) hi else Lg p f lo ((lo + hi + 1) / 2 - 1)) else lo
theorem a4K {p : Nat → Bool} : ∀ {f lo hi : Nat}, ¬ lo < hi → Lg p f lo hi = lo
 | 0,_,_,_=>rfl
 | f + 1,lo,hi,h=>by rw [Lg,if_neg h]
theorem a7a {p:Nat → Bool} {f lo hi:Nat} (hf:hi - lo ≤ f) (h:lo < hi) (k:p ((lo + hi + 1) / 2) = true):∃ g,hi - (lo + hi + 1) / 2 ≤ g ∧ Lg p f lo hi = Lg p g ((lo + hi + 1) / 2) hi:=by
 match f,hf with
 | 0,hf=>omega
 | f + 1,hf=>exact ⟨f,by omega,by rw [Lg,if_pos h,if_pos k]⟩
theorem a79 {p:Nat → Bool} {f lo hi:Nat} (hf:hi - lo ≤ f) (h:lo < hi) (k:¬ p ((lo + hi + 1) / 2) = true):∃ g,(lo + hi + 1) / 2 - 1 - lo ≤ g ∧ Lg p f lo hi = Lg p g lo ((lo + hi + 1) / 2 - 1):=by
 match f,hf with
 | 0,hf=>omega
 | f + 1,hf=>exact ⟨f,by omega,by rw [Lg,if_pos h,if_neg k]⟩
theorem Fp {p : Nat → Bool} {N : Nat} : ∀ {f lo hi : Nat}, hi - lo ≤ f → lo ≤ hi → hi ≤ N → (hi = N ∨ p (hi + 1) = false) → Lg p f lo hi ≤ N ∧ (Lg p f lo hi = N ∨ p (Lg p f lo hi + 1) = false)
 | 0, lo, hi, h0, h1, h2, h3 => by
  have:lo = hi:=by omega
  subst this
  exact ⟨h2,h3⟩
 | f + 1, lo, hi, h0, h1, h2, h3 => by
  rw [Lg]
  by_cases c:lo < hi
  ·rw [if_pos c]
   by_cases k:p ((lo + hi + 1) / 2) = true
   ·rw [if_pos k]; exact Fp zo zo h2 h3
   ·rw [if_neg k]
    refine Fp zo zo zo (.inr ?_)
    rw [show (lo + hi + 1) / 2 - 1 + 1 = (lo + hi + 1) / 2 by omega]
    simpa using k
  ·rw [if_neg c]
   have:lo = hi:=by omega
   subst this
   exact ⟨h2,h3⟩
def Rr (z:List Qi) (s:List (List Qi)):Nat:=Lg (fun k=>He (xJ z (zK s z.length k)) z.length) 1024 0 1024
theorem Fo (z:List Qi) (s:List (List Qi)):Rr z s ≤ 1024 ∧ (Rr z s = 1024 ∨ He (xJ z (zK s z.length (Rr z s + 1))) z.length = false):=Fp (N:=1024) (by decide) (by decide) (by decide) (.inl rfl)
end
section
open Go Go.RowKit
theorem Dz {x y:Qi} (hy:y.conj = y) (hne:¬ y = Qi.zero):(x / y).conj = x.conj / y:=by
 have e:=congrArg Qi.conj (rY (x:=x) hne)
 rw [dS,hy] at e
 exact (Qh e hne).symm
theorem Vt {z : List Qi} {s : List (List Qi)} (hp : z.all eA = true) : nP (xJ z s) z.length = true := decide_eq_true fun i hi k hk => by
 have hz : ∀ m, m < z.length → (gv z m).conj = gv z m := fun m hm => by
  rw [List.all_eq_true] at hp
  exact vQ (hp _ (by rw [show gv z m = z[m]'hm by simp [gv,List.getD,hm]]; exact List.getElem_mem _))
 have hn:∀ m,m < z.length → ¬ gv z m = Qi.zero:=fun m hm=>nK hp hm
 rw [xJ,eI hi hk,eI hk hi,Bs,Bs,sI,nO]
 have e1 : (if i = k then 1 / gv z i else (0 : Qi)) = (if k = i then 1 / gv z k else 0).conj := by
  by_cases e:i = k
  ·subst e; rw [if_pos rfl,Dz (hz i hi) (hn i hi),jY]
  ·rw [if_neg e,if_neg (Ne.symm e),fN]
 rw [← e1]
 congr 1
 exact aA fun m hm=>by rw [Dz (hz m hm) (hn m hm),dS,jN]; congr 1; grind
end
section
open Go Go.RowKit
def sZ (n:Nat) (C:Nat → Nat → Qi):Prop:=∀ x:Nat → Qi,0 ≤ (kG n x x C).re
theorem Wc {n:Nat} {x y:Nat → Qi} {C:Nat → Nat → Qi}:sq n x y C = kG n (fun a=>(x a).conj) (fun a=>(y a).conj) C:=aA fun a _=>aA fun b _=>by rw [jN]
theorem a4q {h:List (List Qi)} {n:Nat} (hs:cB h n n):He h n = true ↔ nP h n = true ∧ sZ n (gm h):=by
 rw [a3g hs]
 refine and_congr Iff.rfl ⟨fun k x=>?_,fun k y=>by rw [Wc]; exact k _⟩
 have:=k fun a=>(x a).conj
 rw [Wc] at this
 simpa only [jN] using this
theorem a4o {x:Qi} (h:eA x = true):0 ≤ x.re:=by
 obtain ⟨d1,d2⟩:=Bv x
 have dp:=Bc x
 have ha:0 < x.a:=by simp only [eA,decide_eq_true_eq] at h; exact h.2
 have hb:(0:Rat) < ((x.a:Int):Rat):=by exact_mod_cast ha
 rcases Rat.le_total (a:=0) (b:=x.re) with k | k
 ·exact k
 ·have := Rat.mul_nonneg (show (0 : Rat) ≤ ((x.den : Int) : Rat) by grind) (show (0 : Rat) ≤ -x.re by grind)
  grind
def Wt (n:Nat) (d:Nat → Qi):Prop:=∀ i,i < n → (d i).conj = d i ∧ 0 ≤ (d i).re
theorem wY {x y:Qi} (hx:x.conj = x) (h1:0 ≤ x.re) (h2:0 ≤ y.re):0 ≤ (x * y).re:=by
 have e:x.im = 0:=vS hx.symm
 have:(x * y).re = x.re * y.re - x.im * y.im:=rfl
 rw [this,e]
 have:=Rat.mul_nonneg h1 h2
 grind
theorem Rd (y:Qi):0 ≤ (y * y.conj).re:=by
 have:(y * y.conj).re = y.re * y.re - y.im * -y.im:=rfl
 have p1:=kS y.re
 have p2:=kS y.im
 rw [this]; grind
theorem Rx (f : Nat → Qi) : ∀ n, (∀ i, i < n → 0 ≤ (f i).re) → 0 ≤ (aC n f).re
 | 0,_=>by show (0:Rat) ≤ (0:Qi).re; decide +kernel
 | n + 1, h => by
  rw [gU]
  have a:=Rx f n fun i hi=>h i zo
  have b:=h n zo
  show 0 ≤ (aC n f).re + (f n).re
  grind
def tS (n:Nat) (d x:Nat → Qi):Qi:=aC n fun k=>x k * d k * (x k).conj
theorem a1m {n : Nat} {d x : Nat → Qi} (hd : Wt n d) : 0 ≤ (tS n d x).re := Rx _ n fun i hi => by
 have:=wY (y:=x i * (x i).conj) (hd i hi).1 (hd i hi).2 (Rd _)
 rwa [show x i * d i * (x i).conj = d i * (x i * (x i).conj) by grind]
theorem a1n {n:Nat} {d x:Nat → Qi} (hd:Wt n d):(tS n d x).conj = tS n d x:=by
 rw [tS,nO]; exact aA fun i hi=>by rw [dS,dS,jN,(hd i hi).1]; grind
theorem a7U {n : Nat} {d e : Nat → Qi} {r : Nat → Nat → Qi} (hd : Wt n d) (he : Wt n e) (hde : ∀ i, i < n → d i * e i = 1)
  (h:∀ x:Nat → Qi,(tS n e fun u=>aC n fun a=>x a * (r u a).conj).re ≤ (tS n e x).re) (p:Nat → Qi) :
  (tS n d fun u=>aC n fun a=>p a * r a u).re ≤ (tS n d p).re:=by
 obtain ⟨P,hP⟩:∃ P:Nat → Qi,P = fun u=>aC n fun a=>p a * r a u:=⟨_,rfl⟩
 obtain ⟨x,hx⟩:∃ x:Nat → Qi,x = fun u=>d u * P u:=⟨_,rfl⟩
 obtain ⟨Q,hQ⟩:∃ Q:Nat → Qi,Q = fun u=>aC n fun a=>x a * (r u a).conj:=⟨_,rfl⟩
 have h0:=h x
 rw [← hQ] at h0
 rw [← hP]
 have e1 : tS n e x = tS n d P := aA fun k hk => by
  have:=hde k hk
  rw [hx]
  show d k * P k * e k * (d k * P k).conj = _
  rw [dS,(hd k hk).1]
  generalize (P k).conj = w
  have e2:d k * P k * e k * (d k * w) = (d k * e k) * (P k * d k * w):=by grind
  rw [e2,this]; grind
 have e2 : (aC n fun u => Q u * (p u).conj) = tS n d P := by
  rw [hQ]
  have t : ∀ u, u < n → (aC n fun a => x a * (r u a).conj) * (p u).conj = aC n fun a => x a * (p u * r u a).conj := fun u _ => by
   rw [← iL]; exact aA fun a _=>by rw [dS]; grind
  show (aC n fun u=>(aC n fun a=>x a * (r u a).conj) * (p u).conj) = _
  rw [aA t,iX]
  refine aA fun a _=>?_
  rw [gY,← nO,hx,hP]
  grind
 have e3 : tS n e (fun u => Q u - d u * p u) = tS n e Q - tS n d P - (tS n d P).conj + tS n d p := by
  rw [← e2,nO,tS,tS,sU,sU,tS,← jP]
  refine aA fun u hu=>?_
  have:=hde u hu
  rw [sI,dS,dS,jN,(hd u hu).1]
  generalize (p u).conj = w
  generalize (Q u).conj = q
  have a1:(Q u - d u * p u) * e u * (q - d u * w) = Q u * e u * q - (d u * e u) * (Q u * w) - (d u * e u) * (p u * q) + (d u * e u) * (p u * d u * w):=by grind
  rw [a1,this]; grind
 have p0:=a1m (x:=fun u=>Q u - d u * p u) he
 rw [e3,a1n hd] at p0
 rw [e1] at h0
 generalize tS n e Q = A at *
 generalize tS n d P = B at *
 generalize tS n d p = D at *
 have:(A - B - B + D).re = A.re - B.re - B.re + D.re:=rfl
 grind
theorem Ia {n:Nat} {d x:Nat → Qi} {r:Nat → Nat → Qi}:kG n x x (fun a b=>(if a = b then d a else 0) - kG n (r a) (r b) (fun u v=>if u = v then d u else 0)) = tS n d x - tS n d fun u=>aC n fun a=>x a * r a u:=by
 rw [Fh,kR,uQ,kR]; rfl
section
variable {z:List Qi} {s:List (List Qi)}
theorem Fe (hs:cB s z.length z.length) {x:Nat → Qi}:kG z.length x x (gm (iA z s)) = tS z.length (gv z) x - tS z.length (gv z) fun u=>aC z.length fun a=>x a * gm s a u:=by
 rw [← Ia]
 exact mA (fun _ _=>rfl) (fun _ _=>rfl) fun a b ha hb=>by rw [qY hs.1 ha hb,kR]
theorem Cr {x:Nat → Qi}:kG z.length x x (gm (xJ z s)) = tS z.length (fun i=>Qi.inv (gv z i)) x - tS z.length (fun i=>Qi.inv (gv z i)) fun u=>aC z.length fun a=>x a * (gm s u a).conj:=by
 rw [← Ia (r:=fun a u=>(gm s u a).conj)]
 refine mA (fun _ _=>rfl) (fun _ _=>rfl) fun a b ha hb=>?_
 rw [kR,show gm (xJ z s) a b = Bs z s a b z.length from eI ha hb,Bs]
 congr 1
 ·by_cases c : a = b
  ·rw [if_pos c,if_pos c,Qi.div_def]; grind
  ·rw [if_neg c,if_neg c]
 ·exact aA fun m _=>by rw [jN,Qi.div_def]; grind
theorem Sc (hp : z.all eA = true) : Wt z.length (gv z) := fun i hi => by
 have h:eA (gv z i) = true:=List.all_eq_true.1 hp _ (by rw [show gv z i = z[i] by simp [gv,List.getD,hi]]; exact List.getElem_mem hi)
 exact ⟨vQ h,a4o h⟩
theorem Sb (hp : z.all eA = true) : Wt z.length fun i => Qi.inv (gv z i) := fun i hi => by
 obtain ⟨h1,h2⟩:=Sc hp i hi
 have e:=kN (nK hp hi)
 have e2:=congrArg Qi.conj e
 rw [dS,h1,jY] at e2
 have hc : (Qi.inv (gv z i)).conj = Qi.inv (gv z i) := by
  generalize (Qi.inv (gv z i)).conj = w at *
  generalize Qi.inv (gv z i) = v at *
  have:w = w * (gv z i * v):=by rw [e]; grind
  rw [this,show w * (gv z i * v) = (gv z i * w) * v by grind,e2]; grind
 refine ⟨hc,?_⟩
 have hi0:(Qi.inv (gv z i)).im = 0:=vS hc.symm
 have e3:=congrArg Qi.re e
 have e4:(gv z i * Qi.inv (gv z i)).re = (gv z i).re * (Qi.inv (gv z i)).re - (gv z i).im * (Qi.inv (gv z i)).im:=rfl
 rw [e4,hi0] at e3
 have e5:(1:Qi).re = 1:=rfl
 rw [e5] at e3
 rcases Rat.le_total (a:=0) (b:=(Qi.inv (gv z i)).re) with k | k
 ·exact k
 ·have:=Rat.mul_nonneg h2 (show (0:Rat) ≤ -(Qi.inv (gv z i)).re by grind); grind
theorem Kj (hs:cB s z.length z.length) (hp:z.all eA = true):sZ z.length (gm (xJ z s)) ↔ sZ z.length (gm (iA z s)):=by
 have hw:=Sc hp
 have hv:=Sb hp
 have sub : ∀ A B : Qi, (0 ≤ (A - B).re) ↔ B.re ≤ A.re := fun A B => by
  have:(A - B).re = A.re - B.re:=rfl
  constructor <;> intro k <;> grind
 constructor
 ·intro h x
  rw [Fe hs,sub]
  exact a7U hw hv (fun i hi=>kN (nK hp hi)) (fun y=>(sub _ _).1 (by rw [← Cr]; exact h y)) x
 ·intro h x
  rw [Cr,sub]
  refine a7U (r:=fun a u=>(gm s u a).conj) hv hw (fun i hi=>by rw [Qi.mul_comm']; exact kN (nK hp hi)) (fun y=>?_) x
  have:=h y
  rw [Fe hs,sub] at this
  simpa only [jN] using this
theorem Jf (hs:cB s z.length z.length) (hp:z.all eA = true):He (xJ z s) z.length = true ↔ sZ z.length (gm (iA z s)):=by
 rw [a4q (show cB (xJ z s) z.length z.length from cB.tab),Kj hs hp]
 exact ⟨fun h=>h.2,fun h=>⟨Vt hp,h⟩⟩
end
theorem Kk {p c : List (List Qi)} {N : Nat} (hc : c.length = N) (h : sZ N (gm c)) : sZ p.length (gm (wC p c)) := fun x => by
 rw [mA (p':=x) (q':=x) (C':=fun a b=>kG N (gm p a) (gm p b) (gm c)) (fun _ _=>rfl) (fun _ _=>rfl) fun a b ha hb=>qH hc ha hb,uQ]
 exact h _
theorem Nr {a b : List (List Qi)} {x y : Nat} (ha : sZ x (gm a)) (hb : sZ y (gm b)) : sZ (x + y) (gm (nI a b x y)) := fun p => by
 have z0:Qi.zero = (0:Qi):=rfl
 have e : kG (x + y) p p (gm (nI a b x y)) = kG x p p (gm a) + kG y (fun i => p (x + i)) (fun i => p (x + i)) (gm b) := by
  rw [kG,oB]
  congr 1
  ·refine aA fun i hi => ?_
   rw [oB,cE (m:=y) fun j hj=>by rw [dP zo zo,if_pos hi,if_neg zo,z0]; grind]
   rw [aA fun j hj=>by rw [dP (show i < x + y by omega) (show j < x + y by omega),if_pos hi,if_pos hj]]; grind
  ·refine aA fun i hi => ?_
   rw [oB,cE (m:=x) fun j hj=>by rw [dP zo zo,if_neg zo,if_neg zo,z0]; grind]
   rw [aA fun j hj=>by rw [dP (show x + i < x + y by omega) (show x + j < x + y by omega),if_neg zo,if_pos zo,Nat.add_sub_cancel_left,Nat.add_sub_cancel_left]]; grind
 rw [e]
 have h1:=ha p
 have h2:=hb fun i=>p (x + i)
 have:∀ A B:Qi,(A + B).re = A.re + B.re:=fun _ _=>rfl
 rw [this]; grind
theorem a4r {c : List (List Qi)} {N : Nat} {Q : List Nat} (hlt : ∀ x, x ∈ Q → x < N) (h : sZ N (gm c)) : sZ Q.length (gm (rG c Q)) := fun x => by
 rw [mA (p':=x) (q':=x) (C':=fun a b=>kG N (fun k=>if k = cR Q a then 1 else 0) (fun k=>if k = cR Q b then 1 else 0) (gm c)) (fun _ _=>rfl) (fun _ _=>rfl) fun a b ha hb=>?_,uQ]
 ·exact h _
 ·rw [show gm (rG c Q) a b = gm c (cR Q a) (cR Q b) from eI ha hb, kG, bO (sA hlt ha) fun k _ hne => ?_, bO (sA hlt hb) fun k _ hne => ?_, if_pos rfl, if_pos rfl, jY]
  ·grind
  ·rw [if_neg hne,fN]; grind
  ·exact cE fun j _=>by rw [if_neg hne]; grind
section
variable {z w:List Qi} {S:List (List Qi)} {js:List (Int × Int)} {n:Nat}
theorem a1L (hS:cB S z.length z.length) (hE:yE z S js = 0) (hl:z.length ≤ 8) (h:sZ z.length (gm (iA z S))):sZ (xI z S js).length (gm (iA (xI z S js) (Ge z S js))):=by
 obtain ⟨hd,hj6,hk,hne⟩:=Ng hE hl
 rw [xI,Ge,iD,iD,if_pos hE,if_pos hE]
 by_cases h0:js.length = 0
 ·rw [if_pos h0,if_pos h0]; exact h
 ·rw [if_neg h0, if_neg h0, ← Te hS (Eu hd) hk fun y hy => a83 hd hy]
  have:=Kk (p:=Ce S js z.length) (lZ z S).1 h
  rwa [show (Ce S js z.length).length = (Bq z js).length by rw [Ce,List.length_map,Bq,oG,aE]; rfl] at this
theorem a6Y (hz:z.length = n) (hw:w.length = n) (hs:cB S n n) (hp:z.all eA = true) (h:Lf z w S = 0) (hc:sZ n (gm (iA z S))):sZ n (gm (iA w (rB z w S))):=by
 rw [← a6D hz hw hs hp h]
 have:=Kk (p:=nrM z w (rB z w S) n) (N:=n) (by rw [(lZ z S).1,hz]) hc
 rwa [(Vb z w (rB z w S) n).1] at this
theorem zB {zb:List Qi} {a b:List (List Qi)} (ha:a.length = z.length) (hb:b.length = zb.length) (h1:sZ z.length (gm (iA z a))) (h2:sZ zb.length (gm (iA zb b))):sZ (z ++ zb).length (gm (iA (z ++ zb) (nI a b z.length zb.length))):=by
 rw [Nn ha hb,List.length_append]; exact Nr h1 h2
end
section
variable {z fz:List Qi} {s f:List (List Qi)} {p n:Nat}
theorem Mk (hz : z.length = n) (hfl : fz.length = 2) (hp : p < n) (h8 : n + 2 ≤ 8) (hpz : gv fz 1 = gv z p) (hD : oD s f p ≠ 0) (hs : cB s n n) :
  yE (z ++ fz) (xV s f n) (J1 p (n + 1)) = 0 ∧ cB (Ge (z ++ fz) (xV s f n) (J1 p (n + 1))) n n ∧ (xI (z ++ fz) (xV s f n) (J1 p (n + 1))).length = n
  ∧ (Tz n p).length = n ∧ (∀ x,x ∈ Tz n p → x < n) ∧ (∀ i j,i < n → j < n → cR (Tz n p) i = cR (Tz n p) j → i = j):=by
 have hE:yE (z ++ fz) (xV s f n) (J1 p (n + 1)) = 0:=by rw [a8n hz hfl hp hpz,if_neg hD]
 obtain ⟨-,-,hl⟩:=a1Y (s:=s) (f:=f) hz hfl hp hpz hD
 have hzl:(z ++ fz).length = n + 2:=by rw [List.length_append]; omega
 have hJ:=(a18 (z:=z ++ fz) (S:=xV s f n) (js:=J1 p (n + 1)) (by rw [hzl]; exact mV _ _ _ _)).1
 rw [hl] at hJ
 have hq:∀ i,i < n → cR (Tz n p) i = Ef p i n:=fun i hi=>by rw [Eh hp]; exact kT hi
 refine ⟨hE,hJ,hl,by rw [Eh hp,aE],fun x hx=>?_,fun i j hi hj e=>?_⟩
 ·rw [Eh hp] at hx
  obtain ⟨i,hi,rfl⟩:=dR.1 hx
  exact Eg hi
 ·rw [hq i hi, hq j hj] at e
  have a:=Jk hp hi
  have b:=Jk hp hj
  rw [e] at a
  have:(if i = p then n else i) = if j = p then n else j:=a.symm.trans b
  by_cases c:i = p
  ·by_cases d : j = p
   ·omega
   ·rw [if_pos c,if_neg d] at this; omega
  ·by_cases d : j = p
   ·rw [if_neg c,if_pos d] at this; omega
   ·rw [if_neg c,if_neg d] at this; omega
theorem a6P (hz : z.length = n) (hfl : fz.length = 2) (hp : p < n) (h8 : n + 2 ≤ 8) (hpz : gv fz 1 = gv z p) (hD : oD s f p ≠ 0) (hs : cB s n n) :
  iA (z.set p (gv fz 0)) (a0H s f p n) = rG (iA (xI (z ++ fz) (xV s f n) (J1 p (n + 1))) (Ge (z ++ fz) (xV s f n) (J1 p (n + 1)))) (Tz n p):=by
 obtain ⟨hE,hJ,hl,q1,q2,q3⟩:=Mk hz hfl hp h8 hpz hD hs
 obtain ⟨g1,g2,-⟩:=a1Y (s:=s) (f:=f) hz hfl hp hpz hD
 rw [a1U (by rw [hl]; exact hJ) (by rw [hl]; exact q1) (by rw [hl]; exact q2) (by rw [hl]; exact q3),g1,g2]
theorem a6W (hz : z.length = n) (hfl : fz.length = 2) (hp : p < n) (h8 : n + 2 ≤ 8) (hpz : gv fz 1 = gv z p) (hD : oD s f p ≠ 0) (hs : cB s n n) (hf : cB f 2 2)
  (h1:sZ n (gm (iA z s))) (h2:sZ 2 (gm (iA fz f))):sZ n (gm (iA (z.set p (gv fz 0)) (a0H s f p n))):=by
 obtain ⟨hE,hJ,hl,q1,q2,q3⟩:=Mk hz hfl hp h8 hpz hD hs
 have hzl:(z ++ fz).length = n + 2:=by rw [List.length_append]; omega
 rw [a6P hz hfl hp h8 hpz hD hs]
 have a:=zB (z:=z) (zb:=fz) (a:=s) (b:=f) (by rw [hs.1,hz]) (by rw [hf.1,hfl]) (by rw [hz]; exact h1) (by rw [hfl]; exact h2)
 rw [hz,hfl] at a
 have b:=a1L (js:=J1 p (n + 1)) (by rw [hzl]; exact mV _ _ _ _) hE zo a
 rw [hl] at b
 have d:=a4r q2 b
 rwa [q1] at d
end
theorem Vx {M:List (List Qi)} {k:Nat} (hM:cB M k k):sS 1 M k = M:=lB Fm hM fun i hi j hj=>by rw [sS,eI hi hj]; grind
section
variable {z:List Qi} {s:List (List Qi)} {g:Qi} {p n:Nat}
theorem a3Q (hp:z.all eA = true) (hpn:p < z.length) (hg:(g * g.conj).re ≤ 1) {t:Qi} (ht:t.conj = t) (ht0:0 ≤ t.re):0 ≤ (Vd z g t p).re:=by
 obtain ⟨c1,c2⟩:=Sc hp p hpn
 have e:Vd z g t p = t * (gv z p * (1 - g * g.conj)):=(Qy (z:=z) (g:=g) (t:=t) (p:=p)).symm
 rw [e]
 refine wY ht ht0 (wY c1 c2 ?_)
 have:(1 - g * g.conj).re = 1 - (g * g.conj).re:=rfl
 rw [this]; grind
theorem a6X {c : List (List Qi)} {t : Qi} (hz : z.length = n) (hp : p < n) (hpz : z.all eA = true) (hc : cB c n n) (hd : Vc s g p ≠ 0) (hg : (g * g.conj).re ≤ 1) (ht : t.conj = t) (ht0 : 0 ≤ t.re)
  (h:sZ n (gm c)):sZ (n - 1) (gm (ntC z s c g t p)):=by
 rw [← a1s hz hp hc hd rfl]
 have hr:=a3Q (z:=z) (p:=p) hpz zo hg ht ht0
 have a : sZ 1 (gm [[Vd z g t p]]) := fun x => by
  have e:kG 1 x x (gm [[Vd z g t p]]) = 0 + (0 + x 0 * Vd z g t p * (x 0).conj):=rfl
  have e2:0 + (0 + x 0 * Vd z g t p * (x 0).conj) = Vd z g t p * (x 0 * (x 0).conj):=by grind
  rw [e,e2]
  have hcj : (Vd z g t p).conj = Vd z g t p := by
   have e3:Vd z g t p = t * (gv z p * (1 - g * g.conj)):=(Qy (z:=z) (g:=g) (t:=t) (p:=p)).symm
   rw [e3,dS,dS,sI,dS,jN,jY,ht,(Sc hpz p zo).1]; grind
  exact wY hcj hr (Rd _)
 have b:=Nr h a
 have d:=Kk (p:=Ce (jD s g n) (J1 p n) (n + 1)) (mV _ _ _ _).1 b
 rwa [show (Ce (jD s g n) (J1 p n) (n + 1)).length = n - 1 by rw [Ce,List.length_map,Cj hp,yI hp]] at d
theorem a4s (hz : z.length = n) (hs : cB s n n) (hp : p < n) (hn : n ≠ 1) (hpz : z.all eA = true) (hd : Vc s g p ≠ 0) (hg : (g * g.conj).re ≤ 1) (h : sZ n (gm (iA z s))) :
  sZ (n - 1) (gm (iA (zA z p (n - 1)) (Ox s p (n - 1) (kW s p g)))):=by
 have a:=a4R (t:=1) hz hs hp hn hd
 have o:cB (iA z s) n n:=by have:=lZ z s; rwa [hz] at this
 have o2 : cB (iA (zA z p (n - 1)) (Ox s p (n - 1) (kW s p g))) (n - 1) (n - 1) := by
  have:=lZ (zA z p (n - 1)) (Ox s p (n - 1) (kW s p g))
  rwa [show (zA z p (n - 1)).length = n - 1 from aE _ _] at this
 rw [Vx o,Vx o2] at a
 rw [← a]
 exact a6X hz hp hpz o hd hg jY (by show (0:Rat) ≤ (1:Qi).re; decide +kernel) h
end
theorem Ku {p : Nat → Bool} : ∀ {f lo hi : Nat}, p lo = true → p (Lg p f lo hi) = true
 | 0,_,_,h=>h
 | f + 1, lo, hi, h => by
  rw [Lg]
  by_cases c:lo < hi
  ·rw [if_pos c]
   by_cases k:p ((lo + hi + 1) / 2) = true
   ·rw [if_pos k]; exact Ku k
   ·rw [if_neg k]; exact Ku h
  ·rw [if_neg c]; exact h
theorem Vy {z:List Qi} {s:List (List Qi)} (hp:z.all eA = true):He (xJ z (zK s z.length (Rr z s))) z.length = true:=by
 refine Ku (p:=fun k=>He (xJ z (zK s z.length k)) z.length) ?_
 rw [Jf (vW _ _ _) hp]
 intro x
 rw [Fe (vW _ _ _)]
 have e : (tS z.length (gv z) fun u => aC z.length fun a => x a * gm (zK s z.length 0) a u) = 0 := cE fun u hu => by
  have e0:(aC z.length fun a=>x a * gm (zK s z.length 0) a u) = 0:=cE fun a ha=>by rw [zK,eI ha hu,show scF 0 = 0 by decide +kernel]; grind
  show (aC z.length fun a=>x a * gm (zK s z.length 0) a u) * gv z u * (aC z.length fun a=>x a * gm (zK s z.length 0) a u).conj = 0
  rw [e0]; grind
 rw [e]
 have:=a1m (x:=x) (Sc hp)
 have e2 : (tS z.length (gv z) x - 0).re = (tS z.length (gv z) x).re := by
  have:tS z.length (gv z) x - 0 = tS z.length (gv z) x:=by grind
  rw [this]
 rw [e2]; exact this
end
section
open Go Go.RowKit
theorem Ot (f : Nat → Qi) : ∀ n, (∀ i, i < n → 0 ≤ (f i).re) → (aC n f).re ≤ 0 → ∀ i, i < n → (f i).re = 0
 | 0,_,_,i,hi=>by omega
 | n + 1, h, h0, i, hi => by
  have a:=Rx f n fun i hi=>h i zo
  have b:=h n zo
  rw [gU] at h0
  have e:(aC n f + f n).re = (aC n f).re + (f n).re:=rfl
  rw [e] at h0
  by_cases c:i = n
  ·subst c; grind
  ·exact Ot f n (fun i hi=>h i zo) (by grind) i zo
section
variable {z w:List Qi} {s:List (List Qi)} {n:Nat}
theorem a4z (hz:z.length = n) (hw:w.length = n) (hp:z.all eA = true) (hq:w.all eA = true) (h:sZ n (gm (xJ z s))):Lf z w s = 0:=by
 rw [a1W (by rw [hw,hz]) hq]
 refine a6O (iB fun k hk=>?_)
 apply Classical.byContradiction; intro e
 obtain ⟨y,hy,k,hk,hne⟩:=Fr (vM _ _ _ _) e
 rw [hw] at hy hk
 obtain ⟨b,hb⟩:∃ b:Nat → Qi,b = fun i=>aC n fun j=>gm s i j * y j:=⟨_,rfl⟩
 have h1 : ∀ i, i < n → (1 + mB z w i) * y i + (1 - mB z w i) * b i = 0 := fun i hi => by
  rw [← hy i hi,hb]
  show _ + (1 - mB z w i) * (aC n fun j=>gm s i j * y j) = _
  have hB:An z w s = mxM (Zd z w) (Zc z w) s n:=by rw [← hw]
  have t : ∀ j, j < n → gm (mxM (Zd z w) (Zc z w) s n) i j * y j = (if j = i then (1 + mB z w i) * y j else 0) + (1 - mB z w i) * (gm s i j * y j) := fun j hj => by
   rw [← hB,a1V hw hi hj]
   by_cases c:i = j
   ·rw [if_pos c,if_pos c.symm]; grind
   ·rw [if_neg c,if_neg (Ne.symm c)]; grind
  rw [aA t,jP,bO hi (fun u _ hne=>if_neg hne),if_pos rfl,gY]
 have hwt:=Sc hp
 have hiv:=Sb hp
 have hv2:=Sc hq
 rw [hz] at hwt hiv
 rw [hw] at hv2
 have hrr:∀ i,i < n → (mB z w i).conj = mB z w i ∧ mB z w i * gv z i = gv w i:=fun i hi=>Nx hz hw hp hq hi
 have hrn : ∀ i, i < n → 0 ≤ (mB z w i).re := fun i hi => by
  obtain ⟨c1,c2⟩:=hrr i hi
  have e1:mB z w i = gv w i * Qi.inv (gv z i):=by rw [mB,Qi.div_def]
  rw [e1]; exact wY (hv2 i hi).1 (hv2 i hi).2 (hiv i hi).2
 have hx:=h fun a=>(y a).conj
 subst hz
 rw [Cr] at hx
 have hT : tS z.length (fun i => Qi.inv (gv z i)) (fun a => (y a).conj) - tS z.length (fun i => Qi.inv (gv z i)) (fun u => aC z.length fun a => (y a).conj * (gm s u a).conj) = aC z.length fun i => -(Qi.inv (gv z i) * mB z w i * ((y i - b i) * (y i - b i).conj)) := by
  rw [tS,tS,sU]
  refine aA fun i hi=>?_
  have eb : (aC z.length fun a => (y a).conj * (gm s i a).conj) = (b i).conj := by
   rw [hb,nO]; exact aA fun a _=>by rw [dS]; grind
  rw [eb,jN,jN,sI]
  have a1:=h1 i hi
  have a2:=congrArg Qi.conj a1
  rw [nN,dS,dS,nN,sI,jY,(hrr i hi).1,fN] at a2
  generalize (y i).conj = Y at *
  generalize (b i).conj = B at *
  generalize mB z w i = r at *
  generalize Qi.inv (gv z i) = v
  generalize y i = y0 at *
  generalize b i = b0 at *
  clear hx h hy
  have c1:y0 + b0 = -(r * (y0 - b0)):=by grind
  have c2:Y + B = -(r * (Y - B)):=by grind
  have c3:(Y * v * y0 - B * v * b0) + (Y * v * y0 - B * v * b0) = v * ((y0 + b0) * (Y - B) + (Y + B) * (y0 - b0)):=by grind
  rw [c1,c2] at c3
  have c4:(Y * v * y0 - B * v * b0) + (Y * v * y0 - B * v * b0) = -(v * r * ((y0 - b0) * (Y - B))) + -(v * r * ((y0 - b0) * (Y - B))):=by rw [c3]; grind
  generalize Y * v * y0 - B * v * b0 = P at *
  generalize -(v * r * ((y0 - b0) * (Y - B))) = Q at *
  refine Qi.ext' ?_ ?_
  ·have := congrArg Qi.re c4
   have e1:(P + P).re = P.re + P.re:=rfl
   have e2:(Q + Q).re = Q.re + Q.re:=rfl
   grind
  ·have := congrArg Qi.im c4
   have e1:(P + P).im = P.im + P.im:=rfl
   have e2:(Q + Q).im = Q.im + Q.im:=rfl
   grind
 rw [hT] at hx
 have hneg : ∀ (f : Nat → Qi) n, (aC n fun i => -(f i)) = -(aC n f) := fun f n => by
  induction n with
  | zero=>show (0:Qi) = -0; grind
  | succ n ih=>rw [gU,gU,ih]; grind
 rw [hneg] at hx
 have hx2 : (aC z.length fun i => Qi.inv (gv z i) * mB z w i * ((y i - b i) * (y i - b i).conj)).re ≤ 0 := by
  have:∀ Q:Qi,(-Q).re = -Q.re:=fun _=>rfl
  rw [this] at hx; grind
 have hk1:∀ i,i < z.length → (Qi.inv (gv z i) * mB z w i).conj = Qi.inv (gv z i) * mB z w i ∧ 0 ≤ (Qi.inv (gv z i) * mB z w i).re:=fun i hi=>⟨by rw [dS,(hiv i hi).1,(hrr i hi).1],wY (hiv i hi).1 (hiv i hi).2 (hrn i hi)⟩
 have hzr:=Ot _ z.length (fun i hi=>wY (hk1 i hi).1 (hk1 i hi).2 (Rd (y i - b i))) hx2 k hk
 have hkk:=hk1 k hk
 have hnz : Qi.inv (gv z k) * mB z w k ≠ 0 := fun e0 => by
  have e1:=kN (nK hp hk)
  have e2:=(hrr k hk).2
  have e3:=nK hq (show k < w.length by omega)
  have : gv w k = 0 := by
   have:gv w k = (gv z k * Qi.inv (gv z k)) * gv w k:=by rw [e1]; grind
   rw [this,← e2]
   have:gv z k * Qi.inv (gv z k) * (mB z w k * gv z k) = gv z k * gv z k * (Qi.inv (gv z k) * mB z w k):=by grind
   rw [this,e0]; grind
  exact e3 this
 have hc0 : y k - b k = 0 := by
  generalize Qi.inv (gv z k) * mB z w k = K at *
  generalize y k - b k = c at *
  have hi0:K.im = 0:=vS hkk.1.symm
  have e1:(K * (c * c.conj)).re = K.re * (c.re * c.re - c.im * -c.im) - K.im * (c * c.conj).im:=rfl
  rw [e1,hi0] at hzr
  have hr:K.re ≠ 0:=fun e=>hnz (Qi.ext' e hi0)
  have e2:K.re * (c.re * c.re + c.im * c.im) = 0:=by grind
  rcases Rat.mul_eq_zero.1 e2 with q | q
  ·exact absurd q hr
  ·have p1 := kS c.re
   have p2:=kS c.im
   have q1:c.re * c.re = 0:=by grind
   have q2:c.im * c.im = 0:=by grind
   refine Qi.ext' ?_ ?_
   ·rcases Rat.mul_eq_zero.1 q1 with k | k <;> exact k
   ·rcases Rat.mul_eq_zero.1 q2 with k | k <;> exact k
 have a1:=h1 k hk
 have : y k + y k = 0 := by
  have:b k = y k:=by grind
  rw [this] at a1; grind
 refine hne (Qi.ext' ?_ ?_)
 ·have e := congrArg Qi.re this
  have e2:(y k + y k).re = (y k).re + (y k).re:=rfl
  have e3:(0:Qi).re = 0:=rfl
  grind
 ·have e := congrArg Qi.im this
  have e2:(y k + y k).im = (y k).im + (y k).im:=rfl
  have e3:(0:Qi).im = 0:=rfl
  grind
end
end
section
open Go Go.RowKit
theorem Pp {n : Nat} {E : cT} {H : Hp} {d : Option Tmp} {t : TypeId} {pos : String} {af : Array Edge} {g : Option (Nat × Bool)} {x0 x1 : Operand} {T0 T1 : Ty} [s0 : dD T0 1 false] (h0 : bH E x0 T0) [s1 : dD T1 1 false] (h1 : bH E x1 T1) :
  aM Tryz.prog n E H ⟨d,.build 64 #[(0,x0),(1,x1)],t,pos,af,g⟩ (eT [T0,T1]) :=
 iQ (parts := [(0, x0), (1, x1)]) fun a V w hs => by
  have p0:=h0 n V a hs
  generalize e0:a.eval x0 = v0 at p0
  have q0:=(s0.ok v0 V p0).2.2 rfl
  have p1:=h1 n V a hs
  generalize e1:a.eval x1 = v1 at p1
  have q1:=(s1.ok v1 V p1).2.2 rfl
  refine ⟨.agg #[v0,v1],?_,[v0,v1],rfl,aW (⟨p0,q0⟩) (aW (⟨p1,q1⟩) (aG))⟩
  simp [e0,e1,Instr.build,Instr.fill,Sem.run_bind,Result.andThen,gI,q0.cells,q1.cells,Tryz.zeroValue64,U_64,Z_3]
end
section
open Go Go.RowKit
structure Zg (z:List Qi) (s:List (List Qi)) (L:Nat):Prop where
 fz:bI z L
 fs:bE s L
 hL:1 ≤ L
 hb:L ≤ 10000000000
 sh:cB s z.length z.length
 h8:z.length ≤ 8
 pos:z.all eA = true
 own:iA z s = Ij z.length z.length
 rc:Rcp z s z.length
theorem Zg.pw {z:List Qi} {s:List (List Qi)} {L:Nat} (k:Zg z s L):xJ z s = Ij z.length z.length:=a6Q k.sh k.pos k.own
theorem Zg.le {z:List Qi} {s:List (List Qi)} {L M:Nat} (k:Zg z s L) (h:L ≤ M) (h2:M ≤ 10000000000):Zg z s M:=⟨k.fz.le h,k.fs.le h,by have:=k.hL; omega,h2,k.sh,k.h8,k.pos,k.own,k.rc⟩
def otR (l2 l3 k:Nat):Rt where
 re:=((l2 % 256 + k % 1000:Nat):Int)
 im:=0
 den:=((l3 % 256:Nat):Int)
 h1:=by omega
 h2:=by omega
 h3:=by decide
 h4:=by decide
 h5:=by omega
 h6:=by omega
def otW (n l2 l3:Nat):List Qi:=tab n fun k=>(Pc (otR l2 l3 k)).q
theorem a4i (n l2 l3:Nat):(otW n l2 l3).length = n:=aE _ _
theorem a4h (n l2 l3:Nat):bI (otW n l2 l3) 2:=bI.tab fun _ _=>fitRt
theorem a4j (n l2 l3:Nat):(otW n l2 l3).all eA = true:=by
 rw [List.all_eq_true]
 intro x hx
 obtain ⟨k,_,rfl⟩:=dR.1 hx
 exact Ui _
theorem a2B {x y:List Qi} (hx:x.all eA = true) (hy:y.all eA = true):(x ++ y).all eA = true:=by
 rw [List.all_append,hx,hy]; rfl
section
variable {z w zf:List Qi} {S F:List (List Qi)} {p q:Nat}
end
end
section
open Go Go.RowKit
theorem a38 {z:List Qi} {s:List (List Qi)} {i j k L:Nat} (hs:bE s L) (hL:1 ≤ L) (hLb:L ≤ 1000) (hk:k ≤ 1000000) (hsh:cB s z.length z.length) (hi:i < z.length) (hj:j < z.length):bB Tryz.prog 111 [NT .i64 i,NT .i64 j,PT (aI (scF k)),PT (cO z s)] (aI (scF k * gm s i j)):=by
 have hsl:=hsh.1
 have hsr:=hsh.row hi
 haveI f0:=Vw (k:=k) zo
 haveI f1:aF (gm s i j) L:=hs.get hL i j
 refine bB.intro Tryz.func111 rfl Tryz.ntmps111 rfl (fun cx=>(ts (rn rfl (eU (Ts:=[Is (.bool false),Is (.slice none 0 0),Is (.bool false),Is (.slice none 0 0),Is (.slice none 0 0)]) O_60 rfl (fun V=>aW zd (aW zd (aW zd (aW zd (aW zd (aG))))))) fun B6=>(eW (cU (fW (m:=9) (dp 2 rfl (dW A_60 Z_60 (Ht rfl)) (dp 3 rfl (gR eD (Ht rfl) rfl) (dq 8 1 rfl (dW A_26 Z_26 (Ht rfl)) (dp 0 rfl (cZ (Ht rfl)) ?_))))))))))
 refine dE 9 2 10 3 rfl (dJ U_26 Z_25 (Ht rfl) (Ht rfl) rfl (eZ (eX (d:=[]) zo))) (dq 11 4 rfl (dW A_25 Z_25 (Ht rfl)) (dp 1 rfl (cZ (Ht rfl)) (dE 12 5 13 6 rfl (dJ U_25 Z_60 (Ht rfl) (Ht rfl) rfl (eZ (eX (d:=Qi.zero) zo))) (dq 14 7 rfl (dW A_60 Z_60 (Ht rfl)) (fK aS rfl (by kernel_rfl) (zF (zF (aJ (aV (ro rfl (cJ K_70 (lS (x:=scF k) (y:=gm s i j) (L:=2) (M:=L) zo) ⟨(Ht rfl),(Ht rfl),trivial⟩) ?_))))))))))
 refine gJ Z_60 (Ht rfl) (Ht rfl) rfl (i:=0) rfl (aK rfl) rfl rfl (eW ?_)
 exact fU rfl (gQ A_60 Z_60 rfl (i:=0) rfl rfl)
theorem a5Z {z:List Qi} {s:List (List Qi)} {k L:Nat} (hs:bE s L) (hL:1 ≤ L) (hLb:L ≤ 1000) (hk:k ≤ 1000000) (hsh:cB s z.length z.length) (h8:z.length ≤ 8):bB Tryz.prog 107 [NT .i64 k,PT (cO z s)] (cO z (zK s z.length k)):=by
 refine bB.intro Tryz.func107 rfl Tryz.ntmps107 rfl (fun cx=>(ts (rn rfl (eU (Ts:=[Is (.slice none 0 0),Is (.slice none 0 0)]) O_28 rfl (fun V=>aW zd (aW zd (aG)))) fun B3=>(eW (ts (rm rfl (ro rfl (cJ Tryz.call108 (a55 (p:=(k:Int)) (q:=0) (d:=1024) zo zo (by decide) (by decide) (by decide) (by decide) (by decide)) ⟨(Ht rfl),(cV 0),(cV 1024),trivial⟩) (rm rfl (ro rfl (eQ (Ht rfl) rfl) (ro rfl (eQ (Ht rfl) rfl) (rn rfl (eU (Ts:=[Is (.bool false),Is (.slice none 0 0),Is (.bool false),Is (.slice none 0 0),Is (.slice none 0 0)]) O_60 rfl (fun V=>aW zd (aW zd (aW zd (aW zd (aW zd (aG))))))) fun B4=>?_)))))))))))
 refine gJ Z_60 (Ht rfl) (Ht rfl) rfl (i:=1) rfl (aK rfl) rfl rfl (ra rfl (eW (cU (gG (i:=1) (tt:=4) rfl rfl jF (fW (m:=7) (dp 1 rfl (gR eP (Ht rfl) rfl) (dq 11 0 rfl (dW A_25 Z_25 (Ht rfl)) (dq 12 1 rfl (cJ Tryz.call109 (Iv (l:=z) zo) ⟨(Ht rfl),trivial⟩) (dp 1 rfl (gR eP (Ht rfl) rfl) (dq 14 3 rfl (dW A_25 Z_25 (Ht rfl)) (dq 15 4 rfl (dY U_25 (Ht rfl) aB) (dpp 4 1 rfl (lO (γ:=Fin z.length × Fin z.length) (Ts:=fun x=>[NT .i64 x.1.1,NT .i64 x.2.1]) (U:=fun x=>aI (scF k * gm s x.1.1 x.2.1)) Tryz.call111 (fun x=>a38 (k:=k) hs hL hLb hk hsh x.1.2 x.2.2) ⟨(Ht rfl),(Ht rfl),trivial⟩) ?_))))))))))))
 refine fK aS rfl (by kernel_rfl) (zF (aJ (aJ (aJ (aV (ro rfl (cJ K_110 (uE (n:=z.length) (f:=fun i j=>scF k * gm s i j) zo) ⟨(Ht rfl),(Ht rfl),trivial⟩) (ro rfl (oK (Ht rfl) (Ht rfl)) (gJ Z_28 (Ht rfl) (Ht rfl) rfl (i:=0) rfl (aK rfl) rfl rfl (eW ?_)))))))))
 exact fU rfl (gQ A_28 Z_28 rfl (i:=0) rfl rfl)
theorem a0c {z:List Qi} {s:List (List Qi)} {L:Nat} (hz:bI z L) (hs:bE s L) (hL:1 ≤ L) (hLb:L ≤ 1000) (hp:z.all eA = true) (hsh:cB s z.length z.length) (h1:1 ≤ z.length) (h8:z.length ≤ 8):bB Tryz.prog 23 [cO z s] (eH [cO z (zK s z.length (Rr z s)),NT .i64 (Rr z s)]):=by
 have hz3:bI z (L + 3):=fun x hx=>(hz x hx).le zo
 have hsf:∀ k,k ≤ 1025 → bE (zK s z.length k) (L + 3):=fun k hk=>Kt hs hL zo
 have hss:=fun k=>vW s z.length k
 have hsd:∀ k,k ≤ 1025 → SzD (xJ z (zK s z.length k)) z.length (dG (51 * (L + 3) + 43)) (dV (51 * (L + 3) + 43)):=fun k hk=>a8q (Cq _ _) (Cp hz3 (hsf k hk) zo hp h8) zo zo h8
 have hKb:=(Fo z s).1
 refine bB.intro Tryz.func23 rfl Tryz.ntmps23 rfl (fun cx=>(ts (rn rfl (fY (Ht rfl)) fun B1=>(rn rfl (eU (Ts:=[Is (.slice none 0 0),Is (.slice none 0 0)]) O_28 rfl (fun V=>aW zd (aW zd (aG)))) fun B2=>(ro rfl (cX (cV 0)) (eW (cU (gG (i:=0) (tt:=1) rfl rfl jF (dQ (ro rfl (lO (γ:={k:Nat // k ≤ 1025}) (Ts:=fun x=>[NT .i64 x.1]) (U:=fun x=>cO z (zK s z.length x.1)) Tryz.call107 (fun x=>a5Z (k:=x.1) hs hL hLb zo hsh h8) ⟨(Ht rfl),trivial⟩) ?_))))))))))
 refine ra rfl (eW (ts (ro rfl (cX (cV 0)) (ro rfl (cX (cV 1024)) (eW (cU (eY (cM [1] rfl (by decide) ?_))))))))
 refine fP (fun (lo : Nat) (hi : Nat) => ((lo ≤ hi ∧ hi ≤ 1024) ∧ ∃ g, hi - lo ≤ g ∧ Lg (fun k => He (xJ z (zK s z.length k)) z.length) g lo hi = Rr z s)) (fun (lo : Nat) (hi : Nat) => hi - lo) (fun (lo : Nat) (hi : Nat) => [(2, cC B2 0), (4, Gg Tryz.prog {k : Nat // k ≤ 1025} (fun x => [NT .i64 x.1]) (fun x => cO z (zK s z.length x.1))), (5, NT .i64 lo), (6, NT .i64 hi)]) (fun (lo : Nat) (hi : Nat) => [box B2 28 [Is (.slice none 0 0), Is (.slice none 0 0)]]) 0 1024 ⟨⟨by decide, by decide⟩, 1024, by decide, rfl⟩
  (zS rfl) (aU (aD rfl) aY) (fun lo hi ⟨⟨hlh,hh4⟩,g,hg,hK⟩=>?_)
 refine cU (ts (rm rfl (rm rfl (ro rfl (gV (Ht rfl) (Ht rfl)) (eW (dX (Ht rfl) (fun hc=>?_) (fun hc=>?_)))))))
 ·have hlt : lo < hi := by simp only [decide_eq_true_eq] at hc; omega
  have u1:=a7a (p:=(fun k=>He (xJ z (zK s z.length k)) z.length)) hg hlt
  have u2:=a79 (p:=(fun k=>He (xJ z (zK s z.length k)) z.length)) hg hlt
  obtain ⟨m,hm⟩:∃ m,m = (lo + hi + 1) / 2:=⟨_,rfl⟩
  rw [← hm] at u1 u2
  have hm1:lo < m:=by omega
  have hm2:m ≤ hi:=by omega
  refine cY (eY (ts (rm rfl (rm rfl (ro rfl (dK (Ht rfl) (Ht rfl) z6) (ro rfl (dK (Ht rfl) (cV 1) z6) (ro rfl (jS (Ht rfl) (cV 2) zo z6) (ro rfl (aM.nat (cX (Ht rfl)) hm.symm) (eW (ts (rm rfl (rm rfl (ro rfl (nX ⟨m,by omega⟩ (Ht rfl) ⟨(Ht rfl),trivial⟩) (ro rfl (cJ Tryz.call16 (zV hz3 (hsf m zo) zo zo (hss m) h8 hp (fun _=>hsd m zo)) ⟨(Ht rfl),trivial⟩) ?_))))))))))))))
  refine rm rfl (ro rfl (eQ (Ht rfl) rfl) (ro rfl (eQ (Ht rfl) rfl) (ra rfl (ra rfl (eW (ts (rm rfl (eW (dX (Ht rfl) (fun hpp=>?_) (fun hpp=>?_))))))))))
  ·obtain ⟨g2, hg2, e2⟩ := u1 hpp
   refine dQ (rm rfl (ra rfl (eW (bM (gX (m,hi) ⟨⟨hm2,hh4⟩,g2,hg2,by rw [← e2]; exact hK⟩ (by dsimp only; omega) (zS rfl) (aU (aD rfl) aY))))))
  ·obtain ⟨g2, hg2, e2⟩ := u2 (fun e => by
    have e3:He (xJ z (zK s z.length m)) z.length = true:=e
    rw [e3] at hpp; cases hpp)
   refine dQ (rm rfl (ro rfl (dU (Ht rfl) (cV 1) zo z6) (ra rfl (eW (bM (gX (lo,m - 1) ⟨⟨by omega,by omega⟩,g2,hg2,by rw [← e2]; exact hK⟩ (by dsimp only; omega) (zS rfl) (aU (aD rfl) aY)))))))
 ·have hge : ¬ lo < hi := by simp only [decide_eq_false_iff_not] at hc; omega
  have hk:=hK.symm.trans (a4K hge)
  rw [hk] at hKb ⊢
  refine gK rfl (ts (rm rfl (rm rfl (ro rfl (nX ⟨lo,by omega⟩ (Ht rfl) ⟨(Ht rfl),trivial⟩) (rm rfl (gJ Z_28 (Ht rfl) (Ht rfl) rfl (i:=0) rfl (aK rfl) rfl rfl (ra rfl (eW ?_))))))))
  exact bN rfl (gQ A_28 Z_28 rfl (i:=0) rfl rfl) (fX rfl)
end
end Go.Proofs.YtdlciihkiefckaaGreat
