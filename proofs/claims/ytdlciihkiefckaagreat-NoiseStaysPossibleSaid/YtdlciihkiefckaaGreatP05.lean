/- What functions of the program compute, proved by walks over their code, and the plain mathematics of it; a part of the proof in the last text. -/
import Derived.Test.YtdlciihkiefckaaGreatP04
set_option linter.unusedVariables false
set_option linter.unusedSimpArgs false
set_option maxRecDepth 100000
set_option maxHeartbeats 4000000
namespace Go.Proofs.YtdlciihkiefckaaGreat
section
open Go Go.RowKit
theorem Mp {h:List (List Qi)} {n L G0 V0:Nat} (hs:cF h n n) (hf:aN h L) (hL:1 ≤ L) (hLb:L ≤ 4000000000000) (hz:lP h n = true → SzD h n G0 V0) (hn:n ≤ 32):bR Tryz.prog 98 [aR h] (eD [aH (Tn h n),aM (dfW h n),aP .i64 (dfX h n)]):=by
 have hsl:=hs.1
 haveI h0:=iP
 refine bR.intro Tryz.func98 rfl Tryz.ntmps98 rfl (fun cx=>(ts (ro rfl (cQ cV) (ro rfl (cQ cV) (ro rfl (cQ (cJ 0)) (eX (cK (ts (rm rfl (ro rfl (cZ Tryz.call172 (Er hs hn) ⟨(Ht rfl),trivial⟩) (ro rfl (dH (Ht rfl)) (eX (nO (Ht rfl) (by rfl) ?_)))))))))))))
 refine cU (cK (ts (rm rfl (ro rfl (dG U_26 (Ht rfl) (by rw [List.length_map,hsl])) ?_))))
 refine ro rfl (cX (cJ 0)) (eX (eG ?_))
 refine cA (fun (i : Nat) => i ≤ n ∧ ∀ a, a < i → ∀ b, b < n → gm h a b = (gm h b a).conj) (fun (i : Nat) => n - i) (fun (i : Nat) => [(0, aR h), (19, aR h), (20, NT .i64 n), (21, NT .i64 i)]) (fun (i : Nat) => []) 0 ⟨Nat.zero_le _, fun a h => by omega⟩
  (zS rfl) aY (fun i ⟨hi,hh⟩=>?_)
 refine ts (ro rfl (gX (Ht rfl) (Ht rfl)) (eX (cK (dQ (Ht rfl) (fun hc=>?_) (fun hc=>?_)))))
 ·have hin : i < n := by simp only [decide_eq_true_eq] at hc; omega
  have hri:=hs.row hin
  refine cU (cK (eG (ts (rm rfl (ro rfl (dZ U_26 Z_25 (Ht rfl) (Ht rfl) rfl (dY (dU (d:=[]) zo))) (ro rfl (dJ A_25 Z_25 (Ht rfl)) (ra rfl (ra rfl (eX (ts (rm rfl (ro rfl (dG U_25 (Ht rfl) (by rw [List.length_map,hri])) ?_))))))))))))
  refine ro rfl (cX (cJ 0)) (eX (eG ?_))
  refine cA (fun (k : Nat) => k ≤ n ∧ ∀ b, b < k → gm h i b = (gm h b i).conj) (fun (k : Nat) => n - k) (fun (k : Nat) => [(0, aR h), (5, NT .i64 i), (6, aM (h.getD i [])), (19, aR h), (20, NT .i64 n), (21, NT .i64 i), (27, NT .i64 n), (28, NT .i64 k)]) (fun (k : Nat) => []) 0 ⟨Nat.zero_le _, fun b h => by omega⟩
   (zS rfl) aY (fun k ⟨hk,hk0⟩=>?_)
  refine ts (ro rfl (gX (Ht rfl) (Ht rfl)) (eX (cK (dQ (Ht rfl) (fun hd=>?_) (fun hd=>?_)))))
  ·have hkn : k < n := by simp only [decide_eq_true_eq] at hd; omega
   have hrk:=hs.row hkn
   haveI f1:aE (gm h i k) L:=hf.get hL i k
   haveI f2:aE (gm h k i) L:=hf.get hL k i
   haveI f3:aE (gm h k i).conj L:=fitConj
   refine cU (cK (eG (ts (rm rfl (ra rfl (eX (cK (fZ (m:=12) (dp 6 rfl (cX (Ht rfl)) (dp 7 rfl (cX (Ht rfl)) (cP 31 0 32 1 rfl (dZ U_25 Z_60 (Ht rfl) (Ht rfl) rfl (dY (dU (d:=Qi.zero) zo))) (dq 33 2 rfl (dJ A_60 Z_60 (Ht rfl)) (dp 0 rfl (cX (Ht rfl)) (dp 7 rfl (cX (Ht rfl)) (cP 35 4 36 5 rfl (dZ U_26 Z_25 (Ht rfl) (Ht rfl) rfl (dY (dU (d:=[]) zo))) (dq 37 6 rfl (dJ A_25 Z_25 (Ht rfl)) (dp 5 rfl (cX (Ht rfl)) ?_)))))))))))))))))
   refine cP 38 7 39 8 rfl (dZ U_25 Z_60 (Ht rfl) (Ht rfl) rfl (dY (dU (d:=Qi.zero) zo))) (dq 40 9 rfl (dJ A_60 Z_60 (Ht rfl)) (dq 41 10 rfl (cZ K_173 wD ⟨(Ht rfl),trivial⟩) (fV bC rfl (by kernel_rfl) (zF (zF (zF (aV (ro rfl (cZ Tryz.call100 (Xd (x:=gm h i k) (y:=(gm h k i).conj) (L:=L) (M:=L) zo zo) ⟨(Ht rfl),(Ht rfl),trivial⟩) (ro rfl (dH (Ht rfl)) ?_)))))))))
   refine eX (dQ (Ht rfl) (fun he=>?_) (fun he=>?_))
   ·have hne : ¬ gm h i k = (gm h k i).conj := by simpa using he
    have hf0:¬ lP h n = true:=fun e=>hne (of_decide_eq_true e i hin k hkn)
    refine ts (ro rfl (cQ cV) (ro rfl (cQ cV) (ro rfl (cQ (cJ 1)) (eX (Gi rfl (fX (eU rfl) ?_) (fX (eU rfl) ?_) (fX (eU rfl) ?_))))))
    ·exact (fA (by rw [Tn,if_neg hf0]))
    ·exact (fun v V k=>by rw [dfW,if_neg hf0]; exact iR v V k)
    ·exact (bE (by rw [dfX,if_neg hf0]; rfl))
   ·have heq : gm h i k = (gm h k i).conj := by simpa using he
    refine cU (bL (cY (ro rfl (dV (Ht rfl) (cJ 1) z6) (rm rfl (eX ?_)))))
    refine fU (k + 1) ⟨hkn, fun b h1 => by
      by_cases e:b = k
      ·rw [e]; exact heq
      ·exact hk0 b zo⟩ zo (zS rfl) aY
  ·have hkn : k = n := by simp only [decide_eq_false_iff_not] at hd; omega
   refine gW rfl (bL (cY (ro rfl (dV (Ht rfl) (cJ 1) z6) (rm rfl (eX ?_)))))
   refine fU (i + 1) ⟨hin, fun a h1 b h2 => by
     by_cases e:a = i
     ·rw [e]; exact hk0 b zo
     ·exact hh a zo b h2⟩ zo (zS rfl) aY
 ·have hin : i = n := by simp only [decide_eq_false_iff_not] at hc; omega
  have hh0:lP h n = true:=decide_eq_true (fun a h1 b h2=>hh a zo b h2)
  have hz:=hz hh0
  have hg1:=hz.g1
  have hv1:=hz.v1
  have hzb:=hz.b
  clear hin hi hh hc
  refine gW rfl (ts (rm rfl (iN Tryz.call195 (En hs zo zo) ⟨(Ht rfl),cV,trivial⟩ rfl (fun B48 _=>(rm rfl (ro rfl (dG U_26 (Ht rfl) (by rw [List.length_map,hsl])) ?_))))))
  refine iN Tryz.call144 (Xa (n:=n) hn) ⟨(Ht rfl),trivial⟩ rfl (fun B51 _=>(ra rfl (ra rfl (eX (cK (ts (rm rfl (ro rfl (eT U_26 (Ht rfl)) (ro rfl (cX (cJ 0)) (eX (eG (Mj 1 (m:=n) (Us:=(rO n).map aM) rfl (Nat.le_trans hn (by decide)) (by rw [bM,List.length_map,(nR n).1]) (by rw [bM,List.map_map]; rfl) ?_))))))))))))
  refine Gh 0 rfl (fun vs hvs=>?_)
  have hvs2:Hds vs n:=by have h:=hvs; rw [bM,List.length_map,hsl] at h; exact h
  refine cA (fun (i : Nat) => i ≤ n ∧ yQ h n (n - i) i = yQ h n n 0) (fun (i : Nat) => n - i) (fun (i : Nat) => [(8, Is (.slice (some ⟨B48, 0, none⟩) n n)), (9, Is (.slice (some ⟨B51, 0, none⟩) n n)), (53, NT .i64 n), (54, NT .i64 i)]) (fun (i : Nat) => [jL B48 25 60 5 vs vs (bM aF (gM h n i).1), bF 25 1 (.slice (some ⟨B51, 0, none⟩) n n) ((gM h n i).2.map aM)]) 0 ⟨Nat.zero_le _, rfl⟩
   (zS rfl) (dR.refl _) (fun i ⟨hi,hR⟩=>?_)
  refine ts (ro rfl (gX (Ht rfl) (Ht rfl)) (eX (cK (dQ (Ht rfl) (fun hc=>?_) (fun hc=>?_)))))
  ·have hin : i < n := by simp only [decide_eq_true_eq] at hc; omega
   have hvl:=hvs2.len
   obtain ⟨hGs,hVs⟩:=qG hs i hi
   have hGf:=hz.g i hi
   have hVf:=hz.v i hi
   have r1:=a1F (h:=h) hin
   have r2:=a1E (h:=h) hin
   have r3:=a4j (h:=h) hin
   have r4:=xB (h:=h) (n:=n) (i:=i)
   have r5:=Gw (h:=h) (n:=n) (i:=i)
   rw [hR] at r1 r2 r3
   obtain ⟨S,hS⟩:∃ S,S = gM h n (i + 1):=⟨_,rfl⟩
   rw [← hS] at r4 r5
   obtain ⟨D,hD⟩:∃ D,D = gM h n i:=⟨_,rfl⟩
   rw [← hD] at hGs hVs hGf hVf r1 r2 r3 r4 r5 ⊢
   obtain ⟨X,U⟩:=D
   dsimp only at hGs hVs hGf hVf r1 r2 r3 r4 r5 ⊢
   have hXl:=hGs.1
   have hUl:=hVs.1
   have hri:=hGs.row hin
   haveI g1:aE (gm X i i) G0:=hGf.get hg1 i i
   refine cU (cK (eG (ts (rm rfl (ra rfl (eX (cK (ts (rm rfl (rm rfl (ro rfl (fY U_26 Z_25 (Ht rfl) (Ht rfl) rfl zo (by rw [Nat.mul_one,Nat.zero_add])) ?_)))))))))))
   refine ro rfl (fE A_25 Z_25 (Ht rfl) (j:=0) rfl zo) (rm rfl (ro rfl (gH U_25 Z_60 (Ht rfl) (Ht rfl) rfl (j:=0) rfl zo zo zo) (ro rfl (kA A_60 Z_60 (Ht rfl) (j:=0) rfl zo zo zo) (ro rfl (aS.imp (wT ) lY) (ro rfl (cZ K_51 (Bu (x:=gm X i i) (y:=Qi.zero) (L:=G0) (M:=1) (hy:=aE.zero (Nat.le_refl 1)) zo) ⟨(Ht rfl),(Ht rfl),trivial⟩) (ro rfl (uB (Ht rfl) cV) (eX (dQ (Ht rfl) (fun hng=>?_) (fun hng=>?_)))))))))
   ·have hq := r1 hng
    refine cK (fZ (m:=5) (dp 9 rfl (cX (Ht rfl)) (dp 10 rfl (cX (Ht rfl)) (cP 67 0 68 1 rfl (cL U_26 Z_25 (Ht rfl) (Ht rfl) rfl (i:=1) rfl (by rw [List.length_map]; omega) rfl) ?_))))
    refine dq 69 2 rfl (mI A_25 Z_25 (Ht rfl) (i:=1) rfl rfl (dY (dU (d:=[]) zo))) (d0 rfl (cQ cV) (fV bC rfl (by kernel_rfl) (zF (aJ (aV (ra rfl (ro rfl (cQ (cJ 0)) (eX (Gi rfl (fX (eU rfl) ?_) (fX (eU rfl) ?_) (fX (eU rfl) ?_))))))))))
    ·exact (fA (by rw [Tn,if_pos hh0,hq]))
    ·exact (kB (by rw [dfW,if_pos hh0,hq]))
    ·exact (bE (by rw [dfX,if_pos hh0]; rfl))
   ·have hng2 : Md (gm X i i) ≠ true := by rw [Md, hng]; simp
    refine cU (cK (ts (rm rfl (rm rfl (rm rfl (a0X Tryz.call196 (Mx (i:=i) (L:=G0) (M:=V0) hGs hVs hvs2 hGf hVf hg1 hv1 zo hin hn) (i:=0) (j:=1) rfl rfl (by decide) ⟨(Ht rfl),(Ht rfl),(Ht rfl),trivial⟩ rfl (fun uu _=>(ra rfl (eX (ts (rm rfl (ro rfl (Ut (q:=decide (Ey X U n i ≠ [])) (by simp) U_25 (Ht rfl)) ?_))))))))))))
    refine eX (dQ (Ht rfl) (fun hw=>?_) (fun hw=>?_))
    ·have hw2 : Ey X U n i ≠ [] := by simpa using hw
     have hq:=r2 hng2 hw2
     refine ts (rm rfl (ro rfl (cQ cV) (ra rfl (ro rfl (cQ (cJ 0)) (eX (Gi rfl (fX (eU rfl) ?_) (fX (eU rfl) ?_) (fX (eU rfl) ?_)))))))
     ·exact (fA (by rw [Tn,if_pos hh0,hq]))
     ·exact (fun v V k=>by rw [dfW,if_pos hh0,hq]; exact k.elim (fun k=>absurd k.1 (by simpa using hw2)) (fun k=>k.2))
     ·exact (bE (by rw [dfX,if_pos hh0]; rfl))
    ·have hw2 : Ey X U n i = [] := by simpa using hw
     have hq:=r3 hng2 hw2
     refine cU (cK (ts (rm rfl (rm rfl (ro rfl (fY U_26 Z_25 (Ht rfl) (Ht rfl) rfl zo (by rw [Nat.mul_one,Nat.zero_add])) ?_)))))
     refine ro rfl (fE A_25 Z_25 (Ht rfl) (j:=0) rfl zo) (rm rfl (ro rfl (gH U_25 Z_60 (Ht rfl) (Ht rfl) rfl (j:=0) rfl zo zo zo) (ro rfl (kA A_60 Z_60 (Ht rfl) (j:=0) rfl zo zo zo) (ro rfl (cZ Tryz.call82 (wU (x:=gm X i i) (L:=G0) zo) ⟨(Ht rfl),trivial⟩) (ro rfl (dH (Ht rfl)) (eX (dQ (Ht rfl) (fun hcl=>?_) (fun hcl=>?_))))))))
     ·have hx0 : gm X i i = Qi.zero := by simpa using hcl
      have e4:=r4 hx0
      refine gW rfl (cY (ro rfl (dV (Ht rfl) (cJ 1) z6) (rm rfl (eX (fU (i + 1) ⟨hin,hq.symm⟩ zo (zS rfl) (aU (oY (by rw [← hS,e4])) (aU (aO (by rw [← hS,e4])) aY)))))))
     ·have hx0 : ¬ gm X i i = Qi.zero := by simpa using hcl
      have e5:=r5 hx0
      refine cU (ts (rm rfl (ro rfl (dV (Ht rfl) (cJ 1) z6) (ra rfl (eX (eG ?_))))))
      refine cA (fun (k : Nat) => i + 1 ≤ k ∧ k ≤ n) (fun (k : Nat) => n - k) (fun (k : Nat) => [(8, Is (.slice (some ⟨B48, 0, none⟩) n n)), (9, Is (.slice (some ⟨B51, 0, none⟩) n n)), (10, NT .i64 i), (12, NT .i64 k), (53, NT .i64 n), (54, NT .i64 i)]) (fun (k : Nat) => [jL B48 25 60 5 vs vs (bM aF (xC X n i k 0)), bF 25 1 (.slice (some ⟨B51, 0, none⟩) n n) ((oG X U n i k).map aM)]) (i + 1) ⟨Nat.le_refl _, hin⟩
       (zS rfl) (aU (oY (by rw [Tp hGs])) (aU (aO (by rw [Nc hUl])) aY)) (fun k ⟨hk1,hk2⟩=>?_)
      refine cK (ts (rm rfl (rm rfl (ro rfl (eT U_26 (Ht rfl)) (ro rfl (gX (Ht rfl) (Ht rfl)) (eX (dQ (Ht rfl) (fun hd=>?_) (fun hd=>?_))))))))
      ·have hkn : k < n := by simp only [decide_eq_true_eq] at hd; omega
       have hYs:=qH X n i k 0
       obtain ⟨Yk,hY⟩:∃ Yk,Yk = xC X n i k 0:=⟨_,rfl⟩
       have y1:gm Yk i k = gm X i k:=by rw [hY]; exact Gx hin hkn zo
       have y2:gm Yk i i = gm X i i:=by rw [hY]; exact Gx hin hin zo
       rw [← hY] at hYs ⊢
       have hYl:=hYs.1
       have hYi:=hYs.row hin
       haveI g2:aE (gm X i k) G0:=hGf.get hg1 i k
       haveI g3:aE (gm Yk i k) G0:=by rw [y1]; exact g2
       haveI g4:aE (gm Yk i i) G0:=by rw [y2]; exact g1
       have g5:aE (gm X i k / gm X i i) (G0 + 3 * G0 + 2):=Am g2 g1 hx0
       obtain ⟨Q,hQ⟩:∃ Q,Q = oG X U n i k:=⟨_,rfl⟩
       have q1:Q.getD k [] = U.getD k []:=by rw [hQ]; exact Jz hkn zo
       have q2:Q.getD i [] = U.getD i []:=by rw [hQ]; exact Jz hin zo
       have hQl:Q.length = n:=by rw [hQ]; exact aD _ _
       have q3:bP (Q.getD k []) V0:=by rw [q1]; exact hVf.row k
       have q4:bP (Q.getD i []) V0:=by rw [q2]; exact hVf.row i
       have q5:(Q.getD k []).length = n:=by rw [q1]; exact hVs.row hkn
       have q6:(Q.getD i []).length = n:=by rw [q2]; exact hVs.row hin
       rw [← hQ]
       obtain ⟨F,hF⟩:∃ F,F = gm X i k / gm X i i:=⟨_,rfl⟩
       rw [← hF] at g5
       haveI g6:aE F (G0 + 3 * G0 + 2):=g5
       have g7:aE (-F) (G0 + 3 * G0 + 2):=fitNeg
       have hfd:gm Yk i k / gm Yk i i = F:=by rw [y1,y2,hF]
       refine cU (cK (eG (cK (Y.D_start (m:=20) [] (bY (Ei:=[(8,_)]) rfl rfl (bQ (bJ rfl rfl) bX) rfl rfl (dX rfl (cX (Ht rfl))) (bY (Ei:=[(10,_)]) rfl rfl (bQ (bJ rfl rfl) bX) rfl rfl (dX rfl (cX (Ht rfl))) (bY (Ei:=[(96,_),(97,_)]) rfl rfl (bQ (bZ 0 rfl rfl) (bQ (bZ 1 rfl rfl) bX)) rfl rfl (dX rfl (fY U_26 Z_25 (Ht rfl) (Ht rfl) rfl zo (by rw [Nat.mul_one,Nat.zero_add]))) ?_)))))))
       refine bY (Ei:=[(98,_)]) rfl rfl (bQ (bZ 2 rfl rfl) bX) rfl rfl (dX rfl (fE A_25 Z_25 (Ht rfl) (j:=0) rfl zo)) (bY (Ei:=[(12,_)]) rfl rfl (bQ (bJ rfl rfl) bX) rfl rfl (dX rfl (cX (Ht rfl))) (bY (Ei:=[(99,_),(100,_)]) rfl rfl (bQ (bZ 3 rfl rfl) (bQ (bZ 4 rfl rfl) bX)) rfl rfl (dX rfl (gH U_25 Z_60 (Ht rfl) (Ht rfl) rfl (j:=0) rfl zo zo zo)) (bY (Ei:=[(101,_)]) rfl rfl (bQ (bZ 5 rfl rfl) bX) rfl rfl (dX rfl (kA A_60 Z_60 (Ht rfl) (j:=0) rfl zo zo zo)) ?_)))
       refine bY (Ei:=[(8,_)]) rfl rfl (bQ (bJ rfl rfl) bX) rfl rfl (dX rfl (cX (Ht rfl))) (bY (Ei:=[(10,_)]) rfl rfl (bQ (bJ rfl rfl) bX) rfl rfl (dX rfl (cX (Ht rfl))) (bY (Ei:=[(103,_),(104,_)]) rfl rfl (bQ (bZ 7 rfl rfl) (bQ (bZ 8 rfl rfl) bX)) rfl rfl (dX rfl (fY U_26 Z_25 (Ht rfl) (Ht rfl) rfl zo (by rw [Nat.mul_one,Nat.zero_add]))) ?_))
       refine bY (Ei:=[(105,_)]) rfl rfl (bQ (bZ 9 rfl rfl) bX) rfl rfl (dX rfl (fE A_25 Z_25 (Ht rfl) (j:=0) rfl zo)) (bY (Ei:=[(10,_)]) rfl rfl (bQ (bJ rfl rfl) bX) rfl rfl (dX rfl (cX (Ht rfl))) (bY (Ei:=[(106,_),(107,_)]) rfl rfl (bQ (bZ 10 rfl rfl) (bQ (bZ 11 rfl rfl) bX)) rfl rfl (dX rfl (gH U_25 Z_60 (Ht rfl) (Ht rfl) rfl (j:=0) rfl zo zo zo)) (bY (Ei:=[(108,_)]) rfl rfl (bQ (bZ 12 rfl rfl) bX) rfl rfl (dX rfl (kA A_60 Z_60 (Ht rfl) (j:=0) rfl zo zo zo)) ?_)))
       refine bY (Ei:=[(102,_),(109,_)]) rfl rfl (bQ (bZ 6 rfl rfl) (bQ (bZ 13 rfl rfl) bX)) rfl rfl (dX rfl (cZ K_64 (eQ (vW (x:=gm Yk i k) (y:=gm Yk i i) (L:=G0) (M:=G0) zo) (by rw [hfd]; exact fun _ _ k=>k)) ⟨(Ht rfl),(Ht rfl),trivial⟩)) ?_
       refine bY (Ei:=[(110,_)]) rfl rfl (bQ (bZ 14 rfl rfl) bX) rfl rfl (dX rfl (cX (Ht rfl))) (bY (Ei:=[(95,_)]) rfl rfl (bQ (bZ 15 rfl rfl) bX) rfl rfl (dX rfl (dK (Ht rfl) rfl)) (bY (Ei:=[(95,_)]) rfl rfl (bQ (bZ 15 rfl rfl) bX) rfl rfl (dX rfl (dK (Ht rfl) rfl)) (Y.D_newp (Ei:=[]) (fun bb=>box bb 60 [aH (decide (F.a < 0)),bA F.a.natAbs,aH (decide (F.b < 0)),bA F.b.natAbs,bA (du F)]) 19 rfl rfl rfl bX rfl rfl (by kernel_rfl) (eW (Ts:=[Is (.bool false),Is (.slice none 0 0),Is (.bool false),Is (.slice none 0 0),Is (.slice none 0 0)]) O_60 rfl (fun V=>aW zd (aW zd (aW zd (aW zd (aW zd (aG))))))) ?_)))
       refine Y.D_putN (Ei:=[(111,_)]) 18 rfl rfl rfl rfl rfl rfl (bQ (bZ 16 rfl rfl) bX) (fun bb=>tJ Z_60 (Ht rfl) (Ht rfl) rfl (i:=0) rfl (aK rfl) rfl rfl) (Y.D_done bC rfl (by kernel_rfl) rfl (by simp [Y.okP]) rfl rfl (bU (bU (bU (bU (bU (bU (bU (bU (bU (bU (bU (bU (bU (bU (bU (bU (bU (bU (Y.F_newp (fun B13=>Y.F_putN (Y.F_nil ?_))))))))))))))))))))))
       refine ra rfl (eX (cK (fZ (m:=13) (dp 9 rfl (cX (Ht rfl)) (dp 12 rfl (cX (Ht rfl)) (dp 9 rfl (cX (Ht rfl)) (dp 12 rfl (cX (Ht rfl)) (cP 115 2 116 3 rfl (cL U_26 Z_25 (Ht rfl) (Ht rfl) rfl (i:=1) rfl (by rw [List.length_map]; omega) rfl) ?_))))))))
       refine dq 117 4 rfl (mI A_25 Z_25 (Ht rfl) (i:=1) rfl rfl (dY (dU (d:=[]) zo))) (dp 13 rfl (eJ A_60 Z_60 (Ht rfl) (i:=2) rfl rfl rfl) (dq 119 6 rfl (cZ Tryz.call168 Ji ⟨(Ht rfl),trivial⟩) (dp 9 rfl (cX (Ht rfl)) (dp 10 rfl (cX (Ht rfl)) (cP 121 8 122 9 rfl (cL U_26 Z_25 (Ht rfl) (Ht rfl) rfl (i:=1) rfl (by rw [List.length_map]; omega) rfl) ?_)))))
       refine dq 123 10 rfl (mI A_25 Z_25 (Ht rfl) (i:=1) rfl rfl (dY (dU (d:=[]) zo))) (C.D_step (Ei:=[(118,_),(120,_),(124,_)]) rfl rfl (bV (bG 5 rfl rfl) (bV (bG 7 rfl rfl) (bV (bG 11 rfl rfl) bW))) (dX rfl (cZ Tryz.call197 (Pu (n:=n) (L:=V0) (N:=V0) q3 g7 q4 hv1 hv1 zo q5 q6 zo) ⟨(Ht rfl),(Ht rfl),(Ht rfl),trivial⟩)) (fV bC rfl (by kernel_rfl) (zF (zF (zF (aJ (aV ?_)))))))
       refine ro rfl (cL U_26 Z_25 (Ht rfl) (Ht rfl) rfl (i:=1) rfl (by rw [List.length_map]; omega) rfl) ?_
       refine kX Z_25 (Ht rfl) (Ht rfl) El.one (i:=1) rfl rfl (by rw [List.length_map]; omega) rfl ?_
       refine eX (ts (rm rfl (ro rfl (dV (Ht rfl) (cJ 1) z6) (ra rfl (eX (eG ?_))))))
       refine cA (fun (l : Nat) => i + 1 ≤ l ∧ l ≤ n) (fun (l : Nat) => n - l) (fun (l : Nat) => [(8, Is (.slice (some ⟨B48, 0, none⟩) n n)), (9, Is (.slice (some ⟨B51, 0, none⟩) n n)), (10, NT .i64 i), (12, NT .i64 k), (13, bO B13 0), (15, NT .i64 l), (53, NT .i64 n), (54, NT .i64 i)]) (fun (l : Nat) => [jL B48 25 60 5 vs vs (bM aF (xC X n i k l)), bF 25 1 (.slice (some ⟨B51, 0, none⟩) n n) ((oG X U n i (k + 1)).map aM), box B13 60 [aH (decide (F.a < 0)), bA F.a.natAbs, aH (decide (F.b < 0)), bA F.b.natAbs, bA (du F)]]) (i + 1) ⟨Nat.le_refl _, hin⟩
        (zS rfl) (aU (oY (by rw [hY,a1H])) (aU (aO (by rw [← List.map_set,q1,q2,hF,hQ]; exact congrArg _ (Tt hkn zo))) (aU (aA rfl) aY))) (fun l ⟨hl1,hl2⟩=>?_)
       refine cK (ts (rm rfl (rm rfl (ro rfl (eT U_26 (Ht rfl)) (ro rfl (gX (Ht rfl) (Ht rfl)) (eX (dQ (Ht rfl) (fun he=>?_) (fun he=>?_))))))))
       ·have hln : l < n := by simp only [decide_eq_true_eq] at he; omega
        have hTs:=qH X n i k l
        have hst:=Yb (G:=X) (n:=n) (i:=i) (k:=k) (l:=l) hln hkn zo zo
        obtain ⟨T,hT⟩:∃ T,T = xC X n i k l:=⟨_,rfl⟩
        have t1:gm T l k = gm X l k:=by rw [hT]; exact Gx hln hkn zo
        have t2:gm T l i = gm X l i:=by rw [hT]; exact Gx hln hin zo
        rw [← hF,← t1,← t2,← hT] at hst
        rw [← hT] at hTs ⊢
        have hTl:=hTs.1
        have hTr:=hTs.row hln
        have hTg:(T.getD l []).length = n:=hTr
        haveI p1:aE (gm T l k) G0:=by rw [t1]; exact hGf.get hg1 l k
        haveI p2:aE (gm T l i) G0:=by rw [t2]; exact hGf.get hg1 l i
        haveI p3:aE (gm T l i * F) (G0 + (G0 + 3 * G0 + 2) + 1):=fitMul
        refine cU (cK (eG (fZ (m:=22) (dp 8 rfl (cX (Ht rfl)) (dp 15 rfl (cX (Ht rfl)) (cP 135 0 136 1 rfl (fY U_26 Z_25 (Ht rfl) (Ht rfl) rfl zo (by rw [Nat.mul_one,Nat.zero_add])) ?_))))))
        refine dq 137 2 rfl (fE A_25 Z_25 (Ht rfl) (j:=0) rfl zo) (dp 12 rfl (cX (Ht rfl)) (dp 8 rfl (cX (Ht rfl)) (dp 15 rfl (cX (Ht rfl)) (cP 140 5 141 6 rfl (fY U_26 Z_25 (Ht rfl) (Ht rfl) rfl zo (by rw [Nat.mul_one,Nat.zero_add])) ?_))))
        refine dq 142 7 rfl (fE A_25 Z_25 (Ht rfl) (j:=0) rfl zo) (dp 12 rfl (cX (Ht rfl)) (cP 143 8 144 9 rfl (gH U_25 Z_60 (Ht rfl) (Ht rfl) rfl (j:=0) rfl zo zo zo) (dq 145 10 rfl (kA A_60 Z_60 (Ht rfl) (j:=0) rfl zo zo zo) (dp 8 rfl (cX (Ht rfl)) (dp 15 rfl (cX (Ht rfl)) (cP 147 12 148 13 rfl (fY U_26 Z_25 (Ht rfl) (Ht rfl) rfl zo (by rw [Nat.mul_one,Nat.zero_add])) ?_))))))
        refine dq 149 14 rfl (fE A_25 Z_25 (Ht rfl) (j:=0) rfl zo) (dp 10 rfl (cX (Ht rfl)) (cP 150 15 151 16 rfl (gH U_25 Z_60 (Ht rfl) (Ht rfl) rfl (j:=0) rfl zo zo zo) (dq 152 17 rfl (kA A_60 Z_60 (Ht rfl) (j:=0) rfl zo zo zo) (dp 13 rfl (eJ A_60 Z_60 (Ht rfl) (i:=2) rfl rfl rfl) (cP 153 18 154 19 rfl (cZ K_70 (iF (x:=gm T l i) (y:=F) (L:=G0) (M:=G0 + 3 * G0 + 2) zo) ⟨(Ht rfl),(Ht rfl),trivial⟩) ?_)))))
        refine cP 146 11 155 20 rfl (cZ K_69 (qC (x:=gm T l k) (y:=gm T l i * F) (L:=G0) (M:=G0 + (G0 + 3 * G0 + 2) + 1) zo) ⟨(Ht rfl),(Ht rfl),trivial⟩) (fV bC rfl (by kernel_rfl) (zF (zF (zF (zF (zF (aJ (aJ (aV (ro rfl (gH U_25 Z_60 (Ht rfl) (Ht rfl) rfl (j:=0) rfl zo zo zo) (a3k Z_60 (Ht rfl) (Ht rfl) (j:=0) rfl (El.ag rfl) (F:=aF) (z:=gm T l k - gm T l i * F) zo zo zo rfl ?_)))))))))))
        refine eX (bL (cY (rm rfl (ro rfl (dV (Ht rfl) (cJ 1) z6) (ra rfl (eX (fU (l + 1) ⟨by omega,hln⟩ zo (zS rfl) (aU (oY (congrArg _ hst)) (aU (fun _ _ _ h=>h) (aU (aA rfl) aY))))))))))
       ·have hln : l = n := by simp only [decide_eq_false_iff_not] at he; omega
        rw [hln,a1G]
        refine gW rfl (bL (cY (rm rfl (ro rfl (dV (Ht rfl) (cJ 1) z6) (ra rfl (eX (bS [0,1] rfl (by decide) (fU (k + 1) ⟨by omega,hkn⟩ zo (zS rfl) (aU (fun _ _ _ h=>h) (aU (fun _ _ _ h=>h) aY))))))))))
      ·have hkn : k = n := by simp only [decide_eq_false_iff_not] at hd; omega
       rw [hkn]
       refine gW rfl (bL (cY (ro rfl (dV (Ht rfl) (cJ 1) z6) (rm rfl (eX (fU (i + 1) ⟨hin,hq.symm⟩ zo (zS rfl) (aU (oY (by rw [← hS,e5]; rfl)) (aU (aO (by rw [← hS,e5])) aY))))))))
  ·have hin : i = n := by simp only [decide_eq_false_iff_not] at hc; omega
   have hq:yQ h n n 0 = (true,[]):=by rw [← hR,hin,Nat.sub_self]; rfl
   refine gW rfl (ts (ro rfl (cQ cV) (ro rfl (cQ cV) (ro rfl (cQ (cJ 0)) (eX (Gi rfl (fX (eU rfl) ?_) (fX (eU rfl) ?_) (fX (eU rfl) ?_)))))))
   ·exact (fA (by rw [Tn,if_pos hh0,hq]))
   ·exact (fun v V k=>by rw [dfW,if_pos hh0,hq]; exact iR v V k)
   ·exact (bE (by rw [dfX,if_pos hh0]; rfl))
end
section
open Go Go.RowKit
theorem Hk:Tryz.prog.info? 3 = some Tryz.t3:=by kernel_rfl
theorem Bk:Tryz.prog.underlying 103 = some (.slice 3):=by kernel_rfl
end
section
open Go Go.RowKit
theorem Mq {l:List Int} {v:Int} (hl:l.length ≤ 1000000):bR Tryz.prog 230 [kI 1 (l.map (aP .i64)),aP .i64 v] (aP .i64 (Hi (fun x=>decide (v = x)) l)):=by
 refine bR.intro Tryz.func230 rfl Tryz.ntmps230 rfl (fun cx=>(ts (ro rfl (cQ (cJ 0)) (eX (cK (ts (rm rfl (ro rfl (dG U_103 (Ht rfl) aC) (ro rfl (cX (cJ 0)) (eX (eG ?_)))))))))))
 refine cA (fun (k : Nat) => k ≤ l.length ∧ ∀ (i : Nat) (x : Int), i < k → l[i]? = some x → decide (v = x) = false) (fun (k : Nat) => l.length - k) (fun (k : Nat) => [(0, kI 1 (l.map (aP .i64))), (1, aP .i64 v), (7, NT .i64 l.length), (8, NT .i64 k)]) (fun (k : Nat) => []) 0 ⟨Nat.zero_le _, fun i x h => by omega⟩
  (zS rfl) aY (fun k ⟨hk,hn⟩=>?_)
 refine ts (ro rfl (gX (Ht rfl) (Ht rfl)) (eX (cK (dQ (Ht rfl) (fun hb=>?_) (fun hb=>?_)))))
 ·simp only [decide_eq_true_eq] at hb
  refine cU (cK (eG (ts (rm rfl (ra rfl (eX (ts (rm rfl (rm rfl (rm rfl (ro rfl (dZ U_103 Z_3 (Ht rfl) (Ht rfl) rfl (dY (sO hb))) (ro rfl (dJ A_3 Z_3 (Ht rfl)) (ro rfl (mH (Ht rfl) (Ht rfl)) (eX (dQ (Ht rfl) (fun hc=>?_) (fun hc=>?_))))))))))))))))
  ·refine ts (rm rfl (ra rfl (eX (fW rfl (fX (eU rfl) ?_)))))
   exact (bE (Hj (p:=fun x=>decide (v = x)) (sO hb) hc hn).symm)
  ·refine cU (bL (cY (ro rfl (dV (Ht rfl) (cJ 1) z6) (rm rfl (eX ?_)))))
   refine fU (k + 1) ⟨hb, fun i x h1 h2 => by
    by_cases e:i = k
    ·subst e; rw [sO hb] at h2; obtain rfl:=Option.some.inj h2; exact hc
    ·exact hn i x zo h2⟩ zo (zS rfl) aY
 ·simp only [decide_eq_false_iff_not] at hb
  refine gW rfl (ts (ro rfl (cQ cV) (eX (fW rfl (fX (eU rfl) ?_)))))
  exact (bE (yW (p:=fun x=>decide (v = x)) (fun i x h=>hn i x (by have:=(List.getElem?_eq_some_iff.1 h).1; omega) h)).symm)
theorem qR {l:List Int} {v:Int} (hl:l.length ≤ 1000000):bR Tryz.prog 145 [kI 1 (l.map (aP .i64)),aP .i64 v] (aH (l.any fun x=>decide (v = x))):=by
 refine bR.intro Tryz.func145 rfl Tryz.ntmps145 rfl (fun cx=>(ts (ro rfl (cQ cV) (eX (ts (rm rfl (rm rfl (ro rfl (cZ Tryz.call230 (Mq zo) ⟨(Ht rfl),(Ht rfl),trivial⟩) (ro rfl (nA (Ht rfl) cV) (ra rfl (eX (fW rfl (fX (eU rfl) ?_)))))))))))))
 exact (fA (Ch _ l))
theorem Pt {z:List Qi} {s:List (List Qi)} {G:List Nat} (hl:z.length ≤ 1000) (hG:G.length ≤ 1000):bR Tryz.prog 124 [iK z s,kI 1 ((gnI G).map (aP .i64))] (fF ((lU G z.length).map Nat.succ)):=by
 refine bR.intro Tryz.func124 rfl Tryz.ntmps124 rfl (fun cx=>(ts (rn rfl (fG (Ht rfl)) fun B2=>(ro rfl (cQ cV) (eX (ts (ro rfl (cQ cV) (eX (cK (ts (ro rfl (cQ (cJ 1)) (eX (eG (qZ 3 1 ?_))))))))))))))
 refine fO (fun (i : Nat) (v : Value) => i ≤ z.length) (fun (i : Nat) (v : Value) => z.length - i) (fun (i : Nat) (v : Value) => [(1, kI 1 ((gnI G).map (aP .i64))), (2, bO B2 0), (5, Is v), (6, NT .i64 (i + 1))]) (fun (i : Nat) (v : Value) => [box B2 28 [aM z, aR s], bF 3 1 v (((lU G i).map Nat.succ).map (NT .i64))]) 0 (.slice none 0 0) (Nat.zero_le _)
  (zS rfl) (aU (aA rfl) (aU (aO rfl) aY)) (fun i v hi=>?_)
 refine cK (ts (rm rfl (ro rfl (eZ jV (Ht rfl) rfl) (ro rfl (eY A_25 Z_25 (Ht rfl) (i:=0) rfl rfl) (ro rfl (dG U_25 (Ht rfl) aC) (ro rfl (uZ (Ht rfl) (Ht rfl)) (eX (dQ (Ht rfl) (fun hd=>?_) (fun hd=>?_)))))))))
 ·simp only [decide_eq_true_eq] at hd
  have hcl:=sB G i
  refine cU (cK (eG (mG (fun (v2:Value)=>True) (fun (v2:Value)=>[(1,kI 1 ((gnI G).map (aP .i64))),(2,bO B2 0),(5,Is v2),(6,NT .i64 (i + 1))]) (fun (v2:Value)=>[box B2 28 [aM z,aR s],bF 3 1 v2 (((lU G (i + 1)).map Nat.succ).map (NT .i64))]) ?_ (fun v2 _=>?_))))
  ·refine ts (rm rfl (rm rfl (ro rfl (cZ Tryz.call145 (qR (l := gnI G) (v := ((i + 1 : Nat) : Int)) (by rw [List.length_map]; omega)) ⟨(Ht rfl), (Ht rfl), trivial⟩) ?_)))
   refine ro rfl (dH (Ht rfl)) (eX (dQ (Ht rfl) (fun he=>?_) (fun he=>?_)))
   ·rw [Za] at he
    have he2:i ∉ G:=by simpa using he
    have hnx:lU G (i + 1) = lU G i ++ [i]:=by rw [lU,if_neg he2]
    refine cY (rm rfl (rm rfl (ro rfl (cE (xs:=[.tmp 19]) U_103 Z_3 O_3 (cW (Ht rfl) cG) rfl rfl rfl) (mT (inf:=Tryz.t3) Bk Hk rfl rfl rfl (Ht rfl) (Ht rfl) (i:=1) rfl (by simp) (fun T hT=>by simp at hT; subst hT; exact El.one) (by show _ * 8 ≤ _; simp only [List.length_map,List.length_cons,List.length_nil]; omega) (by simp only [List.length_map,List.length_cons,List.length_nil]; omega) rfl (fun v3=>?_)))))
    refine ra rfl (eX (cD v3 trivial (zS rfl) (aU (aA rfl) (aU (aO (by rw [hnx,List.map_append,List.map_append]; rfl)) aY))))
   ·rw [Za] at he
    have he2:i ∈ G:=by simpa using he
    have hnx:lU G (i + 1) = lU G i:=by rw [lU,if_pos he2,List.append_nil]
    refine cU (cD v trivial (zS rfl) (aU (aA rfl) (aU (aO (by rw [hnx])) aY)))
  ·refine bL (cY (rm rfl (ro rfl (dV (Ht rfl) (cJ 1) z6) (ra rfl (eX (fU (i + 1,v2) hd (by dsimp only; omega) (zS rfl) (dR.refl _)))))))
 ·simp only [decide_eq_false_iff_not] at hd
  obtain rfl:z.length = i:=Nat.le_antisymm zo hi
  refine gW rfl (gV (i:=1) (tt:=5) rfl rfl eR (ts (rm rfl (ra rfl (eX ?_)))))
  exact fW rfl (eU rfl)
theorem a49 {z:List Qi} {s:List (List Qi)} {p:Nat} (hp:p < z.length) (hl:z.length ≤ 1000):bR Tryz.prog 124 [iK z s,kI 1 [aP .i64 ((p:Int) + 1)]] (fF (Cm p (z.length - 1))):=by
 rw [← a2f hp]; exact Pt (G:=[p]) hl (by simp)
theorem a1p {z:List Qi} {s:List (List Qi)} {Q:List Nat} {m:Nat} (hs:cF s z.length z.length) (hQ:∀ x,x ∈ Q → x < z.length) (hm:Q.length = m) (hm2:m ≤ 1000) (hl:z.length ≤ 1000) {i j:Nat} (hi:i < m) (hj:j < m):bR Tryz.prog 220 [NT .i64 i,NT .i64 j,PT (iK z s),PT (fF (Q.map Nat.succ))] (aF (gm s (gE Q i) (gE Q j))):=by
 have hki:gE Q i < z.length:=Ij hQ zo
 have hkj:gE Q j < z.length:=Ij hQ zo
 have hsl:=hs.1
 have hsr:=hs.row hki
 refine bR.intro Tryz.func220 rfl Tryz.ntmps220 rfl (fun cx=>(ts (rn rfl (eW (Ts:=[Is (.bool false),Is (.slice none 0 0),Is (.bool false),Is (.slice none 0 0),Is (.slice none 0 0)]) O_60 rfl (fun V=>aW zd (aW zd (aW zd (aW zd (aW zd (aG))))))) fun B6=>(eX (cK (fZ (m:=14) (dp 2 rfl (oZ kZ (Ht rfl) rfl) (dq 7 0 rfl (dJ A_26 Z_26 (Ht rfl)) (dp 3 rfl (dJ A_103 Z_103 (Ht rfl)) (dp 0 rfl (cX (Ht rfl)) ?_))))))))))
 refine cP 9 2 10 3 rfl (dZ U_103 Z_3 (Ht rfl) (Ht rfl) rfl (dY (qO zo))) (dq 11 4 rfl (dJ A_3 Z_3 (Ht rfl)) (dq 12 5 rfl (aS.nat (dW (Ht rfl) (cJ 1) zo z6) (show gE Q i + 1 - 1 = gE Q i by omega)) (cP 8 1 13 6 rfl (dZ U_26 Z_25 (Ht rfl) (Ht rfl) rfl (dY (dU (d:=[]) zo))) (dq 14 7 rfl (dJ A_25 Z_25 (Ht rfl)) (dp 3 rfl (dJ A_103 Z_103 (Ht rfl)) ?_)))))
 refine dp 1 rfl (cX (Ht rfl)) (cP 16 9 17 10 rfl (dZ U_103 Z_3 (Ht rfl) (Ht rfl) rfl (dY (qO zo))) (dq 18 11 rfl (dJ A_3 Z_3 (Ht rfl)) (dq 19 12 rfl (aS.nat (dW (Ht rfl) (cJ 1) zo z6) (show gE Q j + 1 - 1 = gE Q j by omega)) (fV bC rfl (by kernel_rfl) (zF (zF (zF (aJ (aJ (aV (ro rfl (dZ U_25 Z_60 (Ht rfl) (Ht rfl) rfl (dY (dU (d:=Qi.zero) zo))) ?_)))))))))))
 refine ro rfl (dJ A_60 Z_60 (Ht rfl)) (gQ Z_60 (Ht rfl) (Ht rfl) rfl (i:=0) rfl (aK rfl) rfl rfl (eX ?_))
 exact fW rfl (fK A_60 Z_60 rfl (i:=0) rfl rfl)
theorem Pv {z:List Qi} {s:List (List Qi)} {Q:List Nat} {m:Nat} (hs:cF s z.length z.length) (hQ:∀ x,x ∈ Q → x < z.length) (hm:Q.length = m) (hm2:m ≤ 1000) (hl:z.length ≤ 1000):fN Tryz.prog 125 [iK z s,fF (Q.map Nat.succ)] [] (Nat) (fun B=>gN [aM (Dh z Q),Is (.slice (some ⟨B,0,none⟩) m m)]) (fun B=>[lQ B 25 60 5 (bM aF (a0K s Q))]) (fun _=>True):=by
 have hll:(Q.map Nat.succ).length = m:=by rw [List.length_map]; exact hm
 refine fN.intro Tryz.func125 rfl Tryz.ntmps125 rfl (fun cx Z=>(ts (rn rfl (fG (Ht rfl)) fun B2=>(rn rfl (rI (Ht rfl)) fun B3=>(rn rfl (eW (Ts:=[Is (.slice none 0 0),Is (.slice none 0 0)]) O_28 rfl (fun V=>aW zd (aW zd (aG)))) fun B4=>(eX (cK (gV (i:=1) (tt:=2) rfl rfl rZ (gV (i:=2) (tt:=3) rfl rfl lE (cY (ro rfl (dJ A_103 Z_103 (Ht rfl)) (ro rfl (dG U_103 (Ht rfl) (by rw [List.length_map,hll])) ?_))))))))))))
 refine rn rfl (kS (T:=aF Qi.zero) (i:=Tryz.t60) jH gG rfl rfl (Ht rfl) rfl jD (El.ag rfl) (by show 88 * _ ≤ _; omega) zo) fun B10=>ra rfl (eX (cK (ts (ro rfl (dJ A_103 Z_103 (Ht rfl)) (ro rfl (dG U_103 (Ht rfl) (by rw [List.length_map,hll])) ?_)))))
 refine ro rfl (cX (cJ 0)) (eX (eG (bS [0,3,4] rfl (by decide) ?_)))
 refine cA (fun (i : Nat) => i ≤ m) (fun (i : Nat) => m - i) (fun (i : Nat) => [(2, PT (iK z s)), (3, PT (fF (Q.map Nat.succ))), (4, bO B4 0), (5, Is B10), (11, fF (Q.map Nat.succ)), (12, NT .i64 m), (13, NT .i64 i)]) (fun (i : Nat) => [Z, box B4 28 [Is (.slice none 0 0), Is (.slice none 0 0)], bF 60 5 B10 ((kV (fun i => gv z (gE Q i)) Qi.zero m i).map aF)]) 0 (Nat.zero_le _)
  (zS rfl) (aU (fun _ _ _ h=>h) (aU (fun _ _ _ h=>h) (aU (aO (by rw [← iL]; exact vH aF m)) aY))) (fun i hi=>?_)
 refine ts (ro rfl (gX (Ht rfl) (Ht rfl)) (eX (cK (dQ (Ht rfl) (fun hd=>?_) (fun hd=>?_)))))
 ·simp only [decide_eq_true_eq] at hd
  have hki:gE Q i < z.length:=Ij hQ zo
  refine cU (cK (eG (ts (rm rfl (ro rfl (dZ U_103 Z_3 (Ht rfl) (Ht rfl) rfl (dY (qO zo))) (ro rfl (dJ A_3 Z_3 (Ht rfl)) (ra rfl (ra rfl (eX (cY (rm rfl (rm rfl (ro rfl (oZ jV (Ht rfl) rfl) (ro rfl (dJ A_25 Z_25 (Ht rfl)) (rm rfl (ro rfl (aS.nat (dW (Ht rfl) (cJ 1) zo z6) (show gE Q i + 1 - 1 = gE Q i by omega)) (ro rfl (dZ U_25 Z_60 (Ht rfl) (Ht rfl) rfl (dY (dU (d:=Qi.zero) hki))) ?_)))))))))))))))))
  refine ro rfl (dJ A_60 Z_60 (Ht rfl)) (ro rfl (cL U_25 Z_60 (Ht rfl) (Ht rfl) rfl (i:=2) rfl (by rw [List.length_map,dE]; omega) rfl) ?_)
  refine kX Z_60 (Ht rfl) (Ht rfl) (El.ag rfl) (i:=2) rfl rfl (by rw [List.length_map,dE]; omega) rfl ?_
  refine eX (bL (cY (ro rfl (dV (Ht rfl) (cJ 1) z6) (rm rfl (eX (fU (i + 1) hd zo (zS rfl) (aU (fun _ _ _ h=>h) (aU (fun _ _ _ h=>h) (aU (aO (by rw [dO,← jN (f:=(fun i=>gv z (gE Q i)))])) aY)))))))))
 ·simp only [decide_eq_false_iff_not] at hd
  obtain rfl:m = i:=Nat.le_antisymm zo hi
  rw [jW]
  refine gW rfl (gV (i:=2) (tt:=5) rfl rfl eR ?_)
  rw [show Dh z Q = tab m fun i=>gv z (gE Q i) from by rw [Dh,hm],show a0K s Q = tab m fun i=>tab m fun j=>gm s (gE Q i) (gE Q j) from by rw [a0K,hm]]
  refine ts (rm rfl (ro rfl (dJ A_103 Z_103 (Ht rfl)) (ro rfl (dG U_103 (Ht rfl) (by rw [List.length_map,hll])) ?_)))
  refine ro rfl (nS (γ:=Fin m × Fin m) (Ts:=fun x=>[NT .i64 x.1.1,NT .i64 x.2.1]) (U:=fun x=>aF (gm s (gE Q x.1.1) (gE Q x.2.1))) Tryz.call220 (fun x=>a1p hs hQ hm hm2 hl x.1.2 x.2.2) ⟨(Ht rfl),(Ht rfl),trivial⟩) (iN Tryz.call110 (Ps (n:=m) (f:=fun i j=>gm s (gE Q i) (gE Q j)) zo) ⟨(Ht rfl),(Ht rfl),trivial⟩ rfl (fun B32 _=>(ro rfl (rQ (Ht rfl) (Ht rfl)) (gQ Z_28 (Ht rfl) (Ht rfl) rfl (i:=1) rfl (aK rfl) rfl rfl (eX ?_)))))
  exact iO B32 trivial [0,3] ⟨⟨_,rfl,fun _ _ _ h=>h⟩,⟨_,rfl,fun _ _ _ h=>h⟩,trivial⟩ (by decide) (tG rfl (fK A_28 Z_28 rfl (i:=1) rfl rfl))
theorem a1q {z:List Qi} {s:List (List Qi)} {p m:Nat} (hs:cF s z.length z.length) (hp:p < z.length) (hm:m = z.length - 1) (hl:z.length ≤ 1000):fN Tryz.prog 125 [iK z s,fF (Cm p m)] [] Nat (fun B=>gN [aM (zE z p m),Is (.slice (some ⟨B,0,none⟩) m m)]) (fun B=>[lQ B 25 60 5 (bM aF (a6g s p m))]) (fun _=>True):=by
 have h:=Pv (Q:=tab m (pI p)) hs (a3a hp hm) (aD _ _) zo hl
 rw [a0M,a0L,a2i] at h
 exact h
theorem wW {n:Int} (h1:-9223372036854775808 ≤ n) (h2:n ≤ 9223372036854775807):bR Tryz.prog 118 [aP .i64 n] (aF (Qi.ofInt n)):=by
 refine bR.intro Tryz.func118 rfl Tryz.ntmps118 rfl (fun cx=>(ts (rn rfl (eW (Ts:=[Is (.bool false),Is (.slice none 0 0),Is (.bool false),Is (.slice none 0 0),Is (.slice none 0 0)]) O_60 rfl (fun V=>aW zd (aW zd (aW zd (aW zd (aW zd (aG))))))) fun B2=>(eX (ts (rn rfl (eW (Ts:=[Is (.bool false),Is (.slice none 0 0),Is (.bool false),Is (.slice none 0 0),Is (.slice none 0 0)]) O_60 rfl (fun V=>aW zd (aW zd (aW zd (aW zd (aW zd (aG))))))) fun B3=>?_))))))
 refine eX (cK (fZ (m:=4) (dp 3 rfl (eJ A_60 Z_60 (Ht rfl) (i:=1) rfl rfl rfl) (dq 4 0 rfl (aT bD (Ht rfl)) (dp 0 rfl (cX (Ht rfl)) (dq 6 2 rfl (cZ K_52 (mK (n:=n) h1 h2) ⟨(Ht rfl),trivial⟩) (fV bC rfl (by kernel_rfl) (zF (aV (ro rfl (aL nJ K_304 Em (Ht rfl) ⟨(Ht rfl),trivial⟩) (gQ Z_60 (Ht rfl) (Ht rfl) rfl (i:=0) rfl (aK rfl) rfl rfl (eX ?_))))))))))))
 exact fW rfl (fK A_60 Z_60 rfl (i:=0) rfl rfl)
end
section
open Go Go.RowKit
theorem a44 {z:List Qi} {s:List (List Qi)} {port:Int} {g:Qi} {L:Nat} (hs:cF s z.length z.length) (hf:aN s L) (hg:aE g L) (hL:1 ≤ L) (hLb:L ≤ 1000000) (hl:z.length ≤ 1000):bR Tryz.prog 40 [iK z s,aP .i64 port,aF g] (eD [iK (Dm z s port g) (Dl z s port g),aP .i64 (qY z s port g)]):=by
 haveI:=hg
 have hsl:=hs.1
 refine bR.intro Tryz.func40 rfl Tryz.ntmps40 rfl (fun cx=>(ts (rn rfl (fG (Ht rfl)) fun B3=>(rn rfl (fG (Ht rfl)) fun B5=>(rn rfl (eW (Ts:=[Is (.slice none 0 0),Is (.slice none 0 0)]) O_28 rfl (fun V=>aW zd (aW zd (aG)))) fun B6=>(ro rfl (cQ (cJ 0)) (eX (cK (eG (ts (ro rfl (eJ A_28 Z_28 (Ht rfl) (i:=0) rfl rfl rfl) (rm rfl (ro rfl (cZ Tryz.call138 Jm ⟨(Ht rfl),(Ht rfl),trivial⟩) (ro rfl (dH (Ht rfl)) (ra rfl (eX (dQ (Ht rfl) (fun hb=>?_) (fun hb=>?_))))))))))))))))))
 ·have he : qY z s port g = 1 := a5r (by simpa only [Bool.not_eq_true', decide_eq_false_iff_not] using hb)
  refine ts (ro rfl (aS.imp (mD ) mE) (gQ Z_28 (Ht rfl) (Ht rfl) rfl (i:=2) rfl (aK rfl) rfl rfl (ro rfl (cQ (cJ 1)) (eX (bN rfl (fX (fK A_28 Z_28 rfl (i:=2) rfl rfl) ?_) (fX (eU rfl) ?_))))))
  ·exact (Iv he (by decide))
  ·exact (bE he.symm)
 ·have hb2 : 1 ≤ port ∧ port ≤ (z.length : Int) := by simpa using hb
  obtain ⟨p,rfl⟩:∃ p:Nat,port = (p:Int) + 1:=⟨(port - 1).toNat,by omega⟩
  have hp:p < z.length:=by omega
  refine ts (ro rfl (eZ jV (Ht rfl) rfl) (ro rfl (eY A_25 Z_25 (Ht rfl) (i:=0) rfl rfl) (ro rfl (dG U_25 (Ht rfl) aC) (ro rfl (eB (Ht rfl) (cJ 1)) (ra rfl (eX (dQ (Ht rfl) (fun hc=>?_) (fun hc=>?_))))))))
  ·have he : qY z s ((p : Int) + 1) g = 4 := a5s hb2 (by simpa using hc)
   refine ts (ro rfl (aS.imp (mD ) mE) (gQ Z_28 (Ht rfl) (Ht rfl) rfl (i:=2) rfl (aK rfl) rfl rfl (ro rfl (cQ (cJ 4)) (eX (bN rfl (fX (fK A_28 Z_28 rfl (i:=2) rfl rfl) ?_) (fX (eU rfl) ?_))))))
   ·exact (Iv he (by decide))
   ·exact (bE he.symm)
  ·have hn1 : ¬ z.length = 1 := by simpa using hc
   have htd:=a5t (s:=s) (g:=g) hp hn1
   obtain ⟨m,hm⟩:∃ m,m = z.length - 1:=⟨_,rfl⟩
   have hspl:=hs.row hp
   haveI f0:aE (Qi.ofInt 1) 1:=iP
   haveI f1:aE (gm s p p) L:=hf.get hL p p
   refine cU (bL (ts (rm rfl (ro rfl (jE (Ht rfl) cV (r:=((p:Nat):Int)) ((Du (z:=(p:Int) + 1 - 1) zo).trans zo)) ?_))))
   refine ra rfl (eX (cK (Y.D_start (m:=22) [] (bY (Ei:=[(5,_)]) rfl rfl (bQ (bJ rfl rfl) bX) rfl rfl (dX rfl (eJ A_60 Z_60 (Ht rfl) (i:=1) rfl rfl rfl)) (bY (Ei:=[(32,_)]) rfl rfl (bQ (bZ 0 rfl rfl) bX) rfl rfl (dX rfl (aT bD (Ht rfl))) (bY (Ei:=[]) rfl rfl bX rfl rfl (dX rfl (cZ Tryz.call118 (wW (n:=1) (by decide) (by decide)) ⟨(cJ 1),trivial⟩)) (bY (Ei:=[(34,_)]) rfl rfl (bQ (bZ 2 rfl rfl) bX) rfl rfl (dX rfl (aT bD (Ht rfl))) ?_)))))))
   refine bY (Ei:=[(3,_)]) rfl rfl (bQ (bJ rfl rfl) bX) rfl rfl (dX rfl (eZ kZ (Ht rfl) rfl)) (bY (Ei:=[(36,_)]) rfl rfl (bQ (bZ 4 rfl rfl) bX) rfl rfl (dX rfl (eY A_26 Z_26 (Ht rfl) (i:=0) rfl rfl)) (bY (Ei:=[(8,_)]) rfl rfl (bQ (bJ rfl rfl) bX) rfl rfl (dX rfl (cX (Ht rfl))) (bY (Ei:=[(37,_),(38,_)]) rfl rfl (bQ (bZ 5 rfl rfl) (bQ (bZ 6 rfl rfl) bX)) rfl rfl (dX rfl (dZ U_26 Z_25 (Ht rfl) (Ht rfl) rfl (dY (dU (d:=[]) zo)))) ?_)))
   refine bY (Ei:=[(39,_)]) rfl rfl (bQ (bZ 7 rfl rfl) bX) rfl rfl (dX rfl (dJ A_25 Z_25 (Ht rfl))) (bY (Ei:=[(8,_)]) rfl rfl (bQ (bJ rfl rfl) bX) rfl rfl (dX rfl (cX (Ht rfl))) (bY (Ei:=[(40,_),(41,_)]) rfl rfl (bQ (bZ 8 rfl rfl) (bQ (bZ 9 rfl rfl) bX)) rfl rfl (dX rfl (dZ U_25 Z_60 (Ht rfl) (Ht rfl) rfl (dY (dU (d:=Qi.zero) zo)))) (bY (Ei:=[(42,_)]) rfl rfl (bQ (bZ 10 rfl rfl) bX) rfl rfl (dX rfl (dJ A_60 Z_60 (Ht rfl))) ?_)))
   refine bY (Ei:=[(43,_)]) rfl rfl (bQ (bZ 11 rfl rfl) bX) rfl rfl (dX rfl (aT bD (Ht rfl))) (bY (Ei:=[(5,_)]) rfl rfl (bQ (bJ rfl rfl) bX) rfl rfl (dX rfl (eJ A_60 Z_60 (Ht rfl) (i:=1) rfl rfl rfl)) (bY (Ei:=[(44,_),(45,_)]) rfl rfl (bQ (bZ 12 rfl rfl) (bQ (bZ 13 rfl rfl) bX)) rfl rfl (dX rfl (aL cB K_70 (iF (x:=gm s p p) (y:=g) (L:=L) (M:=L) zo) (Ht rfl) ⟨(Ht rfl),trivial⟩)) (bY (Ei:=[(35,_),(46,_)]) rfl rfl (bQ (bZ 3 rfl rfl) (bQ (bZ 14 rfl rfl) bX)) rfl rfl (dX rfl (aL iA K_69 (qC (x:=Qi.ofInt 1) (y:=gm s p p * g) (L:=1) (M:=L + L + 1) (hx:=f0) zo) (Ht rfl) ⟨(Ht rfl),trivial⟩)) ?_)))
   refine bY (Ei:=[(33,_),(47,_)]) rfl rfl (bQ (bZ 1 rfl rfl) (bQ (bZ 15 rfl rfl) bX)) rfl rfl (dX rfl (aL mO K_64 (vW (x:=g) (y:=Qi.ofInt 1 - gm s p p * g) (L:=L) (M:=1 + (L + L + 1) + 1) (hy:=@fitSub _ _ _ _ f0 inferInstance) zo) (Ht rfl) ⟨(Ht rfl),trivial⟩)) (bY (Ei:=[(48,_)]) rfl rfl (bQ (bZ 16 rfl rfl) bX) rfl rfl (dX rfl (cX (Ht rfl))) (bY (Ei:=[(31,_)]) rfl rfl (bQ (bZ 17 rfl rfl) bX) rfl rfl (dX rfl (dK (Ht rfl) rfl)) ?_))
   refine bY (Ei:=[(31,_)]) rfl rfl (bQ (bZ 17 rfl rfl) bX) rfl rfl (dX rfl (dK (Ht rfl) rfl)) (Y.D_newp (Ei:=[]) (fun bb=>box bb 60 [aH (decide ((kO s p g).a < 0)),bA (kO s p g).a.natAbs,aH (decide ((kO s p g).b < 0)),bA (kO s p g).b.natAbs,bA (du (kO s p g))]) 21 rfl rfl rfl bX rfl rfl (by kernel_rfl) (eW (Ts:=[Is (.bool false),Is (.slice none 0 0),Is (.bool false),Is (.slice none 0 0),Is (.slice none 0 0)]) O_60 rfl (fun V=>aW zd (aW zd (aW zd (aW zd (aW zd (aG))))))) ?_)
   refine Y.D_putN (Ei:=[(49,_)]) 20 rfl rfl rfl rfl rfl rfl (bQ (bZ 18 rfl rfl) bX) (fun bb=>tJ Z_60 (Ht rfl) (Ht rfl) rfl (i:=0) rfl (aK rfl) rfl rfl) (Y.D_done bC rfl (by kernel_rfl) rfl (by simp [Y.okP]) rfl rfl (bU (bU (bU (bU (bU (bU (bU (bU (bU (bU (bU (bU (bU (bU (bU (bU (bU (bU (bU (bU (Y.F_newp (fun B9=>Y.F_putN (Y.F_nil ?_))))))))))))))))))))))))
   refine ra rfl (eX (cK (ts (rm rfl (ro rfl (kM (Ht rfl) cV) (eX (dQ (Ht rfl) (fun he=>?_) (fun he=>?_))))))))
   ·have hz : Qi.ofInt 1 - gm s p p * g = Qi.zero := by simp at he; exact he
    have he:qY z s ((p:Int) + 1) g = 6:=by rw [htd,if_pos hz]
    refine ts (ro rfl (aS.imp (mD ) mE) (gQ Z_28 (Ht rfl) (Ht rfl) rfl (i:=2) rfl (aK rfl) rfl rfl (ro rfl (cQ (cJ 6)) (eX (bN rfl (fX (fK A_28 Z_28 rfl (i:=2) rfl rfl) ?_) (fX (eU rfl) ?_))))))
    ·exact (Iv he (by decide))
    ·exact (bE he.symm)
   ·have hz : Qi.ofInt 1 - gm s p p * g ≠ Qi.zero := by simp at he; exact he
    have he:qY z s ((p:Int) + 1) g = 0:=by rw [htd,if_neg hz]
    haveI ff:aE (kO s p g) (7 * L + 11):=a0R hf hg hL hz
    have hll:(Cm p m).length = m:=aD _ _
    refine cU (ts (ro rfl (eJ A_28 Z_28 (Ht rfl) (i:=0) rfl rfl rfl) (rm rfl (ro rfl (cE (xs:=[.tmp 55]) U_103 Z_3 O_3 (cW (Ht rfl) cG) rfl rfl rfl) (ro rfl (cZ Tryz.call124 (eQ (a49 (z:=z) (s:=s) (p:=p) hp hl) (kB (by rw [← hm]))) ⟨(Ht rfl),(Ht rfl),trivial⟩) ?_)))))
    refine ra rfl (eX (ts (ro rfl (eJ A_28 Z_28 (Ht rfl) (i:=0) rfl rfl rfl) (rm rfl (iN Tryz.call125 (a1q (p:=p) (m:=m) hs hp hm hl) ⟨(Ht rfl),(Ht rfl),trivial⟩ rfl (fun B60 _=>(rn rfl (eW (Ts:=[Is (.slice none 0 0),Is (.slice none 0 0)]) O_28 rfl (fun V=>aW zd (aW zd (aG)))) fun B12=>(gQ Z_28 (Ht rfl) (Ht rfl) rfl (i:=5) rfl (aK rfl) rfl rfl (eX (cK (ts (rm rfl (ro rfl (dG U_103 (Ht rfl) (by rw [List.length_map,hll])) ?_)))))))))))))
    refine ro rfl (cX (cJ 0)) (eX (eG (bS [0,2,3,4,5] rfl (by decide) ?_)))
    refine cA (fun (i : Nat) => i ≤ m) (fun (i : Nat) => m - i) (fun (i : Nat) => [(3, bO B3 0), (6, bO B6 0), (8, NT .i64 p), (9, bO B9 0), (11, fF (Cm p m)), (12, bO B12 0), (61, fF (Cm p m)), (62, NT .i64 m), (63, NT .i64 i)]) (fun (i : Nat) => [box B3 28 [aM z, aR s], box B6 28 [Is (.slice none 0 0), Is (.slice none 0 0)], box B9 60 [aH (decide ((kO s p g).a < 0)), bA (kO s p g).a.natAbs, aH (decide ((kO s p g).b < 0)), bA (kO s p g).b.natAbs, bA (du (kO s p g))], lQ B60 25 60 5 (bM aF (jY (fun i => tab m fun j => Ox s p (kO s p g) i j) (fun i => tab m fun j => gm s (pI p i) (pI p j)) m i)), box B12 28 [aM (zE z p m), Is (.slice (some ⟨B60, 0, none⟩) m m)]]) 0 (Nat.zero_le _)
     (zS rfl) (aU (fun _ _ _ h=>h) (aU (fun _ _ _ h=>h) (aU (aA rfl) (aU (bI (by rw [← iG]; rfl)) (aU (aA rfl) aY))))) (fun i hi=>?_)
    refine ts (ro rfl (gX (Ht rfl) (Ht rfl)) (eX (cK (dQ (Ht rfl) (fun hd=>?_) (fun hd=>?_)))))
    ·simp only [decide_eq_true_eq] at hd
     have hki:pI p i < z.length:=Om zo hp
     have hsr:=hs.row hki
     refine mB 3 (i) rfl (nI hd) (fun v=>(cU (cK (eG (ts (rm rfl (ro rfl (dZ U_103 Z_3 (Ht rfl) (Ht rfl) rfl (dY (Rb hd))) (ro rfl (dJ A_3 Z_3 (Ht rfl)) (ra rfl (ra rfl (eX (ts (rm rfl (ro rfl (dG U_103 (Ht rfl) (by rw [List.length_map,hll])) ?_))))))))))))))
     refine ro rfl (cX (cJ 0)) (eX (eG ?_))
     refine cA (fun (j : Nat) => j ≤ m) (fun (j : Nat) => m - j) (fun (j : Nat) => [(3, bO B3 0), (6, bO B6 0), (8, NT .i64 p), (9, bO B9 0), (11, fF (Cm p m)), (12, bO B12 0), (13, NT .i64 i), (14, NT .i64 (pI p i + 1)), (61, fF (Cm p m)), (62, NT .i64 m), (63, NT .i64 i), (68, fF (Cm p m)), (69, NT .i64 m), (70, NT .i64 j)]) (fun (j : Nat) => [box B3 28 [aM z, aR s], box B6 28 [Is (.slice none 0 0), Is (.slice none 0 0)], box B9 60 [aH (decide ((kO s p g).a < 0)), bA (kO s p g).a.natAbs, aH (decide ((kO s p g).b < 0)), bA (kO s p g).b.natAbs, bA (du (kO s p g))], Ac B60 25 60 5 (bM aF (jY (fun i => tab m fun j => Ox s p (kO s p g) i j) (fun i => tab m fun j => gm s (pI p i) (pI p j)) m i)) i v, box B12 28 [aM (zE z p m), Is (.slice (some ⟨B60, 0, none⟩) m m)], bF 60 5 v ((jY (fun j => Ox s p (kO s p g) i j) (fun j => gm s (pI p i) (pI p j)) m j).map aF)]) 0 (Nat.zero_le _)
      (zS rfl) (aU (fun _ _ _ h=>h) (aU (fun _ _ _ h=>h) (aU (fun _ _ _ h=>h) (aU (fun _ _ _ h=>h) (aU (fun _ _ _ h=>h) (aU (aO (by rw [← iG])) aY)))))) (fun j hj=>?_)
     refine ts (ro rfl (gX (Ht rfl) (Ht rfl)) (eX (cK (dQ (Ht rfl) (fun hf2=>?_) (fun hf2=>?_)))))
     ·simp only [decide_eq_true_eq] at hf2
      have hkj:pI p j < z.length:=Om zo hp
      have hrl:=iB (fun j=>Ox s p (kO s p g) i j) (fun j=>gm s (pI p i) (pI p j)) m j
      haveI g1:aE (gm s (pI p i) (pI p j)) L:=hf.get hL _ _
      haveI g2:aE (gm s (pI p i) p) L:=hf.get hL _ _
      haveI g3:aE (gm s p (pI p j)) L:=hf.get hL _ _
      refine cU (cK (eG (ts (rm rfl (ro rfl (dZ U_103 Z_3 (Ht rfl) (Ht rfl) rfl (dY (Rb hf2))) (ro rfl (dJ A_3 Z_3 (Ht rfl)) (ra rfl (ra rfl (eX (fZ (m:=39) (dp 12 rfl (eZ kZ (Ht rfl) rfl) (dq 75 0 rfl (eY A_26 Z_26 (Ht rfl) (i:=4) rfl rfl) (dp 13 rfl (cX (Ht rfl)) (cP 76 1 77 2 rfl (fY U_26 Z_25 (Ht rfl) (Ht rfl) rfl zo (by rw [Nat.mul_one,Nat.zero_add])) ?_))))))))))))))
      refine dq 78 3 rfl (iC A_25 Z_25 (Ht rfl) (j:=3) rfl) (dp 15 rfl (cX (Ht rfl)) (dp 12 rfl (eZ kZ (Ht rfl) rfl) (dq 81 6 rfl (eY A_26 Z_26 (Ht rfl) (i:=4) rfl rfl) (dp 13 rfl (cX (Ht rfl)) (cP 82 7 83 8 rfl (fY U_26 Z_25 (Ht rfl) (Ht rfl) rfl zo (by rw [Nat.mul_one,Nat.zero_add])) ?_)))))
      refine dq 84 9 rfl (iC A_25 Z_25 (Ht rfl) (j:=3) rfl) (dp 15 rfl (cX (Ht rfl)) (cP 85 10 86 11 rfl (cL U_25 Z_60 (Ht rfl) (Ht rfl) rfl (i:=5) rfl (by simp only [List.length_map,hrl]; omega) rfl) ?_))
      refine dq 87 12 rfl (mI A_60 Z_60 (Ht rfl) (i:=5) rfl rfl (dY (oB hf2))) (dq 88 13 rfl (aT bD (Ht rfl)) (dp 3 rfl (eZ kZ (Ht rfl) rfl) (dq 90 15 rfl (eY A_26 Z_26 (Ht rfl) (i:=0) rfl rfl) (dp 14 rfl (cX (Ht rfl)) (dq 92 17 rfl (aS.nat (dW (Ht rfl) (cJ 1) zo z6) (show pI p i + 1 - 1 = pI p i by omega)) (cP 91 16 93 18 rfl (dZ U_26 Z_25 (Ht rfl) (Ht rfl) rfl (dY (dU (d:=[]) zo))) ?_))))))
      refine dq 94 19 rfl (dJ A_25 Z_25 (Ht rfl)) (dp 8 rfl (cX (Ht rfl)) (cP 95 20 96 21 rfl (dZ U_25 Z_60 (Ht rfl) (Ht rfl) rfl (dY (dU (d:=Qi.zero) zo))) (dq 97 22 rfl (dJ A_60 Z_60 (Ht rfl)) (dq 98 23 rfl (aT bD (Ht rfl)) (dp 9 rfl (eJ A_60 Z_60 (Ht rfl) (i:=2) rfl rfl rfl) (dq 100 25 rfl (aT bD (Ht rfl)) (dp 3 rfl (eZ kZ (Ht rfl) rfl) (dq 102 27 rfl (eY A_26 Z_26 (Ht rfl) (i:=0) rfl rfl) (dp 8 rfl (cX (Ht rfl)) ?_)))))))))
      refine cP 103 28 104 29 rfl (dZ U_26 Z_25 (Ht rfl) (Ht rfl) rfl (dY (dU (d:=[]) zo))) (dq 105 30 rfl (dJ A_25 Z_25 (Ht rfl)) (dp 16 rfl (cX (Ht rfl)) (dq 107 32 rfl (aS.nat (dW (Ht rfl) (cJ 1) zo z6) (show pI p j + 1 - 1 = pI p j by omega)) (cP 106 31 108 33 rfl (dZ U_25 Z_60 (Ht rfl) (Ht rfl) rfl (dY (dU (d:=Qi.zero) zo))) (dq 109 34 rfl (dJ A_60 Z_60 (Ht rfl)) ?_)))))
      refine cP 101 26 110 35 rfl (aL cB K_70 (iF (x:=kO s p g) (y:=gm s p (pI p j)) (L:=7 * L + 11) (M:=L) zo) (Ht rfl) ⟨(Ht rfl),trivial⟩) (cP 99 24 111 36 rfl (aL cB K_70 (iF (x:=gm s (pI p i) p) (y:=kO s p g * gm s p (pI p j)) (L:=L) (M:=7 * L + 11 + L + 1) zo) (Ht rfl) ⟨(Ht rfl),trivial⟩) (cP 89 14 112 37 rfl (aL lF K_71 (rB (x:=gm s (pI p i) (pI p j)) (y:=gm s (pI p i) p * (kO s p g * gm s p (pI p j))) (L:=L) (M:=L + (7 * L + 11 + L + 1) + 1) zo) (Ht rfl) ⟨(Ht rfl),trivial⟩) ?_))
      refine fV bC rfl (by kernel_rfl) (zF (zF (zF (zF (zF (zF (zF (zF (zF (aJ (aJ (aJ (aV (ro rfl (cL U_25 Z_60 (Ht rfl) (Ht rfl) rfl (i:=5) rfl (by simp only [List.length_map,hrl]; omega) rfl) ?_))))))))))))))
      refine kX Z_60 (Ht rfl) (Ht rfl) (El.ag rfl) (i:=5) rfl rfl (by simp only [List.length_map,hrl]; omega) rfl ?_
      refine eX (bL (cY (ro rfl (dV (Ht rfl) (cJ 1) z6) (rm rfl (eX (fU (j + 1) hf2 zo (zS rfl) (aU (fun _ _ _ h=>h) (aU (fun _ _ _ h=>h) (aU (fun _ _ _ h=>h) (aU (fun _ _ _ h=>h) (aU (fun _ _ _ h=>h) (aU (aO (by rw [dO,← jC (f:=fun j=>Ox s p (kO s p g) i j)]; rfl)) aY))))))))))))
     ·simp only [decide_eq_false_iff_not] at hf2
      obtain rfl:m = j:=Nat.le_antisymm zo hj
      refine gW rfl (bL (dS 3 5 rfl rfl (by decide) (by simp only [bM,List.length_map,iB]; omega) ?_))
      refine cY (ro rfl (dV (Ht rfl) (cJ 1) z6) (rm rfl (eX (bS [0,1,2,3,4] rfl (by decide) (fU (i + 1) hd zo (zS rfl) (aU (fun _ _ _ h=>h) (aU (fun _ _ _ h=>h) (aU (fun _ _ _ h=>h) (aU (bI (by rw [eN,jM,← jC (f:=(fun i=>tab m fun j=>Ox s p (kO s p g) i j))])) (aU (fun _ _ _ h=>h) aY))))))))))
    ·simp only [decide_eq_false_iff_not] at hd
     obtain rfl:m = i:=Nat.le_antisymm zo hi
     rw [jM]
     refine gW rfl (cK (Br 4 3 1 rfl rfl rfl (by decide) (a60 (q:=fun _=>True) (M:=Iu s p m (kO s p g)) (aD _ _).symm) ?_))
     subst hm
     refine cY (ro rfl (eJ A_28 Z_28 (Ht rfl) (i:=4) rfl rfl rfl) (gQ Z_28 (Ht rfl) (Ht rfl) rfl (i:=1) rfl (aK rfl) rfl rfl (ro rfl (cQ (cJ 0)) (eX (bN rfl (fX (fK A_28 Z_28 rfl (i:=1) rfl rfl) ?_) (fX (eU rfl) ?_))))))
     ·exact (a0S he)
     ·exact (bE he.symm)
end
section
open Go Go.RowKit
theorem a5R {x:Qi} {l m:List Qi} {L M n:Nat} (hx:aE x M) (hl:bP l L) (hm:bP m L) (hL:1 ≤ L) (hll:l.length = n) (hml:m.length = n) (hn:n ≤ 1000) (hb:M + n * (2 * L + 2) ≤ 17592186044415):bR Tryz.prog 127 [aF x,aM l,aM m] (aF (vN x l m n)):=by
 refine bR.intro Tryz.func127 rfl Tryz.ntmps127 rfl (fun cx=>(ts (rn rfl (fG (Ht rfl)) fun B3=>(rn rfl (eW (Ts:=[Is (.bool false),Is (.slice none 0 0),Is (.bool false),Is (.slice none 0 0),Is (.slice none 0 0)]) O_60 rfl (fun V=>aW zd (aW zd (aW zd (aW zd (aW zd (aG))))))) fun B6=>(eX (cK (ts (rm rfl (ro rfl (dG U_25 (Ht rfl) (by rw [List.length_map,hll])) ?_)))))))))
 refine ro rfl (cX (cJ 0)) (eX (eG ?_))
 refine cA (fun (k : Nat) => k ≤ n) (fun (k : Nat) => n - k) (fun (k : Nat) => [(1, aM l), (2, aM m), (3, bO B3 0), (6, bO B6 0), (9, NT .i64 n), (10, NT .i64 k)]) (fun (k : Nat) => [box B3 60 [aH (decide ((vN x l m k).a < 0)), bA (vN x l m k).a.natAbs, aH (decide ((vN x l m k).b < 0)), bA (vN x l m k).b.natAbs, bA (du (vN x l m k))], box B6 60 [Is (.bool false), Is (.slice none 0 0), Is (.bool false), Is (.slice none 0 0), Is (.slice none 0 0)]]) 0 (Nat.zero_le _)
  (zS rfl) (dR.refl _) (fun k hk=>?_)
 refine ts (ro rfl (gX (Ht rfl) (Ht rfl)) (eX (cK (dQ (Ht rfl) (fun hd=>?_) (fun hd=>?_)))))
 ·simp only [decide_eq_true_eq] at hd
  haveI f1:=Kb hx hl hm hL k
  haveI f2:=hl.get hL k
  haveI f3:=hm.get hL k
  have hkn:(k + 1) * (2 * L + 2) ≤ n * (2 * L + 2):=Nat.mul_le_mul_right _ hd
  rw [Nat.add_mul] at hkn
  refine cU (cK (eG (ts (rm rfl (ra rfl (eX (fZ (m:=12) (dp 3 rfl (eJ A_60 Z_60 (Ht rfl) (i:=0) rfl rfl rfl) (dq 13 0 rfl (aT bD (Ht rfl)) (dp 1 rfl (cX (Ht rfl)) (dp 7 rfl (cX (Ht rfl)) (cP 15 2 16 3 rfl (dZ U_25 Z_60 (Ht rfl) (Ht rfl) rfl (dY (dU (d:=Qi.zero) zo))) (dq 17 4 rfl (dJ A_60 Z_60 (Ht rfl)) (dq 18 5 rfl (aT bD (Ht rfl)) (dp 2 rfl (cX (Ht rfl)) (dp 7 rfl (cX (Ht rfl)) (cP 20 7 21 8 rfl (dZ U_25 Z_60 (Ht rfl) (Ht rfl) rfl (dY (dU (d:=Qi.zero) zo))) ?_)))))))))))))))))
  refine dq 22 9 rfl (dJ A_60 Z_60 (Ht rfl)) (cP 19 6 23 10 rfl (aL cB K_70 (iF (x:=gv l k) (y:=gv m k) (L:=L) (M:=L) zo) (Ht rfl) ⟨(Ht rfl),trivial⟩) (fV bC rfl (by kernel_rfl) (zF (zF (zF (aV (ro rfl (aL lF K_71 (rB (x:=vN x l m k) (y:=gv l k * gv m k) (L:=M + k * (2 * L + 2)) (M:=L + L + 1) zo) (Ht rfl) ⟨(Ht rfl),trivial⟩) (gQ Z_60 (Ht rfl) (Ht rfl) rfl (i:=0) rfl (aK rfl) rfl rfl ?_))))))))
  refine eX (bL (cY (ro rfl (dV (Ht rfl) (cJ 1) z6) (rm rfl (eX (fU (k + 1) hd zo (zS rfl) (dR.refl _)))))))
 ·simp only [decide_eq_false_iff_not] at hd
  obtain rfl:k = n:=Nat.le_antisymm hk zo
  refine gW rfl (ts (ro rfl (eJ A_60 Z_60 (Ht rfl) (i:=0) rfl rfl rfl) (gQ Z_60 (Ht rfl) (Ht rfl) rfl (i:=1) rfl (aK rfl) rfl rfl (eX ?_))))
  exact fW rfl (fK A_60 Z_60 rfl (i:=1) rfl rfl)
end
section
open Go Go.RowKit
theorem rD (x y:Qi):(x + y).conj = x.conj + y.conj:=Qi.ext' rfl (by show -(x.im + y.im) = -x.im + -y.im; grind)
theorem Ju (x y:Qi):(x - y).conj = x.conj - y.conj:=Qi.ext' rfl (by show -(x.im - y.im) = -x.im - -y.im; grind)
theorem eL (x y:Qi):(x * y).conj = x.conj * y.conj:=Qi.ext' (by show x.re * y.re - x.im * y.im = x.re * y.re - -x.im * -y.im; grind) (by show -(x.re * y.im + x.im * y.re) = x.re * -y.im + -x.im * y.re; grind)
theorem iX:(0:Qi).conj = 0:=Qi.ext' rfl (by show -(0:Rat) = 0; grind)
theorem pN:(1:Qi).conj = 1:=Qi.ext' rfl (by show -(0:Rat) = 0; grind)
theorem mL (x:Qi):x.conj.conj = x:=Qi.ext' rfl (by show - -x.im = x.im; grind)
theorem pO (n:Nat) (f:Nat → Qi):(aI n f).conj = aI n fun i=>(f i).conj:=by
 induction n with
 | zero=>exact iX
 | succ n ih=>rw [pJ,pJ,rD,ih]
theorem kC (n:Nat) (a:Qi) (f:Nat → Qi):aI n (fun k=>a * f k) = a * aI n f:=by
 rw [show a * aI n f = aI n f * a by grind,← iM]; exact aB fun _ _=>by grind
def pC (N:Nat) (p q:Nat → Qi) (C:Nat → Nat → Qi):Qi:=aI N fun a=>aI N fun b=>p a * C a b * (q b).conj
theorem Cz {N : Nat} {p q p' q' : Nat → Qi} {C C' : Nat → Nat → Qi} (hp : ∀ a, a < N → p a = p' a) (hq : ∀ a, a < N → q a = q' a) (hC : ∀ a b, a < N → b < N → C a b = C' a b) : pC N p q C = pC N p' q' C' :=
 aB fun a ha=>aB fun b hb=>by rw [hp a ha,hq b hb,hC a b ha hb]
theorem Ll {N M : Nat} {p q : Nat → Qi} {r : Nat → Nat → Qi} {C : Nat → Nat → Qi} :
  pC N p q (fun a b=>pC M (r a) (r b) C) = pC M (fun u=>aI N fun a=>p a * r a u) (fun u=>aI N fun a=>q a * r a u) C:=by
 have e : ∀ u v, (aI N fun a => p a * r a u) * C u v * (aI N fun b => q b * r b v).conj = aI N fun a => aI N fun b => p a * (r a u * C u v * (r b v).conj) * (q b).conj := fun u v => by
  rw [pO,Qi.mul_assoc',← iM]
  refine aB fun a _=>?_
  rw [show p a * r a u * (C u v * aI N fun i=>(q i * r i v).conj) = (p a * r a u * C u v) * aI N fun i=>(q i * r i v).conj by grind,← kC]
  exact aB fun b _=>by rw [eL]; grind
 have r1 : pC M (fun u => aI N fun a => p a * r a u) (fun u => aI N fun a => q a * r a u) C = aI M fun u => aI M fun v => aI N fun a => aI N fun b => p a * (r a u * C u v * (r b v).conj) * (q b).conj :=
  aB fun u _=>aB fun v _=>e u v
 have l1 : pC N p q (fun a b => pC M (r a) (r b) C) = aI N fun a => aI N fun b => aI M fun u => aI M fun v => p a * (r a u * C u v * (r b v).conj) * (q b).conj := by
  refine aB fun a _=>aB fun b _=>?_
  show p a * (aI M fun u=>aI M fun v=>r a u * C u v * (r b v).conj) * (q b).conj = _
  rw [← kC,← iM]
  refine aB fun u _=>?_
  rw [← kC,← iM]
 rw [r1,l1]
 have s1 : ∀ a, (aI N fun b => aI M fun u => aI M fun v => p a * (r a u * C u v * (r b v).conj) * (q b).conj) = aI M fun u => aI M fun v => aI N fun b => p a * (r a u * C u v * (r b v).conj) * (q b).conj := fun a => by
  rw [jJ]
  exact aB fun u _=>jJ _ _ _
 rw [aB fun a _=>s1 a,jJ]
 refine aB fun u _=>?_
 rw [jJ]
theorem Fp {N : Nat} {p q : Nat → Qi} {d : Nat → Qi} : pC N p q (fun a b => if a = b then d a else 0) = aI N fun k => p k * d k * (q k).conj := aB fun a ha => by
 rw [eA ha (fun b _ hb=>by show p a * (if a = b then d a else 0) * (q b).conj = 0; rw [if_neg (Ne.symm hb)]; grind)]
 show p a * (if a = a then d a else 0) * (q a).conj = _
 rw [if_pos rfl]
theorem yO {p c:List (List Qi)} {N a b:Nat} (hc:c.length = N) (ha:a < p.length) (hb:b < p.length):gm (iI p c) a b = pC N (gm p a) (gm p b) (gm c):=by
 rw [iI,jG ha hb,hc]; rfl
section
variable {z:List Qi} {S c:List (List Qi)} {js:List (Int × Int)} {N:Nat}
theorem a24 {z zb:List Qi} {k:Nat} (h:k < z.length):gv (z ++ zb) k = gv z k:=by simp only [gv,List.getD,List.getElem?_append_left h]
theorem a25 {z zb:List Qi} {k:Nat}:gv (z ++ zb) (z.length + k) = gv zb k:=by simp only [gv,List.getD,List.getElem?_append_right (Nat.le_add_right _ _),Nat.add_sub_cancel_left]
end
end
section
open Go Go.RowKit
def sq (n:Nat) (x y:Nat → Qi) (C:Nat → Nat → Qi):Qi:=aI n fun a=>aI n fun b=>(x a).conj * C a b * y b
section
variable {n:Nat} {x y z x' y':Nat → Qi} {C C':Nat → Nat → Qi}
theorem Dg (hx : ∀ a, a < n → x a = x' a) (hy : ∀ a, a < n → y a = y' a) (hC : ∀ a b, a < n → b < n → C a b = C' a b) : sq n x y C = sq n x' y' C' :=
 aB fun a ha=>aB fun b hb=>by rw [hx a ha,hy b hb,hC a b ha hb]
theorem On (f:Qi):sq n x (fun b=>y b + f * z b) C = sq n x y C + f * sq n x z C:=by
 have e : ∀ a, a < n → (aI n fun b => (x a).conj * C a b * (y b + f * z b)) = (aI n fun b => (x a).conj * C a b * y b) + f * aI n fun b => (x a).conj * C a b * z b := fun a _ => by
  rw [← kC,← pU]; exact aB fun b _=>by grind
 rw [sq,aB e,pU,kC]; rfl
theorem zH (f:Qi):sq n (fun a=>x a + f * z a) y C = sq n x y C + f.conj * sq n z y C:=by
 have e : ∀ a, a < n → (aI n fun b => (x a + f * z a).conj * C a b * y b) = (aI n fun b => (x a).conj * C a b * y b) + f.conj * aI n fun b => (z a).conj * C a b * y b := fun a _ => by
  rw [← kC,← pU]; exact aB fun b _=>by rw [rD,eL]; grind
 rw [sq,aB e,pU,kC]; rfl
theorem Si (hC:∀ a b,a < n → b < n → C a b = (C b a).conj):sq n y x C = (sq n x y C).conj:=by
 rw [sq,sq,pO,jJ]
 exact aB fun a ha => by
  rw [pO]
  exact aB fun b hb=>by rw [eL,eL,mL,hC b a hb ha]; grind
end
theorem xU {x:Qi} (h:x = x.conj):x.im = 0:=by
 have:x.im = -x.im:=congrArg Qi.im h
 grind
theorem pE {x:Qi} (h:x.im = 0):x.conj = x:=Qi.ext' rfl (by show -x.im = x.im; grind)
theorem qF (x:Qi):(0:Rat) < ((x.den:Int):Rat):=by
 have:=x.den_pos
 have h:(0:Int) < (x.den:Int):=by omega
 exact_mod_cast h
theorem Hy {x:Qi} (h:x.im = 0):Md x = true ↔ x.re < 0:=by
 obtain ⟨d1,d2⟩:=rW x
 have dp:=qF x
 have hb : x.b = 0 := by
  rw [h] at d2
  have:((x.b:Int):Rat) = 0:=by grind
  exact_mod_cast this
 have e : rV x Qi.zero = oT x.a 0 := by
  have z1:Qi.zero.den = 1:=by decide +kernel
  have z2:Qi.zero.a = 0:=by decide +kernel
  have z3:Qi.zero.b = 0:=by decide +kernel
  rw [rV,z1,z2,z3,hb]
  simp only [Int.natCast_one,Int.mul_one,Int.zero_mul]
  by_cases c:oT x.a 0 = 0
  ·rw [if_neg (fun k=>k c),c]; decide
  ·rw [if_pos c]
 rw [Md,decide_eq_true_iff,e]
 have e2 : oT x.a 0 < 0 ↔ x.a < 0 := by
  unfold oT
  constructor
  ·intro k; revert k; split
   ·intro _; assumption
   ·split <;> intro k <;> omega
  ·intro k; rw [if_pos k]; decide
 rw [e2]
 constructor
 ·intro k
  have k2:((x.a:Int):Rat) < 0:=by exact_mod_cast k
  rw [← d1] at k2
  apply Decidable.byContradiction
  intro c
  have:=Rat.mul_nonneg (Rat.le_of_lt dp) (Rat.not_lt.1 c)
  grind
 ·intro k
  have k2 : ((x.den : Int) : Rat) * x.re < 0 := by
   have:=Rat.mul_pos dp (show 0 < -x.re by grind)
   grind
  rw [d1] at k2
  exact_mod_cast k2
abbrev vv (V:List (List Qi)) (r:Nat):Nat → Qi:=gv (V.getD r [])
section
variable {h:List (List Qi)} {n:Nat}
theorem Qp (hh:lP h n = true) {a b:Nat} (ha:a < n) (hb:b < n):gm h a b = (gm h b a).conj:=of_decide_eq_true hh a ha b hb
theorem Ya {G:List (List Qi)} {i r c:Nat} (hr:r < n) (hc:c < n) (h1:i < r) (h2:i < c):gm (To G n i) r c = gm G r c - gm G r i * (gm G i c / gm G i i):=by
 rw [To,xC,jG hr hc,if_pos ⟨⟨h1,h2⟩,.inl hc⟩]
theorem Yc {G V:List (List Qi)} {i r a:Nat} (hr:r < n) (h1:i < r) (hl:(V.getD r []).length = n) (ha:a < n):vv (oG G V n i n) r a = vv V r a + -(gm G i r / gm G i i) * vv V i a:=by
 show gv ((oG G V n i n).getD r []) a = _
 rw [oG,nC hr,if_pos ⟨h1,hr⟩,Zu,kK zo]
theorem xA (hs : cF h n n) (hh : lP h n = true) : ∀ i, i ≤ n → ∀ r c, i ≤ r → r < n → i ≤ c → c < n → gm (gM h n i).1 r c = sq n (vv (gM h n i).2 r) (vv (gM h n i).2 c) (gm h)
 | 0, _, r, c, _, hr, _, hc => by
  have e:∀ r,r < n → ∀ a,a < n → vv (rO n) r a = if r = a then 1 else 0:=fun r hr a ha=>vX hr ha
  have e1 : ∀ a, a < n → (aI n fun b => (vv (rO n) r a).conj * gm h a b * vv (rO n) c b) = if a = r then gm h a c else 0 := fun a ha => by
   rw [eA hc (fun b hb hne=>by rw [e c hc b hb,if_neg (Ne.symm hne)]; grind),e c hc c hc,if_pos rfl,e r hr a ha]
   by_cases k:r = a
   ·rw [if_pos k,if_pos k.symm,pN]; grind
   ·rw [if_neg k,if_neg (Ne.symm k),iX]; grind
  show gm h r c = sq n (vv (rO n) r) (vv (rO n) c) (gm h)
  rw [sq,aB e1,eA hr (fun a _ hne=>if_neg hne),if_pos rfl]
 | i + 1, hi, r, c, h1, hr, h2, hc => by
  have ih:=xA hs hh i zo
  obtain ⟨hG,hV⟩:=qG hs i zo
  by_cases k:gm (gM h n i).1 i i = 0
  ·rw [xB k]; exact ih r c zo hr zo hc
  ·rw [Gw k]
   dsimp only
   generalize hD:gM h n i = D at *
   obtain ⟨G,V⟩:=D
   dsimp only at *
   rw [Ya hr hc zo zo]
   have s1 : sq n (vv (oG G V n i n) r) (vv (oG G V n i n) c) (gm h) = sq n (fun a => vv V r a + -(gm G i r / gm G i i) * vv V i a) (fun a => vv V c a + -(gm G i c / gm G i i) * vv V i a) (gm h) :=
    Dg (fun a ha=>Yc hr zo (hV.row hr) ha) (fun a ha=>Yc hc zo (hV.row hc) ha) fun _ _ _ _=>rfl
   rw [s1,On,zH,zH,← ih r c zo hr zo hc,← ih i c zo zo zo hc,← ih r i zo hr zo zo,← ih i i zo zo zo zo]
   have d:=qT (x:=gm G i c) k
   generalize gm G i c / gm G i i = f at *
   generalize (-(gm G i r / gm G i i)).conj = g at *
   grind
theorem tR (hs:cF h n n) (hh:lP h n = true) {i r c:Nat} (hi:i ≤ n) (h1:i ≤ r) (hr:r < n) (h2:i ≤ c) (hc:c < n):gm (gM h n i).1 r c = (gm (gM h n i).1 c r).conj:=by
 rw [xA hs hh i hi r c h1 hr h2 hc,xA hs hh i hi c r h2 hc h1 hr]
 exact Si fun a b ha hb=>Qp hh ha hb
theorem Jy (hs:cF h n n) (hh:lP h n = true) {i r:Nat} (hi:i ≤ n) (h1:i ≤ r) (hr:r < n):(gm (gM h n i).1 r r).im = 0:=xU (tR hs hh hi h1 hr h1 hr)
theorem Qc (hs : cF h n n) (hh : lP h n = true) : ∀ f i, i + f = n → (yQ h n f i).1 = false → Md (sq n (gv (yQ h n f i).2) (gv (yQ h n f i).2) (gm h)) = true ∧ (yQ h n f i).2.length = n
 | 0,i,_,k=>by cases k
 | f + 1, i, hf, k => by
  have hin:i < n:=by omega
  obtain ⟨hG,hV⟩:=qG hs i zo
  have form:=xA hs hh i zo
  have herm:∀ {r c},i ≤ r → r < n → i ≤ c → c < n → gm (gM h n i).1 r c = (gm (gM h n i).1 c r).conj:=fun a b c d=>tR hs hh zo a b c d
  have real:∀ {r},i ≤ r → r < n → (gm (gM h n i).1 r r).im = 0:=fun a b=>Jy hs hh zo a b
  rw [yQ] at k ⊢
  by_cases c1:Md (gm (gM h n i).1 i i) = true
  ·rw [if_pos c1]
   have e:=form i i (Nat.le_refl _) hin (Nat.le_refl _) hin
   rw [e] at c1
   exact ⟨c1,hV.row hin⟩
  ·rw [if_neg c1] at k ⊢
   by_cases c2:Ey (gM h n i).1 (gM h n i).2 n i ≠ []
   ·rw [if_pos c2]
    dsimp only
    rw [Ey] at c2 ⊢
    by_cases c3:gm (gM h n i).1 i i = 0
    ·rw [if_pos c3] at c2 ⊢
     by_cases c4:Xz (gM h n i).1 n i < n
     ·rw [if_pos c4]
      obtain ⟨⟨p1,p2⟩,p3,p4⟩:=yV (p:=fun k=>!decide (gm (gM h n i).1 i k = 0)) (f:=n - (i + 1)) (k:=i + 1)
      have q:=p4 (by show Xz (gM h n i).1 n i < _; omega)
      have p1':i + 1 ≤ Xz (gM h n i).1 n i:=p1
      have hgne : ¬ gm (gM h n i).1 i (Xz (gM h n i).1 n i) = 0 := by
       have:(!decide (gm (gM h n i).1 i (Xz (gM h n i).1 n i) = 0)) = true:=q
       simpa using this
      generalize hkk:Xz (gM h n i).1 n i = kk at *
      generalize hD:gM h n i = D at *
      obtain ⟨G,V⟩:=D
      dsimp only at *
      refine ⟨?_,by rw [crV,Az]; exact hV.row c4⟩
      have s1 : sq n (gv (crV G V i kk)) (gv (crV G V i kk)) (gm h) = sq n (fun a => vv V kk a + (-(yP G i kk) * gm G i kk) * vv V i a) (fun a => vv V kk a + (-(yP G i kk) * gm G i kk) * vv V i a) (gm h) := by
       have:∀ a,a < n → gv (crV G V i kk) a = vv V kk a + (-(yP G i kk) * gm G i kk) * vv V i a:=fun a ha=>by rw [crV,Zu,kK (by rw [hV.row c4]; exact ha)]
       exact Dg this this fun _ _ _ _=>rfl
      rw [s1,On,zH,zH,← form kk kk zo c4 zo c4,← form i kk zo hin zo c4,← form kk i zo c4 zo hin,← form i i zo hin zo hin,c3]
      have hN:=Kz hgne
      have sd:yP G i kk * ((gm G i kk).norm + (gm G i kk).norm) = Tm (gm G kk kk) + 1:=qT hN
      have zr : (Tm (gm G kk kk)).im = 0 := by
       unfold Tm; split
       ·show -(gm G kk kk).im = 0; rw [real zo c4]; grind
       ·exact real zo c4
      have cN:((gm G i kk).norm).conj = (gm G i kk).norm:=pE rfl
      have sc : (yP G i kk).conj = yP G i kk := by
       have:=congrArg Qi.conj sd
       rw [eL,rD,rD,cN,pE zr,pN,← sd] at this
       have e2:((yP G i kk).conj - yP G i kk) * ((gm G i kk).norm + (gm G i kk).norm) = 0:=by grind
       rcases jP e2 with k | k
       ·grind
       ·exact absurd k hN
      have hki:gm G kk i = (gm G i kk).conj:=herm zo c4 zo hin
      have gg:=Qi.mul_conj_norm (gm G i kk)
      have cneg : (-(yP G i kk) * gm G i kk).conj = -(yP G i kk) * (gm G i kk).conj := by
       rw [eL,show (-(yP G i kk)).conj = -(yP G i kk).conj from Qi.ext' rfl rfl,sc]
      have tot : gm G kk kk + (-(yP G i kk) * gm G i kk).conj * gm G i kk + -(yP G i kk) * gm G i kk * (gm G kk i + (-(yP G i kk) * gm G i kk).conj * 0) = gm G kk kk - (Tm (gm G kk kk) + 1) := by
       rw [cneg,hki,← sd,← gg]; grind
      rw [tot]
      have im0 : (gm G kk kk - (Tm (gm G kk kk) + 1)).im = 0 := by
       show (gm G kk kk).im - ((Tm (gm G kk kk)).im + 0) = 0
       rw [real zo c4,zr]; grind
      rw [Hy im0]
      show (gm G kk kk).re - ((Tm (gm G kk kk)).re + 1) < 0
      have rr:=Hy (real (r:=kk) zo c4)
      unfold Tm
      by_cases c5:Md (gm G kk kk) = true
      ·rw [if_pos c5]
       have:=rr.1 c5
       show (gm G kk kk).re - (-(gm G kk kk).re + 1) < 0
       grind
      ·rw [if_neg c5]; grind
     ·rw [if_neg c4] at c2; exact absurd rfl c2
    ·rw [if_neg c3] at c2; exact absurd rfl c2
   ·rw [if_neg c2] at k ⊢
    exact Qc hs hh f (i + 1) zo k
def ei (i:Nat) (v:Qi) (a:Nat):Qi:=if a = i then v else 0
theorem Al {i:Nat} {v:Qi}:ei i v i = v:=if_pos rfl
theorem zQ {i a:Nat} {v:Qi} (h:a ≠ i):ei i v a = 0:=if_neg h
def mk (i:Nat) (y:Nat → Qi) (r:Nat):Qi:=if i ≤ r then y r else 0
theorem nB (x:Rat):0 ≤ x * x:=by
 rcases Rat.le_total (a:=0) (b:=x) with k | k
 ·exact Rat.mul_nonneg k k
 ·have := Rat.mul_nonneg (a := -x) (b := -x) (by grind) (by grind)
  grind
theorem Ny (z:Qi):0 ≤ z.nrm:=by
 have a:=nB z.re
 have b:=nB z.im
 show 0 ≤ z.re * z.re + z.im * z.im
 grind
theorem Oe {d z:Qi} (hd:d.im = 0) (h0:0 < d.re):0 ≤ (Qi.inv d * (z.conj * z)).re:=by
 have hne:d ≠ 0:=fun e=>by rw [e] at h0; exact absurd h0 (by decide)
 have e:=uA hne
 have e1:d.re * (Qi.inv d).re - d.im * (Qi.inv d).im = 1:=congrArg Qi.re e
 rw [hd] at e1
 have hq : 0 ≤ (Qi.inv d).re := by
  apply Decidable.byContradiction; intro c
  have:=Rat.mul_pos h0 (show 0 < -(Qi.inv d).re by grind)
  grind
 have e2:z.conj * z = z.norm:=by rw [show z.conj * z = z * z.conj by grind,Qi.mul_conj_norm]
 rw [e2]
 show 0 ≤ (Qi.inv d).re * z.nrm - (Qi.inv d).im * 0
 have:=Rat.mul_nonneg hq (Ny z)
 grind
theorem Qb (hs : cF h n n) (hh : lP h n = true) (y : Nat → Qi) : ∀ f i, i + f = n → (yQ h n f i).1 = true → 0 ≤ (sq n (mk i y) (mk i y) (gm (gM h n i).1)).re
 | 0, i, hf, _ => by
  have e : sq n (mk i y) (mk i y) (gm (gM h n i).1) = 0 := dT fun a ha => dT fun b hb => by
   rw [mk,if_neg zo,iX]; grind
  rw [e]; exact Rat.le_refl
 | f + 1, i, hf, k => by
  have hin:i < n:=by omega
  obtain ⟨hG,hV⟩:=qG hs i zo
  have herm:∀ {r c},i ≤ r → r < n → i ≤ c → c < n → gm (gM h n i).1 r c = (gm (gM h n i).1 c r).conj:=fun a b c d=>tR hs hh zo a b c d
  have real:=Jy hs hh (i:=i) (r:=i) zo (Nat.le_refl _) hin
  rw [yQ] at k
  by_cases c1:Md (gm (gM h n i).1 i i) = true
  ·rw [if_pos c1] at k; cases k
  rw [if_neg c1] at k
  by_cases c2:Ey (gM h n i).1 (gM h n i).2 n i ≠ []
  ·rw [if_pos c2] at k; cases k
  rw [if_neg c2] at k
  have ih:=Qb hs hh y f (i + 1) zo k
  -- the vector is what lies behind i,and its element i
  have sp : ∀ a, a < n → mk i y a = mk (i + 1) y a + 1 * ei i (y i) a := fun a _ => by
   unfold mk ei
   by_cases e:a = i
   ·subst e; rw [if_pos (Nat.le_refl _),if_neg zo,if_pos rfl]; grind
   ·rw [if_neg e]
    by_cases e2:i ≤ a
    ·rw [if_pos e2,if_pos zo]; grind
    ·rw [if_neg e2,if_neg zo]; grind
  have u0:∀ a,a ≤ i → mk (i + 1) y a = 0:=fun a ha=>if_neg zo
  rw [Dg sp sp (fun _ _ _ _=>rfl),On,zH,zH]
  by_cases c3:gm (gM h n i).1 i i = 0
  ·rw [xB c3] at ih
   generalize hD:gM h n i = D at *
   obtain ⟨G,V⟩:=D
   dsimp only at *
   have row : ∀ b, i < b → b < n → gm G i b = 0 := fun b h1 h2 => by
    have c4 : ¬ Xz G n i < n := fun c4 => c2 (by
     rw [Ey,if_pos c3,if_pos c4]
     intro e
     have:=congrArg List.length e
     rw [crV,Az,hV.row c4] at this
     simp at this; omega)
    obtain ⟨⟨p1,p2⟩,p3,p4⟩:=yV (p:=fun k=>!decide (gm G i k = 0)) (f:=n - (i + 1)) (k:=i + 1)
    have c5:¬ xH (fun k=>!decide (gm G i k = 0)) (n - (i + 1)) (i + 1) < n:=c4
    have:=p3 b zo zo
    simpa using this
   have col:∀ a,i < a → a < n → gm G a i = 0:=fun a h1 h2=>by rw [herm zo h2 (Nat.le_refl _) hin,row a h1 h2,iX]
   have z1 : sq n (mk (i + 1) y) (ei i (y i)) (gm G) = 0 := dT fun a ha => dT fun b hb => by
    by_cases e:a ≤ i
    ·rw [u0 a e,iX]; grind
    ·by_cases e2 : b = i
     ·subst e2; rw [col a zo ha]; grind
     ·rw [zQ e2]; grind
   have z2 : sq n (ei i (y i)) (mk (i + 1) y) (gm G) = 0 := dT fun a ha => dT fun b hb => by
    by_cases e:b ≤ i
    ·rw [u0 b e]; grind
    ·by_cases e2 : a = i
     ·subst e2; rw [row b zo hb]; grind
     ·rw [zQ e2,iX]; grind
   have z3 : sq n (ei i (y i)) (ei i (y i)) (gm G) = 0 := dT fun a ha => dT fun b hb => by
    by_cases e:a = i
    ·by_cases e2 : b = i
     ·subst e; subst e2; rw [c3]; grind
     ·rw [zQ e2]; grind
    ·rw [zQ e,iX]; grind
   rw [z1,z2,z3,pN]
   have e:sq n (mk (i + 1) y) (mk (i + 1) y) (gm G) + 1 * 0 + 1 * (0 + 1 * 0) = sq n (mk (i + 1) y) (mk (i + 1) y) (gm G):=by grind
   rw [e]; exact ih
  ·rw [Gw c3] at ih
   dsimp only at ih
   have dpos : 0 < (gm (gM h n i).1 i i).re := by
    have a:=Hy real
    have b:¬ (gm (gM h n i).1 i i).re < 0:=fun e=>c1 (a.2 e)
    have c:(gm (gM h n i).1 i i).re ≠ 0:=fun e=>c3 (Qi.ext' e real)
    grind
   generalize hD:gM h n i = D at *
   obtain ⟨G,V⟩:=D
   dsimp only at *
   have inv:=uA c3
   obtain ⟨d,hd⟩:∃ d,d = gm G i i:=⟨_,rfl⟩
   obtain ⟨q,hq⟩:∃ q,q = Qi.inv d:=⟨_,rfl⟩
   obtain ⟨T,hT⟩:∃ T,T = aI n fun b=>gm G i b * mk (i + 1) y b:=⟨_,rfl⟩
   have hA : (aI n fun a => (mk (i + 1) y a).conj * gm G a i) = T.conj := by
    rw [hT,pO]
    exact aB fun a ha => by
     by_cases e:a ≤ i
     ·rw [u0 a e,eL,iX]; grind
     ·rw [eL,herm zo ha (Nat.le_refl _) hin]; grind
   have z1 : sq n (mk (i + 1) y) (ei i (y i)) (gm G) = T.conj * y i := by
    rw [← hA,← iM]
    exact aB fun a _=>by rw [eA hin (fun b _ hne=>by rw [zQ hne]; grind),Al]
   have z2 : sq n (ei i (y i)) (mk (i + 1) y) (gm G) = (y i).conj * T := by
    have e : ∀ a, a < n → (aI n fun b => (ei i (y i) a).conj * gm G a b * mk (i + 1) y b) = if a = i then (y i).conj * T else 0 := fun a ha => by
     by_cases e:a = i
     ·subst e
      rw [Al,if_pos rfl,hT,← kC]; exact aB fun b _=>by grind
     ·rw [zQ e,if_neg e,iX]; exact dT fun b _=>by grind
    rw [sq,aB e,eA hin (fun a _ hne=>if_neg hne),if_pos rfl]
   have z3 : sq n (ei i (y i)) (ei i (y i)) (gm G) = (y i).conj * d * y i := by
    have e : ∀ a, a < n → (aI n fun b => (ei i (y i) a).conj * gm G a b * ei i (y i) b) = if a = i then (y i).conj * d * y i else 0 := fun a ha => by
     rw [eA hin (fun b _ hne=>by rw [zQ hne]; grind),Al]
     by_cases e:a = i
     ·subst e; rw [Al,if_pos rfl,hd]
     ·rw [zQ e,if_neg e,iX]; grind
    rw [sq,aB e,eA hin (fun a _ hne=>if_neg hne),if_pos rfl]
   have z4 : sq n (mk (i + 1) y) (mk (i + 1) y) (gm G) = sq n (mk (i + 1) y) (mk (i + 1) y) (gm (To G n i)) + T.conj * q * T := by
    have e : ∀ a, a < n → (aI n fun b => (mk (i + 1) y a).conj * gm G a b * mk (i + 1) y b) = (aI n fun b => (mk (i + 1) y a).conj * gm (To G n i) a b * mk (i + 1) y b) + (mk (i + 1) y a).conj * gm G a i * (q * T) := fun a ha => by
     by_cases e:a ≤ i
     ·rw [u0 a e,iX,dT fun b _=>by grind,dT fun b _=>by grind]; grind
     ·have e2 : (mk (i + 1) y a).conj * gm G a i * (q * T) = aI n fun b => (mk (i + 1) y a).conj * gm G a i * q * (gm G i b * mk (i + 1) y b) := by rw [kC, hT]; grind
      rw [e2,← pU]
      exact aB fun b hb => by
       by_cases e3:b ≤ i
       ·rw [u0 b e3]; grind
       ·rw [Ya ha hb zo zo,Qi.div_def,← hd,← hq]; grind
    rw [sq,aB e,pU,iM,hA]
    show sq n (mk (i + 1) y) (mk (i + 1) y) (gm (To G n i)) + T.conj * (q * T) = _
    grind
   rw [z1,z2,z3,z4,pN]
   rw [← hd] at real dpos inv
   rw [← hq] at inv
   have dc:=pE real
   have pn:=Oe (z:=d * y i + T) real dpos
   rw [← hq] at pn
   have e : sq n (mk (i + 1) y) (mk (i + 1) y) (gm (To G n i)) + T.conj * q * T + 1 * ((y i).conj * T) + 1 * (T.conj * y i + 1 * ((y i).conj * d * y i)) = sq n (mk (i + 1) y) (mk (i + 1) y) (gm (To G n i)) + q * ((d * y i + T).conj * (d * y i + T)) := by
    rw [rD,eL,dc]; grind
   rw [e]
   show 0 ≤ (sq n (mk (i + 1) y) (mk (i + 1) y) (gm (To G n i))).re + (q * ((d * y i + T).conj * (d * y i + T))).re
   grind
theorem a1D (hs:cF h n n):Tn h n = true ↔ lP h n = true ∧ ∀ y:Nat → Qi,0 ≤ (sq n y y (gm h)).re:=by
 constructor
 ·intro k
  unfold Tn at k
  by_cases c:lP h n = true
  ·rw [if_pos c] at k
   refine ⟨c,fun y=>?_⟩
   have:=Qb hs c y n 0 zo k
   exact this
  ·rw [if_neg c] at k; cases k
 ·rintro ⟨c, k⟩
  unfold Tn
  rw [if_pos c]
  by_cases e:(yQ h n n 0).1 = true
  ·exact e
  ·obtain ⟨a, _⟩ := Qc hs c n 0 zo (by simpa using e)
   have real:(sq n (gv (yQ h n n 0).2) (gv (yQ h n n 0).2) (gm h)).im = 0:=xU (Si fun a b ha hb=>Qp c ha hb)
   have:=(Hy real).1 a
   have:=k (gv (yQ h n n 0).2)
   grind
end
end
section
open Go Go.RowKit
theorem Mu {z:List Qi} {s c:List (List Qi)} {L G0 V0:Nat} (hch:cF c z.length z.length) (hfc:aN c L) (hL:1 ≤ L) (hLb:L ≤ 4000000000000) (hz:lP c z.length = true → SzD c z.length G0 V0) (hl:z.length ≤ 32):bR Tryz.prog 45 [eH z s c] (eD [aH (Tn c z.length),aM (dfW c z.length)]):=by
 refine bR.intro Tryz.func45 rfl Tryz.ntmps45 rfl (fun cx=>(ts (rn rfl (fG (Ht rfl)) fun B1=>(ro rfl (cQ cV) (ro rfl (cQ cV) (eX (ts (ro rfl (eZ kJ (Ht rfl) rfl) (ro rfl (eY A_26 Z_26 (Ht rfl) (i:=0) rfl rfl) (ro rfl (cZ Tryz.call98 (Mp (n:=z.length) hch hfc hL hLb hz hl) ⟨(Ht rfl),trivial⟩) (rm rfl (ro rfl (dK (Ht rfl) rfl) (ro rfl (dK (Ht rfl) rfl) (ro rfl (dK (Ht rfl) rfl) (ra rfl (ra rfl (eX (ts (rm rfl (rm rfl (ra rfl (ra rfl (eX ?_)))))))))))))))))))))))
 exact bN rfl (eU rfl) (eU rfl)
end
section
open Go Go.RowKit
section
variable {z w:List Qi} {s:List (List Qi)} {n:Nat}
theorem yA (hz:z.length = n) (hw:w.length = n) (h:Fq z w s = 0):w.all gU = true ∧ sP (Ae z w s) n = 0 ∧ xZ z w s = iJ (Vy z w s) (qA (Ae z w s) n) n n n ∧ rnZ z w s = w:=by
 have e:=h
 rw [Fq,if_neg zo] at e
 by_cases c:w.all gU = true
 ·rw [if_pos c] at e
  subst hw
  exact ⟨c,a0f e,by rw [xZ,dM,if_pos h],by rw [rnZ,dM,if_pos h]⟩
 ·rw [if_neg c] at e; omega
end
end
section
open Go Go.RowKit
section
variable {z w:List Qi} {s c:List (List Qi)} {n:Nat}
def Nw (z w:List Qi) (S:List (List Qi)) (i k:Nat):Qi:=if i = k then (1 + oR z w k) * zZ - gm S i k * ((1 - oR z w k) * zZ) else -(gm S i k * ((1 - oR z w k) * zZ))
def nrM (z w:List Qi) (S:List (List Qi)) (n:Nat):List (List Qi):=tab n fun i=>tab n fun k=>Nw z w S i k
def nrC (z w:List Qi) (s c:List (List Qi)):List (List Qi):=dM (Fq z w s) (iI (nrM z w (xZ z w s) w.length) c)
theorem Ri (z w:List Qi) (S:List (List Qi)) (n:Nat):cF (nrM z w S n) n n:=cF.tab
theorem a59 (hz:z.length = n) (hw:w.length = n) (h:Fq z w s = 0) {i j:Nat} (hi:i < n) (hj:j < n):(aI n fun u=>gm (xZ z w s) i u * gm (Ae z w s) u j) = gm (Vy z w s) i j:=by
 obtain ⟨hq,hiB,hS,-⟩:=yA hz hw h
 have hBs:cF (Ae z w s) n n:=by rw [← hw]; exact xM _ _ _ _
 have l:=a3z hBs hiB
 have e1:∀ u,u < n → gm (xZ z w s) i u = aI n fun v=>gm (Vy z w s) i v * gm (qA (Ae z w s) n) v u:=fun u hu=>by rw [hS,mZ hi hu]
 have e2:∀ v,v < n → (aI n fun u=>gm (qA (Ae z w s) n) v u * gm (Ae z w s) u j) = if v = j then 1 else 0:=fun v hv=>by rw [← mZ hv hj,l,vX hv hj]
 have e3 : ∀ u, u < n → gm (xZ z w s) i u * gm (Ae z w s) u j = aI n fun v => gm (Vy z w s) i v * (gm (qA (Ae z w s) n) v u * gm (Ae z w s) u j) := fun u hu => by
  rw [e1 u hu,← iM]; exact aB fun v _=>by grind
 rw [aB e3,jJ]
 have e4:∀ v,v < n → (aI n fun u=>gm (Vy z w s) i v * (gm (qA (Ae z w s) n) v u * gm (Ae z w s) u j)) = gm (Vy z w s) i v * (if v = j then 1 else 0):=fun v hv=>by rw [kC,e2 v hv]
 rw [aB e4,eA hj (fun v _ hne=>by rw [if_neg hne]; grind),if_pos rfl]; grind
abbrev dl (i k:Nat):Qi:=if i = k then 1 else 0
theorem Vn {n:Nat} (f g:Nat → Qi):aI n f - aI n g = aI n fun k=>f k - g k:=by
 rw [aB (f:=fun k=>f k - g k) (g:=fun k=>f k - 1 * g k) (fun k _=>by grind),uK]; grind
theorem zD {x:Qi} (h:gU x = true):x.conj = x:=by
 have hb:=a53 h
 have e : x.im = 0 := by
  have h2:=(rW x).2
  rw [hb] at h2
  have hd : ((x.den : Int) : Rat) ≠ 0 := by
   have:=x.den_pos
   intro k
   have:(x.den:Int) = 0:=by exact_mod_cast k
   omega
  have h3:((x.den:Int):Rat) * x.im = 0:=by rw [h2]; rfl
  rcases Rat.mul_eq_zero.1 h3 with k | k
  ·exact absurd k hd
  ·exact k
 exact Qi.ext' rfl (by show -x.im = x.im; rw [e]; rfl)
end
section
variable {z:List Qi} {s:List (List Qi)} {n:Nat}
end
section
variable {z:List Qi} {s:List (List Qi)} {l:List Int}
end
section
variable {z:List Qi} {s:List (List Qi)} {g t:Qi} {p n:Nat}
end
end
section
open Go Go.RowKit
theorem Et {r n:Nat} (hr:r ≤ 1000) (h1:1 ≤ n) (hn:n ≤ 1000):fN Tryz.prog 146 [NT .i64 r,NT .i64 n] [] (Nat) (fun B=>Is (.slice (some ⟨B,0,none⟩) r r)) (fun B=>[lR jB B 25 60 5 (bM aF (Sv r n))]) (fun _=>True):=by
 refine fN.intro Tryz.func146 rfl Tryz.ntmps146 rfl (fun cx Z=>(ts (ro rfl (cQ cV) (eX (ts (rm rfl (rn rfl (gK (T:=Is (.slice none 0 0)) (i:=Tryz.t25) V_26 lA rfl rfl (Ht rfl) rfl (fun _=>rfl) trivial (by show 24 * _ ≤ _; omega) zo) fun B8=>(ra rfl (eX (cK (ts (rm rfl (ro rfl (eT U_26 (Ht rfl)) (ro rfl (cX (cJ 0)) (eX (eG (mU 1 rfl (xK jB ⟨none,0,rfl⟩ (e:=60) (s:=5)) ?_)))))))))))))))))
 refine cA (fun (k : Nat) => k ≤ r) (fun (k : Nat) => r - k) (fun (k : Nat) => [(1, NT .i64 n), (5, Is (.slice (some ⟨B8, 0, none⟩) r r)), (10, NT .i64 r), (11, NT .i64 k)]) (fun (k : Nat) => [Z, lR jB B8 25 60 5 (bM aF (kV (fun _ => (tab n fun _ => Qi.zero)) [] r k))]) 0 (Nat.zero_le _)
  (zS rfl) (aU (fun _ _ _ h=>h) (aU (bI (by rw [← iL,kT]; exact mA aF r)) aY)) (fun k hk=>?_)
 refine ts (ro rfl (gX (Ht rfl) (Ht rfl)) (eX (cK (dQ (Ht rfl) (fun hd=>?_) (fun hd=>?_)))))
 ·simp only [decide_eq_true_eq] at hd
  refine mV 1 (k) rfl (kQ hd) (fun v hv=>(cU (cK (eG (ts (rm rfl (ra rfl (eX (cY (rm rfl (rm rfl (ro rfl (cZ K_52 (mK (n:=0) (by decide) (by decide)) ⟨(cJ 0),trivial⟩) (ro rfl (cZ K_147 Bx ⟨(Ht rfl),trivial⟩) (ro rfl (cE (xs:=[.tmp 17]) U_25 Z_60 O_60 (cW (Ht rfl) cG) rfl rfl rfl) (rm rfl (iN Tryz.call229 (Mv (m:=n) h1 hn) ⟨(Ht rfl),(Ht rfl),trivial⟩ rfl (fun B20 _=>?_)))))))))))))))))
  have hB20:=B20.2
  refine ro rfl (fY U_26 Z_25 (Ht rfl) (Ht rfl) rfl zo (by rw [Nat.mul_one,Nat.zero_add])) ?_
  refine tK Z_25 (Ht rfl) (Ht rfl) (by simp only [bM,List.length_map,dE]; omega) (j:=1) (l:=3) rfl rfl rfl ?_
  refine eX (bL (dS 1 3 rfl rfl (by decide) (by simp only [bM,List.length_map,dE]; omega) ?_))
  refine cY (ro rfl (dV (Ht rfl) (cJ 1) z6) (rm rfl (eX (bS [0,1] rfl (by decide) (fU (k + 1) hd zo (zS rfl) (aU (fun _ _ _ h=>h) (aU (bI (by rw [eN,← jN (f:=fun _=>(tab n fun _=>Qi.zero))])) aY)))))))
 ·simp only [decide_eq_false_iff_not] at hd
  obtain rfl:r = k:=Nat.le_antisymm zo hk
  refine gW rfl (ts (rm rfl (ra rfl (eX ?_))))
  exact iO B8 trivial [0,1] ⟨⟨_,rfl,fun _ _ _ h=>h⟩,⟨_,rfl,(bI (by rw [jW]; rfl))⟩,trivial⟩ (by decide) (tG rfl (eU rfl))
theorem Xl {z:List Qi} {s c:List (List Qi)} {port:Int} {g t:Qi} {G:Nat} (hG:28 ≤ G) (hGb:G ≤ 1000000) (hz:bP z 2) (hs:aN s 2) (hc:aN c G) (hg:aE g 2) (ht:aE t 2) (hsh:cF s z.length z.length) (hch:cF c z.length z.length) (hl:z.length ≤ 8):bR Tryz.prog 53 [eH z s c,aP .i64 port,aF g,aF t] (eD [eH (ntZ z s port g t) (ntS z s port g t) (ntQ z s c port g t),aP .i64 (Nz z s port g t)]):=by
 haveI:=hg
 haveI:=ht
 haveI f0:=iP
 have hsl:=hsh.1
 refine bR.intro Tryz.func53 rfl Tryz.ntmps53 rfl (fun cx=>(ts (rn rfl (fG (Ht rfl)) fun B4=>(rn rfl (fG (Ht rfl)) fun B6=>(rn rfl (fG (Ht rfl)) fun B7=>(rn rfl (eW (Ts:=[Is (.slice none 0 0),Is (.slice none 0 0),Is (.slice none 0 0)]) O_80 rfl (fun V=>aW zd (aW zd (aW zd (aG))))) fun B8=>(ro rfl (cQ (cJ 0)) (eX (cK (ts (ro rfl (eJ A_60 Z_60 (Ht rfl) (i:=2) rfl rfl rfl) (ro rfl (cZ Tryz.call158 (Xp zo) ⟨(Ht rfl),trivial⟩) ?_))))))))))))
 refine ro rfl (dH (Ht rfl)) (eX (dQ (Ht rfl) (fun hb=>?_) (fun hb=>?_)))
 ·have hw : oL t ≠ 0 := by simp only [Bool.not_eq_true'] at hb; rw [oL, hb]; decide
  have hw1:oL t = 1:=by simp only [Bool.not_eq_true'] at hb; rw [oL,hb]; rfl
  have he1:Nz z s port g t = 1:=by rw [Nz,if_neg hw,hw1]
  have he:Nz z s port g t ≠ 0:=by rw [he1]; decide
  refine ts (ro rfl (aS.imp (rS ) nK) (gQ Z_80 (Ht rfl) (Ht rfl) rfl (i:=3) rfl (aK rfl) rfl rfl (ro rfl (cQ (cJ 1)) (eX (bN rfl (fX (fK A_80 Z_80 rfl (i:=3) rfl rfl) ?_) (fX (eU rfl) ?_))))))
  ·exact (fun v V h=>by rw [ntZ,ntS,ntQ,dM,dM,dM,if_neg he,if_neg he,if_neg he]; exact h)
  ·exact (bE he1.symm)
 ·have hw : oL t = 0 := by simp only [Bool.not_eq_false'] at hb; rw [oL, hb]; rfl
  have hee:Nz z s port g t = qY z s port g:=by rw [Nz,if_pos hw]
  refine cU (ts (ro rfl (eZ mX (Ht rfl) rfl) (ro rfl (eJ A_28 Z_28 (Ht rfl) (i:=0) rfl rfl rfl) (rm rfl (ro rfl (eJ A_60 Z_60 (Ht rfl) (i:=1) rfl rfl rfl) (ro rfl (cZ Tryz.call40 (a44 (z:=z) (s:=s) (port:=port) (g:=g) (L:=2) hsh hs hg (by decide) (by decide) zo) ⟨(Ht rfl),(Ht rfl),(Ht rfl),trivial⟩) (rm rfl (ro rfl (dK (Ht rfl) rfl) (ro rfl (dK (Ht rfl) rfl) (rn rfl (eW (Ts:=[Is (.slice none 0 0),Is (.slice none 0 0)]) O_28 rfl (fun V=>aW zd (aW zd (aG)))) fun B10=>?_))))))))))
  refine gQ Z_28 (Ht rfl) (Ht rfl) rfl (i:=4) rfl (aK rfl) rfl rfl (ra rfl (eX (cK (ts (rm rfl (ro rfl (kM (Ht rfl) cV) (eX (dQ (Ht rfl) (fun hd=>?_) (fun hd=>?_)))))))))
  ·have he : Nz z s port g t ≠ 0 := by rw [hee]; simpa using hd
   refine ts (ro rfl (aS.imp (rS ) nK) (rm rfl (gQ Z_80 (Ht rfl) (Ht rfl) rfl (i:=3) rfl (aK rfl) rfl rfl (ra rfl (eX (bN rfl (fX (fK A_80 Z_80 rfl (i:=3) rfl rfl) ?_) (fX (eU rfl) ?_)))))))
   ·exact (fun v V h=>by rw [ntZ,ntS,ntQ,dM,dM,dM,if_neg he,if_neg he,if_neg he]; exact h)
   ·exact (bE hee.symm)
  ·have hd0 : qY z s port g = 0 := by simpa using hd
   obtain ⟨hb1,hn1,hD⟩:=Ma hd0
   obtain ⟨p,rfl⟩:∃ p:Nat,port = ((p + 1:Nat):Int):=⟨(port - 1).toNat,by omega⟩
   have hpz:(((p + 1:Nat):Int) - 1).toNat = p:=by omega
   rw [hpz] at hD
   have hpn:p < z.length:=by omega
   have he:Nz z s ((p + 1:Nat):Int) g t = 0:=by rw [hee,hd0]
   have hrz:Dm z s ((p + 1:Nat):Int) g = zE z p (z.length - 1):=by rw [Dm,hd0,hpz]; rfl
   have hrs:Dl z s ((p + 1:Nat):Int) g = Iu s p (z.length - 1) (kO s p g):=by rw [Dl,hd0,hpz]; rfl
   rw [hrz,hrs]
   have hrf : bR Tryz.prog 67 [iK z s, NT .i64 (p + 1)] (eD [aF (gv z p), aP .i64 0]) := by
    have h:=Xc (z:=z) (s:=s) (i:=((p + 1:Nat):Int)) zo
    rw [show pkv z ((p + 1:Nat):Int) = gv z p from Og hpn,if_pos zo] at h; exact h
   have hsp:=hsh.row hpn
   haveI f1:aE (gm s p p) 2:=hs.get (by decide) p p
   haveI f2:aE (gv z p) 2:=hz.get (by decide) p
   haveI f3:aE (Qi.ofInt 1 - gm s p p * g) 7:=(fitSub (x:=Qi.ofInt 1) (y:=gm s p p * g))
   refine cU (ts (ro rfl (eZ mX (Ht rfl) rfl) (ro rfl (eJ A_28 Z_28 (Ht rfl) (i:=0) rfl rfl rfl) (ro rfl (cZ Tryz.call143 (Gt hsh hl) ⟨(Ht rfl),trivial⟩) (rm rfl (ro rfl (aS.nat (dW (Ht rfl) (cJ 1) zo z6) (show p + 1 - 1 = p by omega)) (ro rfl (cZ K_52 (mK (n:=1) (by decide) (by decide)) ⟨(cJ 1),trivial⟩) (ro rfl (cZ K_147 Bx ⟨(Ht rfl),trivial⟩) (rn rfl (eW (Ts:=[Is (.bool false),Is (.slice none 0 0),Is (.bool false),Is (.slice none 0 0),Is (.slice none 0 0)]) O_60 rfl (fun V=>aW zd (aW zd (aW zd (aW zd (aW zd (aG))))))) fun B14=>?_)))))))))
   refine ra rfl (ra rfl (gQ Z_60 (Ht rfl) (Ht rfl) rfl (i:=5) rfl (aK rfl) rfl rfl (eX (cK (bS [0,1,2,3,4,5] rfl (by decide) (cY (ro rfl (eZ mX (Ht rfl) rfl) (ro rfl (eJ A_28 Z_28 (Ht rfl) (i:=0) rfl rfl rfl) (rm rfl (ro rfl (cZ Tryz.call67 hrf ⟨(Ht rfl),(Ht rfl),trivial⟩) (rm rfl (ro rfl (dK (Ht rfl) rfl) (ro rfl (dK (Ht rfl) rfl) (rn rfl (eW (Ts:=[Is (.bool false),Is (.slice none 0 0),Is (.bool false),Is (.slice none 0 0),Is (.slice none 0 0)]) O_60 rfl (fun V=>aW zd (aW zd (aW zd (aW zd (aW zd (aG))))))) fun B15=>?_))))))))))))))
   refine gQ Z_60 (Ht rfl) (Ht rfl) rfl (i:=6) rfl (aK rfl) rfl rfl (ra rfl (eX (cK (bS [0,1,2,3,4,5,6] rfl (by decide) (fZ (m:=14) (dp 14 rfl (eJ A_60 Z_60 (Ht rfl) (i:=5) rfl rfl rfl) (dq 61 0 rfl (aT bD (Ht rfl)) (dp 12 rfl (cX (Ht rfl)) (dp 13 rfl (cX (Ht rfl)) (cP 63 2 64 3 rfl (dZ U_26 Z_25 (Ht rfl) (Ht rfl) rfl (dY (dU (d:=[]) zo))) (dq 65 4 rfl (dJ A_25 Z_25 (Ht rfl)) (dp 13 rfl (cX (Ht rfl)) (cP 66 5 67 6 rfl (dZ U_25 Z_60 (Ht rfl) (Ht rfl) rfl (dY (dU (d:=Qi.zero) zo))) ?_)))))))))))))
   refine dq 68 7 rfl (dJ A_60 Z_60 (Ht rfl)) (dq 69 8 rfl (aT bD (Ht rfl)) (dp 6 rfl (eJ A_60 Z_60 (Ht rfl) (i:=1) rfl rfl rfl) (cP 70 9 71 10 rfl (aL cB K_70 (iF (x:=gm s p p) (y:=g) (L:=2) (M:=2) (by decide)) (Ht rfl) ⟨(Ht rfl),trivial⟩) (cP 62 1 72 11 rfl (aL iA K_69 (qC (x:=Qi.ofInt 1) (y:=gm s p p * g) (L:=1) (M:=5) (by decide)) (Ht rfl) ⟨(Ht rfl),trivial⟩) (C.D_new (Ei:=[]) rfl rfl rfl bW (eW (Ts:=[Is (.bool false),Is (.slice none 0 0),Is (.bool false),Is (.slice none 0 0),Is (.slice none 0 0)]) O_60 rfl (fun V=>aW zd (aW zd (aW zd (aW zd (aW zd (aG))))))) ?_)))))
   refine fV bC rfl (by kernel_rfl) (zF (zF (zF (aJ (C.F_new (fun B17=>aV (gQ Z_60 (Ht rfl) (Ht rfl) rfl (i:=7) rfl (aK rfl) rfl rfl (eX (cK (bS [0,1,2,3,4,5,6,7] rfl (by decide) (cY (ro rfl (eJ A_60 Z_60 (Ht rfl) (i:=1) rfl rfl rfl) (ro rfl (aT bD (Ht rfl)) (ro rfl (eJ A_60 Z_60 (Ht rfl) (i:=7) rfl rfl rfl) (ro rfl (aL mO K_64 (vW (x:=g) (y:=(Qi.ofInt 1 - gm s p p * g)) (L:=2) (M:=7) (by decide)) (Ht rfl) ⟨(Ht rfl),trivial⟩) ?_)))))))))))))))
   refine rm rfl (ro rfl (dK (Ht rfl) rfl) (ro rfl (dK (Ht rfl) rfl) (rn rfl (eW (Ts:=[Is (.bool false),Is (.slice none 0 0),Is (.bool false),Is (.slice none 0 0),Is (.slice none 0 0)]) O_60 rfl (fun V=>aW zd (aW zd (aW zd (aW zd (aW zd (aG))))))) fun B18=>(gQ Z_60 (Ht rfl) (Ht rfl) rfl (i:=8) rfl (aK rfl) rfl rfl (ra rfl (eX (cK (bS [0,1,2,3,4,5,6,7,8] rfl (by decide) (cY (ro rfl (eJ A_60 Z_60 (Ht rfl) (i:=5) rfl rfl rfl) ?_))))))))))
   refine ro rfl (aT bD (Ht rfl)) (ro rfl (eJ A_60 Z_60 (Ht rfl) (i:=7) rfl rfl rfl) (ro rfl (aL mO K_64 (vW (x:=Qi.ofInt 1) (y:=(Qi.ofInt 1 - gm s p p * g)) (L:=1) (M:=7) (by decide)) (Ht rfl) ⟨(Ht rfl),trivial⟩) (rm rfl (ro rfl (dK (Ht rfl) rfl) (ro rfl (dK (Ht rfl) rfl) (rn rfl (eW (Ts:=[Is (.bool false),Is (.slice none 0 0),Is (.bool false),Is (.slice none 0 0),Is (.slice none 0 0)]) O_60 rfl (fun V=>aW zd (aW zd (aW zd (aW zd (aW zd (aG))))))) fun B20=>?_))))))
   refine gQ Z_60 (Ht rfl) (Ht rfl) rfl (i:=9) rfl (aK rfl) rfl rfl (ra rfl (eX (cK (bS [0,1,2,3,4,5,6,7,8,9] rfl (by decide) (fZ (m:=16) (dp 7 rfl (eJ A_60 Z_60 (Ht rfl) (i:=2) rfl rfl rfl) (dp 15 rfl (eJ A_60 Z_60 (Ht rfl) (i:=6) rfl rfl rfl) (cP 88 0 89 1 rfl (cZ K_70 (iF (x:=t) (y:=gv z p) (L:=2) (M:=2) (by decide)) ⟨(Ht rfl),(Ht rfl),trivial⟩) (dq 90 2 rfl (cZ K_147 Bx ⟨(Ht rfl),trivial⟩) (dq 91 3 rfl (aT bD (Ht rfl)) (dp 14 rfl (eJ A_60 Z_60 (Ht rfl) (i:=5) rfl rfl rfl) ?_)))))))))))
   refine dq 93 5 rfl (aT bD (Ht rfl)) (dp 6 rfl (eJ A_60 Z_60 (Ht rfl) (i:=1) rfl rfl rfl) (dq 95 7 rfl (aT bD (Ht rfl)) (dp 6 rfl (eJ A_60 Z_60 (Ht rfl) (i:=1) rfl rfl rfl) (dq 97 9 rfl (aT bD (Ht rfl)) (dq 98 10 rfl (aL lM K_173 wD (Ht rfl) trivial) (cP 96 8 99 11 rfl (aL cB K_70 (iF (x:=g) (y:=g.conj) (L:=2) (M:=2) (by decide)) (Ht rfl) ⟨(Ht rfl),trivial⟩) (cP 94 6 100 12 rfl (aL iA K_69 (qC (x:=Qi.ofInt 1) (y:=g * g.conj) (L:=1) (M:=5) (by decide)) (Ht rfl) ⟨(Ht rfl),trivial⟩) ?_)))))))
   refine cP 92 4 101 13 rfl (aL cB K_70 (iF (x:=t * gv z p) (y:=Qi.ofInt 1 - g * g.conj) (L:=5) (M:=7) (by decide)) (Ht rfl) ⟨(Ht rfl),trivial⟩) (C.D_new (Ei:=[]) rfl rfl rfl bW (eW (Ts:=[Is (.bool false),Is (.slice none 0 0),Is (.bool false),Is (.slice none 0 0),Is (.slice none 0 0)]) O_60 rfl (fun V=>aW zd (aW zd (aW zd (aW zd (aW zd (aG))))))) (fV bC rfl (by kernel_rfl) (zF (zF (zF (aJ (aJ (aJ (C.F_new (fun B22=>aV ?_))))))))))
   refine gQ Z_60 (Ht rfl) (Ht rfl) rfl (i:=10) rfl (aK rfl) rfl rfl (eX (ts (ro rfl (cQ cV) (eX (ts (ro rfl (cQ cV) (eX (cK (cK (bS [0,3,4,5,8,9,10] rfl (by decide) (qZ 25 1 (qZ 60 5 (cY (rm rfl (ro rfl (dG U_26 (Ht rfl) (by rw [List.length_map,hsl])) ?_)))))))))))))))
   refine ro rfl (cX (cJ 0)) (eX (eG ?_))
   refine nP (fun (i : Nat) (vA : Value) (vU : Value) => i ≤ z.length) (fun (i : Nat) (vA : Value) (vU : Value) => z.length - i) (fun (i : Nat) (vA : Value) (vU : Value) => [(4, bO B4 0), (8, bO B8 0), (10, bO B10 0), (12, aR s), (13, NT .i64 p), (14, bO B14 0), (18, bO B18 0), (20, bO B20 0), (22, bO B22 0), (23, Is vA), (24, Is vU), (104, NT .i64 z.length), (105, NT .i64 i)]) (fun (i : Nat) (vA : Value) (vU : Value) => [box B4 80 [aM z, aR s, aR c], box B8 80 [Is (.slice none 0 0), Is (.slice none 0 0), Is (.slice none 0 0)], box B10 28 [aM (zE z p (z.length - 1)), aR (Iu s p (z.length - 1) (kO s p g))], box B14 60 [aH (decide ((Qi.ofInt 1).a < 0)), bA (Qi.ofInt 1).a.natAbs, aH (decide ((Qi.ofInt 1).b < 0)), bA (Qi.ofInt 1).b.natAbs, bA (du (Qi.ofInt 1))], box B18 60 [aH (decide ((g / (Qi.ofInt 1 - gm s p p * g)).a < 0)), bA (g / (Qi.ofInt 1 - gm s p p * g)).a.natAbs, aH (decide ((g / (Qi.ofInt 1 - gm s p p * g)).b < 0)), bA (g / (Qi.ofInt 1 - gm s p p * g)).b.natAbs, bA (du (g / (Qi.ofInt 1 - gm s p p * g)))], box B20 60 [aH (decide ((Qi.ofInt 1 / (Qi.ofInt 1 - gm s p p * g)).a < 0)), bA (Qi.ofInt 1 / (Qi.ofInt 1 - gm s p p * g)).a.natAbs, aH (decide ((Qi.ofInt 1 / (Qi.ofInt 1 - gm s p p * g)).b < 0)), bA (Qi.ofInt 1 / (Qi.ofInt 1 - gm s p p * g)).b.natAbs, bA (du (Qi.ofInt 1 / (Qi.ofInt 1 - gm s p p * g)))], box B22 60 [aH (decide ((t * gv z p * (Qi.ofInt 1 - g * g.conj)).a < 0)), bA (t * gv z p * (Qi.ofInt 1 - g * g.conj)).a.natAbs, aH (decide ((t * gv z p * (Qi.ofInt 1 - g * g.conj)).b < 0)), bA (t * gv z p * (Qi.ofInt 1 - g * g.conj)).b.natAbs, bA (du (t * gv z p * (Qi.ofInt 1 - g * g.conj)))], bF 25 1 vA ((zA s g p z.length i).map aM), bF 60 5 vU ((Ba s g p i).map aF)]) 0 _ _ (Nat.zero_le _)
    (zS rfl) (aU (aA rfl) (aU (aA rfl) (aU (aA rfl) (aU (aA rfl) (aU (aA rfl) (aU (aA rfl) (aU (aA rfl) (aU (aO rfl) (aU (aO rfl) aY))))))))) (fun i vA vU hi=>?_)
   refine ts (ro rfl (gX (Ht rfl) (Ht rfl)) (eX (cK (dQ (Ht rfl) (fun hc1=>?_) (fun hc1=>?_)))))
   ·have hin : i < z.length := by simp only [decide_eq_true_eq] at hc1; omega
    have hfl:=sB [p] i
    have hsi:=hsh.row hin
    refine cU (cK (eG (ts (rm rfl (ra rfl (eX (cK (ts (rm rfl (rm rfl (ro rfl (eB (Ht rfl) (Ht rfl)) (eX (dQ (Ht rfl) (fun hx=>?_) (fun hx=>?_))))))))))))))
    ·have hip : i = p := by simpa using hx
     have hnx:lU [p] (i + 1) = lU [p] i:=by rw [lU,if_pos (by simp [hip]),List.append_nil]
     refine gW rfl (cY (ro rfl (dV (Ht rfl) (cJ 1) z6) (rm rfl (eX (fU (i + 1,vA,vU) hin (by dsimp only; omega) (zS rfl) (aU (aA rfl) (aU (aA rfl) (aU (aA rfl) (aU (aA rfl) (aU (aA rfl) (aU (aA rfl) (aU (aA rfl) (aU (aO (by rw [zA,zA,hnx])) (aU (aO (by rw [Ba,Ba,hnx])) aY))))))))))))))
    ·have hip : ¬ i = p := by simpa using hx
     have hnx:lU [p] (i + 1) = lU [p] i ++ [i]:=by rw [lU,if_neg (by simp [hip])]
     haveI f4:aE (gm s i p) 2:=hs.get (by decide) i p
     refine cU (ts (rm rfl (ro rfl (dG U_26 (Ht rfl) (by rw [List.length_map,hsl])) ?_)))
     refine iN Tryz.call146 (Et (r:=1) (n:=z.length) (by decide) zo zo) ⟨(cJ 1),(Ht rfl),trivial⟩ rfl (fun B113 _=>?_)
     refine Pd 9 0 (Ts:=(tab z.length fun _=>Qi.zero).map aF) rfl rfl (fun v0=>(ro rfl (fY U_26 Z_25 (Ht rfl) (cJ 0) rfl (by decide) (by rw [Nat.mul_one,Nat.zero_add])) ?_))
     refine ro rfl (iC A_25 Z_25 (Ht rfl) (j:=9) rfl) (ra rfl (eX (cK (bS [0,1,2,3,4,5,6,7,8,10] rfl (by decide) (W.D_start (m:=17) (fun b=>cond b ([box B4 80 [aM z,aR s,aR c],box B8 80 [Is (.slice none 0 0),Is (.slice none 0 0),Is (.slice none 0 0)],box B10 28 [aM (zE z p (z.length - 1)),aR (Iu s p (z.length - 1) (kO s p g))],box B14 60 [aH (decide ((Qi.ofInt 1).a < 0)),bA (Qi.ofInt 1).a.natAbs,aH (decide ((Qi.ofInt 1).b < 0)),bA (Qi.ofInt 1).b.natAbs,bA (du (Qi.ofInt 1))],box B18 60 [aH (decide ((g / (Qi.ofInt 1 - gm s p p * g)).a < 0)),bA (g / (Qi.ofInt 1 - gm s p p * g)).a.natAbs,aH (decide ((g / (Qi.ofInt 1 - gm s p p * g)).b < 0)),bA (g / (Qi.ofInt 1 - gm s p p * g)).b.natAbs,bA (du (g / (Qi.ofInt 1 - gm s p p * g)))],box B20 60 [aH (decide ((Qi.ofInt 1 / (Qi.ofInt 1 - gm s p p * g)).a < 0)),bA (Qi.ofInt 1 / (Qi.ofInt 1 - gm s p p * g)).a.natAbs,aH (decide ((Qi.ofInt 1 / (Qi.ofInt 1 - gm s p p * g)).b < 0)),bA (Qi.ofInt 1 / (Qi.ofInt 1 - gm s p p * g)).b.natAbs,bA (du (Qi.ofInt 1 / (Qi.ofInt 1 - gm s p p * g)))],box B22 60 [aH (decide ((t * gv z p * (Qi.ofInt 1 - g * g.conj)).a < 0)),bA (t * gv z p * (Qi.ofInt 1 - g * g.conj)).a.natAbs,aH (decide ((t * gv z p * (Qi.ofInt 1 - g * g.conj)).b < 0)),bA (t * gv z p * (Qi.ofInt 1 - g * g.conj)).b.natAbs,bA (du (t * gv z p * (Qi.ofInt 1 - g * g.conj)))],bF 25 1 vA ((zA s g p z.length i).map aM),bF 60 5 vU ((Ba s g p i).map aF),bF 60 5 v0 (((tab z.length fun _=>Qi.zero).map aF).set i (aF (Qi.ofInt 1)))]) _) 16 ?_)))))
     refine W.D_step (Ei:=[(26,_)]) rfl rfl (W.Srcs.cons (W.Src.pre rfl rfl) W.Srcs.nil) rfl (by kernel_rfl) (dX rfl (cX (Ht rfl))) (W.D_step (Ei:=[(25,_)]) rfl rfl (W.Srcs.cons (W.Src.pre rfl rfl) W.Srcs.nil) rfl (by kernel_rfl) (dX rfl (cX (Ht rfl))) (W.D_pure (Ei:=[(26,_)]) rfl rfl (W.Srcs.cons (W.Src.pre rfl rfl) W.Srcs.nil) rfl (fun _=>dX rfl (cX (Ht rfl))) (W.D_pure (Ei:=[(13,_)]) rfl rfl (W.Srcs.cons (W.Src.pre rfl rfl) W.Srcs.nil) rfl (fun _=>dX rfl (cX (Ht rfl))) (W.D_step (Ei:=[(14,_)]) rfl rfl (W.Srcs.cons (W.Src.pre rfl rfl) W.Srcs.nil) rfl (by kernel_rfl) (dX rfl (eJ A_60 Z_60 (Ht rfl) (i:=3) rfl rfl rfl)) ?_))))
     refine W.D_step (Ei:=[(12,_)]) rfl rfl (W.Srcs.cons (W.Src.pre rfl rfl) W.Srcs.nil) rfl (by kernel_rfl) (dX rfl (cX (Ht rfl))) (W.D_step (Ei:=[(25,_)]) rfl rfl (W.Srcs.cons (W.Src.pre rfl rfl) W.Srcs.nil) rfl (by kernel_rfl) (dX rfl (cX (Ht rfl))) (W.D_step (Ei:=[(121,_),(122,_)]) rfl rfl (W.Srcs.cons (W.Src.op 5 rfl rfl) (W.Srcs.cons (W.Src.op 6 rfl rfl) W.Srcs.nil)) rfl (by kernel_rfl) (dX rfl (dZ U_26 Z_25 (Ht rfl) (Ht rfl) rfl (dY (dU (d:=[]) zo)))) (W.D_step (Ei:=[(123,_)]) rfl rfl (W.Srcs.cons (W.Src.op 7 rfl rfl) W.Srcs.nil) rfl (by kernel_rfl) (dX rfl (dJ A_25 Z_25 (Ht rfl))) ?_)))
     refine W.D_step (Ei:=[(13,_)]) rfl rfl (W.Srcs.cons (W.Src.pre rfl rfl) W.Srcs.nil) rfl (by kernel_rfl) (dX rfl (cX (Ht rfl))) (W.D_step (Ei:=[(124,_),(125,_)]) rfl rfl (W.Srcs.cons (W.Src.op 8 rfl rfl) (W.Srcs.cons (W.Src.op 9 rfl rfl) W.Srcs.nil)) rfl (by kernel_rfl) (dX rfl (dZ U_25 Z_60 (Ht rfl) (Ht rfl) rfl (dY (dU (d:=Qi.zero) zo)))) (W.D_step (Ei:=[(126,_)]) rfl rfl (W.Srcs.cons (W.Src.op 10 rfl rfl) W.Srcs.nil) rfl (by kernel_rfl) (dX rfl (dJ A_60 Z_60 (Ht rfl))) (W.D_step (Ei:=[(127,_)]) rfl rfl (W.Srcs.cons (W.Src.op 11 rfl rfl) W.Srcs.nil) rfl (by kernel_rfl) (dX rfl (aT bD (Ht rfl))) ?_)))
     refine W.D_step (Ei:=[(18,_)]) rfl rfl (W.Srcs.cons (W.Src.pre rfl rfl) W.Srcs.nil) rfl (by kernel_rfl) (dX rfl (eJ A_60 Z_60 (Ht rfl) (i:=4) rfl rfl rfl)) (W.D_step (Ei:=[(128,_),(129,_)]) rfl rfl (W.Srcs.cons (W.Src.op 12 rfl rfl) (W.Srcs.cons (W.Src.op 13 rfl rfl) W.Srcs.nil)) rfl (by kernel_rfl) (dX rfl (aL cB K_70 (iF (x:=gm s i p) (y:=(g / (Qi.ofInt 1 - gm s p p * g))) (L:=2) (M:=25) (by decide)) (Ht rfl) ⟨(Ht rfl),trivial⟩)) (W.D_step (Ei:=[(116,_),(117,_)]) rfl rfl (W.Srcs.cons (W.Src.op 0 rfl rfl) (W.Srcs.cons (W.Src.op 1 rfl rfl) W.Srcs.nil)) rfl (by kernel_rfl) (dX rfl (cL U_25 Z_60 (Ht rfl) (Ht rfl) rfl (i:=9) rfl (by rw [List.length_map,aD]; omega) rfl)) ?_))
     refine W.D_put (Ei:=[(131,_),(120,_)]) rfl rfl (W.Srcs.cons (W.Src.op 15 rfl rfl) (W.Srcs.cons (W.Src.op 4 rfl rfl) W.Srcs.nil)) rfl (Ja Z_60 (Ht rfl) (Ht rfl) (El.ag rfl) (i:=9) rfl rfl (by rw [List.length_map,aD]; omega)) ?_
     refine W.D_done bC rfl (by kernel_rfl) rfl (W.F_val (W.F_val (W.F_val (W.F_val (W.F_val (W.F_val (W.F_val (W.F_val (W.F_val (W.F_val (W.F_val (W.F_val (W.F_val (W.F_val (W.F_val (W.F_val (W.F_put (W.F_nil (ro rfl (cL U_25 Z_60 (Ht rfl) (Ht rfl) rfl (i:=9) rfl (by rw [List.length_set,List.length_map,aD]; omega) rfl) ?_)))))))))))))))))))
     refine kX Z_60 (Ht rfl) (Ht rfl) (El.ag rfl) (i:=9) rfl rfl (by rw [List.length_set,List.length_map,aD]; omega) rfl ?_
     refine eX (mU 9 rfl (aO (e:=60) (s:=5) (by rw [dO,dO]; rfl:_ = (Cw s g p z.length i).map aF)) ?_)
     refine gV (i:=9) (tt:=26) rfl rfl eR (Y.D_startA (m:=16) [] 3 7 rfl rfl (bY (Ei:=[(23,_)]) rfl rfl (bQ (bJ rfl rfl) bX) rfl rfl (dX rfl (cX (Ht rfl))) (bY (Ei:=[(26,_)]) rfl rfl (bQ (bJ rfl rfl) bX) rfl rfl (dX rfl (cX (Ht rfl))) (bY (Ei:=[(134,_)]) rfl rfl (bQ (bZ 1 rfl rfl) bX) rfl rfl (dX rfl (cE (xs:=[.tmp 134]) U_26 Z_25 O_25 (cW (Ht rfl) cG) rfl rfl rfl)) (Y.D_app (Ei:=[(133,_),(135,_)]) rfl rfl rfl rfl (bQ (bZ 0 rfl rfl) (bQ (bZ 2 rfl rfl) bX)) rfl (nW (inf:=Tryz.t25) Iw lA rfl rfl rfl (Ht rfl) (Ht rfl) (by simp) (fun T hT=>by simp at hT; subst hT; exact El.one) (by show _ * 24 ≤ _; simp only [List.length_map,List.length_append,List.length_cons,List.length_nil,zA,Ba]; omega) (by simp only [List.length_map,List.length_append,List.length_cons,List.length_nil,zA,Ba]; omega)) ?_)))))
     refine bY (Ei:=[(24,_)]) rfl rfl (bQ (bJ rfl rfl) bX) rfl rfl (dX rfl (cX (Ht rfl))) (bY (Ei:=[(12,_)]) rfl rfl (bQ (bJ rfl rfl) bX) rfl rfl (dX rfl (cX (Ht rfl))) (bY (Ei:=[(25,_)]) rfl rfl (bQ (bJ rfl rfl) bX) rfl rfl (dX rfl (cX (Ht rfl))) (bY (Ei:=[(138,_),(139,_)]) rfl rfl (bQ (bZ 5 rfl rfl) (bQ (bZ 6 rfl rfl) bX)) rfl rfl (dX rfl (dZ U_26 Z_25 (Ht rfl) (Ht rfl) rfl (dY (dU (d:=[]) zo)))) ?_)))
     refine bY (Ei:=[(140,_)]) rfl rfl (bQ (bZ 7 rfl rfl) bX) rfl rfl (dX rfl (dJ A_25 Z_25 (Ht rfl))) (bY (Ei:=[(13,_)]) rfl rfl (bQ (bJ rfl rfl) bX) rfl rfl (dX rfl (cX (Ht rfl))) (bY (Ei:=[(141,_),(142,_)]) rfl rfl (bQ (bZ 8 rfl rfl) (bQ (bZ 9 rfl rfl) bX)) rfl rfl (dX rfl (dZ U_25 Z_60 (Ht rfl) (Ht rfl) rfl (dY (dU (d:=Qi.zero) zo)))) (bY (Ei:=[(143,_)]) rfl rfl (bQ (bZ 10 rfl rfl) bX) rfl rfl (dX rfl (dJ A_60 Z_60 (Ht rfl))) ?_)))
     refine bY (Ei:=[(144,_)]) rfl rfl (bQ (bZ 11 rfl rfl) bX) rfl rfl (dX rfl (aT bD (Ht rfl))) (bY (Ei:=[(20,_)]) rfl rfl (bQ (bJ rfl rfl) bX) rfl rfl (dX rfl (eJ A_60 Z_60 (Ht rfl) (i:=5) rfl rfl rfl)) (bY (Ei:=[(145,_),(146,_)]) rfl rfl (bQ (bZ 12 rfl rfl) (bQ (bZ 13 rfl rfl) bX)) rfl rfl (dX rfl (aL cB K_70 (iF (x:=gm s i p) (y:=(Qi.ofInt 1 / (Qi.ofInt 1 - gm s p p * g))) (L:=2) (M:=24) (by decide)) (Ht rfl) ⟨(Ht rfl),trivial⟩)) ?_))
     refine bY (Ei:=[(147,_)]) rfl rfl (bQ (bZ 14 rfl rfl) bX) rfl rfl (dX rfl (cE (xs:=[.tmp 147]) U_25 Z_60 O_60 (cW (Ht rfl) cG) rfl rfl rfl)) (Y.D_done bC rfl (by kernel_rfl) rfl (by simp [Y.okP]) rfl rfl (bU (bU (bU (Y.F_app (fun vA2=>bU (bU (bU (bU (bU (bU (bU (bU (bU (bU (bU (bU (Y.F_nil ?_))))))))))))))))))
     refine mT (inf:=Tryz.t60) jH gG rfl rfl rfl (Ht rfl) (Ht rfl) (i:=8) rfl (by simp) (fun T hT=>by simp at hT; subst hT; exact El.ag rfl) (by show _ * 88 ≤ _; simp only [List.length_map,List.length_append,List.length_cons,List.length_nil,zA,Ba]; omega) (by simp only [List.length_map,List.length_append,List.length_cons,List.length_nil,zA,Ba]; omega) rfl (fun vU2=>?_)
     refine ra rfl (ra rfl (eX (bL (cY (ro rfl (dV (Ht rfl) (cJ 1) z6) (rm rfl (eX (bS [0,1,2,3,4,5,6,10,8] rfl (by decide) (fU (i + 1,vA2,vU2) hin (by dsimp only; omega) (zS rfl) (aU (aA rfl) (aU (aA rfl) (aU (aA rfl) (aU (aA rfl) (aU (aA rfl) (aU (aA rfl) (aU (aA rfl) (aU (aO (by rw [zA,zA,hnx,List.map_append,List.map_append]; rfl)) (aU (aO (by rw [Ba,Ba,hnx,List.map_append,List.map_append]; rfl)) aY))))))))))))))))))
   ·have hin : i = z.length := by simp only [decide_eq_false_iff_not] at hc1; omega
    rw [hin]
    refine gW rfl (gV (i:=7) (tt:=23) rfl rfl eR (gV (i:=8) (tt:=24) rfl rfl eR ?_))
    have hA:=Rk s g hpn
    have hAl:=hA.1
    have hAf:=Rj (p:=p) (n:=z.length) (k:=z.length) hs hg
    have hUf:=Ib (p:=p) (k:=z.length) hs hg
    have hUl:(Ba s g p z.length).length = z.length - 1:=by rw [Ba,List.length_map,uW hpn]
    have hXf:=tN (hAf.le hG) hc zo (by rw [hch.1]; exact hl)
    have hX:cF (iI (zA s g p z.length z.length) c) (z.length - 1) (z.length - 1):=by have h:=rC (p:=zA s g p z.length z.length) (c:=c); rw [hAl] at h; exact h
    obtain ⟨m,hm⟩:∃ m,m = z.length - 1:=⟨_,rfl⟩
    rw [← hm] at hA hAl hUl hX
    obtain ⟨X,hXd⟩:∃ X,X = iI (zA s g p z.length z.length) c:=⟨_,rfl⟩
    obtain ⟨U,hUd⟩:∃ U,U = Ba s g p z.length:=⟨_,rfl⟩
    have hcar : fN Tryz.prog 148 [aR (zA s g p z.length z.length), aR c] [] Nat (fun B => Is (.slice (some ⟨B, 0, none⟩) m m)) (fun B => [lQ B 25 60 5 (bM aF X)]) (fun _ => True) := by
     rw [hXd]
     exact Mw (p:=zA s g p z.length z.length) (c:=c) (n:=m) (m:=z.length) (L:=G) hA hch (hAf.le hG) hc zo zo zo zo zo hl
    rw [← hXd] at hXf hX
    rw [← hUd] at hUf hUl
    rw [← hUd]
    haveI fr:aE (t * gv z p * (Qi.ofInt 1 - g * g.conj)) 13:=Rl (p:=p) hz hg ht
    refine ts (rm rfl (ro rfl (eZ kJ (Ht rfl) rfl) (ro rfl (eY A_26 Z_26 (Ht rfl) (i:=0) rfl rfl) (iN Tryz.call148 hcar ⟨(Ht rfl),(Ht rfl),trivial⟩ rfl (fun B154 _=>(ra rfl (eX (cK (ts (rm rfl (ro rfl (eT U_26 (Ht rfl)) (ro rfl (cX (cJ 0)) (eX (eG (bS [1,2,6,9] rfl (by decide) ?_)))))))))))))))
    refine cA (fun (i : Nat) => i ≤ m) (fun (i : Nat) => m - i) (fun (i : Nat) => [(8, bO B8 0), (10, bO B10 0), (22, bO B22 0), (24, aM U), (27, Is (.slice (some ⟨B154, 0, none⟩) m m)), (155, Is (.slice (some ⟨B154, 0, none⟩) m m)), (156, NT .i64 m), (157, NT .i64 i)]) (fun (i : Nat) => [box B8 80 [Is (.slice none 0 0), Is (.slice none 0 0), Is (.slice none 0 0)], box B10 28 [aM (zE z p (z.length - 1)), aR (Iu s p (z.length - 1) (kO s p g))], box B22 60 [aH (decide ((t * gv z p * (Qi.ofInt 1 - g * g.conj)).a < 0)), bA (t * gv z p * (Qi.ofInt 1 - g * g.conj)).a.natAbs, aH (decide ((t * gv z p * (Qi.ofInt 1 - g * g.conj)).b < 0)), bA (t * gv z p * (Qi.ofInt 1 - g * g.conj)).b.natAbs, bA (du (t * gv z p * (Qi.ofInt 1 - g * g.conj)))], lQ B154 25 60 5 (bM aF (jY (fun i => tab m fun k => (gm X i k + (t * gv z p * (Qi.ofInt 1 - g * g.conj)) * (gv U i * (gv U k).conj))) (fun i => tab m fun k => gm X i k) m i))]) 0 (Nat.zero_le _)
     (zS rfl) (aU (aA rfl) (aU (aA rfl) (aU (aA rfl) (aU (bI (by rw [← iG]; exact congrArg _ (mY hX))) aY)))) (fun i hi=>?_)
    refine ts (ro rfl (gX (Ht rfl) (Ht rfl)) (eX (cK (dQ (Ht rfl) (fun he2=>?_) (fun he2=>?_)))))
    ·simp only [decide_eq_true_eq] at he2
     refine mB 3 (i) rfl (nI he2) (fun v=>(cU (cK (eG (ts (rm rfl (ro rfl (fY U_26 Z_25 (Ht rfl) (Ht rfl) rfl zo (by rw [Nat.mul_one,Nat.zero_add])) ?_)))))))
     refine ro rfl (iC A_25 Z_25 (Ht rfl) (j:=3) rfl) (ra rfl (ra rfl (eX (ts (rm rfl (ro rfl (nT U_25 (Ht rfl) (i:=4) rfl (show (((tab m fun k=>gm X i k).map aF).length:Int) = ((m:Nat):Int) by rw [List.length_map,aD])) (ro rfl (cX (cJ 0)) (eX (eG ?_)))))))))
     refine cA (fun (j : Nat) => j ≤ m) (fun (j : Nat) => m - j) (fun (j : Nat) => [(8, bO B8 0), (10, bO B10 0), (22, bO B22 0), (24, aM U), (27, Is (.slice (some ⟨B154, 0, none⟩) m m)), (28, NT .i64 i), (29, Is v), (155, Is (.slice (some ⟨B154, 0, none⟩) m m)), (156, NT .i64 m), (157, NT .i64 i), (163, NT .i64 m), (164, NT .i64 j)]) (fun (j : Nat) => [box B8 80 [Is (.slice none 0 0), Is (.slice none 0 0), Is (.slice none 0 0)], box B10 28 [aM (zE z p (z.length - 1)), aR (Iu s p (z.length - 1) (kO s p g))], box B22 60 [aH (decide ((t * gv z p * (Qi.ofInt 1 - g * g.conj)).a < 0)), bA (t * gv z p * (Qi.ofInt 1 - g * g.conj)).a.natAbs, aH (decide ((t * gv z p * (Qi.ofInt 1 - g * g.conj)).b < 0)), bA (t * gv z p * (Qi.ofInt 1 - g * g.conj)).b.natAbs, bA (du (t * gv z p * (Qi.ofInt 1 - g * g.conj)))], Ac B154 25 60 5 (bM aF (jY (fun i => tab m fun k => (gm X i k + (t * gv z p * (Qi.ofInt 1 - g * g.conj)) * (gv U i * (gv U k).conj))) (fun i => tab m fun k => gm X i k) m i)) i v, bF 60 5 v ((jY (fun k => (gm X i k + (t * gv z p * (Qi.ofInt 1 - g * g.conj)) * (gv U i * (gv U k).conj))) (fun k => gm X i k) m j).map aF)]) 0 (Nat.zero_le _)
      (zS rfl) (aU (aA rfl) (aU (aA rfl) (aU (aA rfl) (aU (fun _ _ _ h=>h) (aU (aO (by rw [← iG])) aY))))) (fun j hj=>?_)
     refine ts (ro rfl (gX (Ht rfl) (Ht rfl)) (eX (cK (dQ (Ht rfl) (fun hf=>?_) (fun hf=>?_)))))
     ·simp only [decide_eq_true_eq] at hf
      have hrl:=iB (fun k=>(gm X i k + (t * gv z p * (Qi.ofInt 1 - g * g.conj)) * (gv U i * (gv U k).conj))) (fun k=>gm X i k) m j
      haveI q1:aE (gm X i j) (200 * G + 300):=hXf.get zo i j
      haveI q2:aE (gv U i) 27:=hUf.get (by decide) i
      haveI q3:aE (gv U j) 27:=hUf.get (by decide) j
      refine cU (cK (eG (ts (rm rfl (ra rfl (eX (fZ (m:=23) (dp 29 rfl (cX (Ht rfl)) (dp 30 rfl (cX (Ht rfl)) (dp 29 rfl (cX (Ht rfl)) (dp 30 rfl (cX (Ht rfl)) (cP 169 2 170 3 rfl (cL U_25 Z_60 (Ht rfl) (Ht rfl) rfl (i:=4) rfl (by simp only [List.length_map,hrl]; omega) rfl) ?_))))))))))))
      refine dq 171 4 rfl (mI A_60 Z_60 (Ht rfl) (i:=4) rfl rfl (dY (oB hf))) (dq 172 5 rfl (aT bD (Ht rfl)) (dp 22 rfl (eJ A_60 Z_60 (Ht rfl) (i:=2) rfl rfl rfl) (dq 174 7 rfl (aT bD (Ht rfl)) (dp 24 rfl (cX (Ht rfl)) (dp 28 rfl (cX (Ht rfl)) (cP 176 9 177 10 rfl (dZ U_25 Z_60 (Ht rfl) (Ht rfl) rfl (dY (dU (d:=Qi.zero) zo))) (dq 178 11 rfl (dJ A_60 Z_60 (Ht rfl)) (dq 179 12 rfl (aT bD (Ht rfl)) (dp 24 rfl (cX (Ht rfl)) ?_)))))))))
      refine dp 30 rfl (cX (Ht rfl)) (cP 181 14 182 15 rfl (dZ U_25 Z_60 (Ht rfl) (Ht rfl) rfl (dY (dU (d:=Qi.zero) zo))) (dq 183 16 rfl (dJ A_60 Z_60 (Ht rfl)) (dq 184 17 rfl (aT bD (Ht rfl)) (dq 185 18 rfl (aL lM K_173 wD (Ht rfl) trivial) (cP 180 13 186 19 rfl (aL cB K_70 (iF (x:=gv U i) (y:=(gv U j).conj) (L:=27) (M:=27) (by decide)) (Ht rfl) ⟨(Ht rfl),trivial⟩) (cP 175 8 187 20 rfl (aL cB K_70 (iF (x:=(t * gv z p * (Qi.ofInt 1 - g * g.conj))) (y:=gv U i * (gv U j).conj) (L:=13) (M:=55) (by decide)) (Ht rfl) ⟨(Ht rfl),trivial⟩) ?_))))))
      refine cP 173 6 188 21 rfl (aL lF K_71 (rB (x:=gm X i j) (y:=(t * gv z p * (Qi.ofInt 1 - g * g.conj)) * (gv U i * (gv U j).conj)) (L:=200 * G + 300) (M:=69) zo) (Ht rfl) ⟨(Ht rfl),trivial⟩) (fV bC rfl (by kernel_rfl) (zF (zF (zF (zF (zF (aJ (aJ (aJ (aV (ro rfl (cL U_25 Z_60 (Ht rfl) (Ht rfl) rfl (i:=4) rfl (by simp only [List.length_map,hrl]; omega) rfl) ?_)))))))))))
      refine kX Z_60 (Ht rfl) (Ht rfl) (El.ag rfl) (i:=4) rfl rfl (by simp only [List.length_map,hrl]; omega) rfl ?_
      refine eX (bL (cY (ro rfl (dV (Ht rfl) (cJ 1) z6) (rm rfl (eX (bS [0,1,2,3,4] rfl (by decide) (fU (j + 1) hf zo (zS rfl) (aU (aA rfl) (aU (aA rfl) (aU (aA rfl) (aU (fun _ _ _ h=>h) (aU (aO (by rw [dO,← jC (f:=fun k=>(gm X i k + (t * gv z p * (Qi.ofInt 1 - g * g.conj)) * (gv U i * (gv U k).conj)))])) aY))))))))))))
     ·simp only [decide_eq_false_iff_not] at hf
      obtain rfl:j = m:=Nat.le_antisymm hj zo
      refine gW rfl (bL (dS 3 4 rfl rfl (by decide) (by simp only [bM,List.length_map,iB]; omega) ?_))
      refine cY (ro rfl (dV (Ht rfl) (cJ 1) z6) (rm rfl (eX (bS [0,1,2,3] rfl (by decide) (fU (i + 1) he2 zo (zS rfl) (aU (aA rfl) (aU (aA rfl) (aU (aA rfl) (aU (bI (by rw [eN,jM,← jC (f:=(fun i=>tab j fun k=>(gm X i k + (t * gv z p * (Qi.ofInt 1 - g * g.conj)) * (gv U i * (gv U k).conj))))])) aY)))))))))
    ·simp only [decide_eq_false_iff_not] at he2
     have him:i = m:=Nat.le_antisymm hi zo
     rw [him,jM]
     refine gW rfl (cK (gV (i:=3) (tt:=27) rfl rfl (gY (s:=5) (M:=tab m (fun i=>tab m fun k=>(gm X i k + (t * gv z p * (Qi.ofInt 1 - g * g.conj)) * (gv U i * (gv U k).conj)))) (aD _ _).symm) ?_))
     have hQ:tab m (fun i=>tab m fun k=>(gm X i k + (t * gv z p * (Qi.ofInt 1 - g * g.conj)) * (gv U i * (gv U k).conj))) = ntC z s c g t p:=by rw [hUd,hXd,hm]; rfl
     rw [hQ]
     refine cY (ro rfl (eJ A_28 Z_28 (Ht rfl) (i:=1) rfl rfl rfl) (rm rfl (ro rfl (pL (Ht rfl) (Ht rfl)) (gQ Z_80 (Ht rfl) (Ht rfl) rfl (i:=0) rfl (aK rfl) rfl rfl (ro rfl (cQ (cJ 0)) (eX (bN rfl (fX (fK A_80 Z_80 rfl (i:=0) rfl rfl) ?_) (fX (eU rfl) ?_))))))))
     ·exact (fun v V h=>by rw [ntZ,ntS,ntQ,dM,dM,dM,if_pos he,if_pos he,if_pos he,hpz]; exact h)
     ·exact (bE he.symm)
end
section
open Go Go.RowKit
theorem My {Y M:List (List Qi)} {n G X K:Nat} (hY:cF Y n n) (hM:cF M n n) (hfY:aN Y K) (hK:1 ≤ K) (hKb:K ≤ 900000000000) (hz:∀ i,i < n → Wg M (ek n i) n G X) (hX:X ≤ 900000000000) (hn:n ≤ 8):bR Tryz.prog 132 [aR Y,aR M] (eD [aR (ovX Y M n),aP .i64 (ovE M n)]):=by
 refine bR.intro Tryz.func132 rfl Tryz.ntmps132 rfl (fun cx=>(ts (ro rfl (cQ cV) (ro rfl (cQ (cJ 0)) (eX (ts (rm rfl (ro rfl (cZ Tryz.call224 (a40 hM hz zo) ⟨(Ht rfl),trivial⟩) (rm rfl (ro rfl (dK (Ht rfl) rfl) (ro rfl (dK (Ht rfl) rfl) (ra rfl (ra rfl (eX (cK (ts (rm rfl (ro rfl (kM (Ht rfl) cV) (eX (dQ (Ht rfl) (fun he=>?_) (fun he=>?_)))))))))))))))))))))
 ·have he2 : ¬ sP M n = 0 := by simpa using he
  have ho:ovE M n = 5:=if_neg he2
  refine ts (ro rfl (cQ cV) (ro rfl (cQ (cJ 5)) (eX (bN rfl (fX (eU rfl) ?_) (fX (eU rfl) ?_)))))
  ·exact (fun v V h=>by rw [ovX,ho]; exact iR v V h)
  ·exact (bE ho.symm)
 ·have he2 : sP M n = 0 := by simpa using he
  have ho:ovE M n = 0:=if_pos he2
  have hif:aN (qA M n) (max X 1):=(Fg hz he2).le (Nat.le_max_left X 1)
  have h1:1 ≤ n ∨ n = 0:=by omega
  refine sN (E':=[(0,_),(1,_),(4,_),(5,_),(6,_),(7,_),(8,_),(9,_),(10,_),(11,_),(12,_),(13,_),(14,_)]) (aQ rfl (aQ rfl (aQ rfl (aQ rfl (aZ rfl (kB (Us:=(qA M n).map aM) (by rw [he2]; rfl)) (zS rfl)))))) ?_
  refine cU (ts (rm rfl (rm rfl (ro rfl (cZ Tryz.call141 (a1e (n:=n) (k:=n) (m:=n) hY (Ci M n) hfY hif hK zo hKb zo h1 h1 hn hn hn) ⟨(Ht rfl),(Ht rfl),trivial⟩) (ro rfl (dK (Ht rfl) rfl) (ro rfl (dK (Ht rfl) rfl) (ra rfl (ra rfl (eX (bN rfl (fX (eU rfl) ?_) (fX (eU rfl) ?_)))))))))))
  ·exact (kB (by rw [ovX,ho]; rfl))
  ·exact (bE ho.symm)
theorem a30 {P:Program} {f:FuncId} {A1 A2 B1 B2 C1 C2:Ty} {R1 R2:Ty} {x:Bool} (h1:bR P f [A1,A2,C1,C2] R1) (h2:bR P f [B1,B2,C1,C2] R2):bR P f ((cond x [A1,A2] [B1,B2]) ++ [C1,C2]) (cond x R1 R2):=by cases x; exact h2; exact h1
theorem a4b {st fa z:List Qi} {s:List (List Qi)} {n i j K L:Nat} (hst:st.length = n) (hfa:fa.length = n) (hs:cF s n n) (h1:bP st K) (h2:bP fa K) (h3:aN s L) (hK:1 ≤ K) (hL:1 ≤ L) (hb:2 * K + L + 2 ≤ 900000000000) (hi:i < n) (hj:j < n):bR Tryz.prog 131 [NT .i64 i,NT .i64 j,PT (aM st),PT (aM fa),PT (iK z s)] (aF (mxE st fa s i j)):=by
 have hsl:=hs.1
 have hsr:=hs.row hi
 haveI f1:aE (gv fa i) K:=h2.get hK i
 haveI f2:aE (gm s i j) L:=h3.get hL i j
 refine bR.intro Tryz.func131 rfl Tryz.ntmps131 rfl (fun cx=>(ts (rn rfl (eW (Ts:=[Is (.bool false),Is (.slice none 0 0),Is (.bool false),Is (.slice none 0 0),Is (.slice none 0 0)]) O_60 rfl (fun V=>aW zd (aW zd (aW zd (aW zd (aW zd (aG))))))) fun B7=>(eX (ts (ro rfl (cZ Tryz.call118 (wW (n:=0) (by decide) (by decide)) ⟨(cJ 0),trivial⟩) (rn rfl (eW (Ts:=[Is (.bool false),Is (.slice none 0 0),Is (.bool false),Is (.slice none 0 0),Is (.slice none 0 0)]) O_60 rfl (fun V=>aW zd (aW zd (aW zd (aW zd (aW zd (aG))))))) fun B8=>?_)))))))
 refine gQ Z_60 (Ht rfl) (Ht rfl) rfl (i:=1) rfl (aK rfl) rfl rfl (eX (cK (mG (fun (x:Qi)=>x = (if i = j then gv st i else Qi.ofInt 0)) (fun (x:Qi)=>[(0,NT .i64 i),(1,NT .i64 j),(3,PT (aM fa)),(4,PT (iK z s)),(7,bO B7 0),(8,bO B8 0)]) (fun (x:Qi)=>[box B7 60 [Is (.bool false),Is (.slice none 0 0),Is (.bool false),Is (.slice none 0 0),Is (.slice none 0 0)],box B8 60 [aH (decide (x.a < 0)),bA x.a.natAbs,aH (decide (x.b < 0)),bA x.b.natAbs,bA (du x)]]) ?_ (fun x hx=>?_))))
 ·refine ts (rm rfl (rm rfl (ro rfl (eB (Ht rfl) (Ht rfl)) (eX (dQ (Ht rfl) (fun hb => ?_) (fun hb => ?_))))))
  ·have hij : i = j := by simpa using hb
   refine cY (ro rfl (dJ A_25 Z_25 (Ht rfl)) (rm rfl (ro rfl (dZ U_25 Z_60 (Ht rfl) (Ht rfl) rfl (dY (dU (d:=Qi.zero) zo))) (ro rfl (dJ A_60 Z_60 (Ht rfl)) (gQ Z_60 (Ht rfl) (Ht rfl) rfl (i:=1) rfl (aK rfl) rfl rfl (eX (cD (gv st i) (by rw [if_pos hij]) (zS rfl) (dR.refl _))))))))
  ·have hij : ¬ i = j := by simpa using hb
   refine cU (cD (Qi.ofInt 0) (by rw [if_neg hij]) (zS rfl) (dR.refl _))
 ·haveI f3 : aE x K := by
   rw [hx]; split
   ·exact h1.get hK i
   ·exact aE.zero hK
  refine cK (fZ (m:=16) (dp 8 rfl (eJ A_60 Z_60 (Ht rfl) (i:=1) rfl rfl rfl) (dq 17 0 rfl (aT bD (Ht rfl)) (dp 3 rfl (dJ A_25 Z_25 (Ht rfl)) (dp 0 rfl (cX (Ht rfl)) (cP 19 2 20 3 rfl (dZ U_25 Z_60 (Ht rfl) (Ht rfl) rfl (dY (dU (d:=Qi.zero) zo))) (dq 21 4 rfl (dJ A_60 Z_60 (Ht rfl)) (dq 22 5 rfl (aT bD (Ht rfl)) (dp 4 rfl (oZ kZ (Ht rfl) rfl) (dq 24 7 rfl (dJ A_26 Z_26 (Ht rfl)) (dp 0 rfl (cX (Ht rfl)) ?_)))))))))))
  refine cP 25 8 26 9 rfl (dZ U_26 Z_25 (Ht rfl) (Ht rfl) rfl (dY (dU (d:=[]) zo))) (dq 27 10 rfl (dJ A_25 Z_25 (Ht rfl)) (dp 1 rfl (cX (Ht rfl)) (cP 28 11 29 12 rfl (dZ U_25 Z_60 (Ht rfl) (Ht rfl) rfl (dY (dU (d:=Qi.zero) zo))) (dq 30 13 rfl (dJ A_60 Z_60 (Ht rfl)) (cP 23 6 31 14 rfl (aL cB K_70 (iF (x:=gv fa i) (y:=gm s i j) (L:=K) (M:=L) zo) (Ht rfl) ⟨(Ht rfl),trivial⟩) (fV bC rfl (by kernel_rfl) (zF (zF (zF (zF (aV ?_)))))))))))
  refine ro rfl (aL lF K_71 (rB (x:=x) (y:=gv fa i * gm s i j) (L:=K) (M:=K + L + 1) zo) (Ht rfl) ⟨(Ht rfl),trivial⟩) (gQ Z_60 (Ht rfl) (Ht rfl) rfl (i:=0) rfl (aK rfl) rfl rfl (eX (fW rfl (fX (fK A_60 Z_60 rfl (i:=0) rfl rfl) ?_))))
  exact (jU (by rw [hx]; rfl))
theorem a3t {st fa z w:List Qi} {s:List (List Qi)} {n K L:Nat} (hw:w.length = n) (hn:n ≤ 1000) (hst:st.length = n) (hfa:fa.length = n) (hs:cF s n n) (h1:bP st K) (h2:bP fa K) (h3:aN s L) (hK:1 ≤ K) (hL:1 ≤ L) (hb:2 * K + L + 2 ≤ 900000000000):bR Tryz.prog 130 [aM st,aM fa,PT (aM w),PT (iK z s)] (aR (mxM st fa s n)):=by
 refine bR.intro Tryz.func130 rfl Tryz.ntmps130 rfl (fun cx=>(ts (rn rfl (rI (Ht rfl)) fun B4=>(rn rfl (rI (Ht rfl)) fun B5=>(ro rfl (cQ cV) (eX (cK (gV (i:=0) (tt:=4) rfl rfl lE (gV (i:=1) (tt:=5) rfl rfl lE (cY (ro rfl (dJ A_25 Z_25 (Ht rfl)) (ro rfl (dG U_25 (Ht rfl) (by rw [List.length_map,hw])) ?_))))))))))))
 refine ro rfl (nS (γ:=Fin n × Fin n) (Ts:=fun x=>[NT .i64 x.1.1,NT .i64 x.2.1]) (U:=fun x=>aF (mxE st fa s x.1.1 x.2.1)) Tryz.call131 (fun x=>a4b hst hfa hs h1 h2 h3 hK hL hb x.1.2 x.2.2) ⟨(Ht rfl),(Ht rfl),(Ht rfl),trivial⟩) (ro rfl (cZ Tryz.call110 (Gp (n:=n) (f:=fun i j=>mxE st fa s i j) hn) ⟨(Ht rfl),(Ht rfl),trivial⟩) (ra rfl (eX ?_)))
 exact fW rfl (eU rfl)
theorem Te {z w:List Qi} {s:List (List Qi)} {L M K G X:Nat} (hs:cF s z.length z.length) (hz:bP z L) (hw:bP w M) (hf:aN s K) (hL:1 ≤ L) (hM:1 ≤ M) (hK:1 ≤ K) (hLb:L ≤ 1000000000) (hMb:M ≤ 1000000000) (hKb:K ≤ 100000000000) (hp:z.all gU = true) (h8:z.length ≤ 8) (hwl:w.length ≤ 1000) (hsz:w.length = z.length → ∀ i,i < w.length → Wg (Ae z w s) (ek w.length i) w.length G X) (hX:X ≤ 900000000000):bR Tryz.prog 35 [iK z s,aM w] (eD [iK (rnZ z w s) (xZ z w s),aP .i64 (Fq z w s)]):=by
 refine bR.intro Tryz.func35 rfl Tryz.ntmps35 rfl (fun cx=>(ts (rn rfl (fG (Ht rfl)) fun B2=>(rn rfl (rI (Ht rfl)) fun B3=>(rn rfl (eW (Ts:=[Is (.slice none 0 0),Is (.slice none 0 0)]) O_28 rfl (fun V=>aW zd (aW zd (aG)))) fun B4=>(ro rfl (cQ (cJ 0)) (eX (cK (ts (ro rfl (eY A_25 Z_25 (Ht rfl) (i:=1) rfl rfl) (ro rfl (dG U_25 (Ht rfl) aC) (ro rfl (eZ jV (Ht rfl) rfl) (ro rfl (eY A_25 Z_25 (Ht rfl) (i:=0) rfl rfl) ?_)))))))))))))
 refine ro rfl (dG U_25 (Ht rfl) aC) (ro rfl (kN (Ht rfl) (Ht rfl)) (eX (dQ (Ht rfl) (fun hb=>?_) (fun hb=>?_))))
 ·have hn : w.length ≠ z.length := by simpa using hb
  have he:=Se (s:=s) hn
  refine ts (ro rfl (aS.imp (mD ) mE) (gQ Z_28 (Ht rfl) (Ht rfl) rfl (i:=2) rfl (aK rfl) rfl rfl (ro rfl (cQ (cJ 4)) (eX (bN rfl (fX (fK A_28 Z_28 rfl (i:=2) rfl rfl) ?_) (fX (eU rfl) ?_))))))
  ·exact (fun v V h=>by rw [rnZ,xZ,dM,dM,he]; exact h)
  ·exact (bE he.symm)
 ·have hl : w.length = z.length := by simpa using hb
  have hsz:=hsz hl
  refine cU (cK (ts (ro rfl (eY A_25 Z_25 (Ht rfl) (i:=1) rfl rfl) (ro rfl (cZ Tryz.call129 (zO (L:=M) hw zo zo) ⟨(Ht rfl),trivial⟩) (ra rfl (eX (ts (rm rfl (ro rfl (kM (Ht rfl) cV) (eX (dQ (Ht rfl) (fun hb2=>?_) (fun hb2=>?_))))))))))))
  ·have hq : w.all gU ≠ true := fun e => by rw [e] at hb2; simp at hb2
   have he:=a57 (s:=s) hl hq
   refine ts (ro rfl (aS.imp (mD ) mE) (rm rfl (gQ Z_28 (Ht rfl) (Ht rfl) rfl (i:=2) rfl (aK rfl) rfl rfl (ra rfl (eX (bN rfl (fX (fK A_28 Z_28 rfl (i:=2) rfl rfl) ?_) (fX (eU rfl) ?_)))))))
   ·exact (fun v V h=>by rw [rnZ,xZ,dM,dM,he]; exact h)
   ·exact (bE (by rw [if_neg hq,he]))
  ·have hq : w.all gU = true := by
    apply Decidable.byContradiction; intro e
    rw [if_neg e] at hb2; simp at hb2
   have hov:=a3C (s:=s) hl hq
   have hovX:=a58 (s:=s) hl hq
   haveI f0:=iP
   have hPf:=xY hz hw hL hM hp hl
   have hMf:=xX hz hw hL hM hp hl
   have hPl:(rnP z w).length = w.length:=aD _ _
   have hMl:(rnM z w).length = w.length:=aD _ _
   refine cU (ts (rn rfl (eW (Ts:=[Is (.bool false),Is (.slice none 0 0),Is (.bool false),Is (.slice none 0 0),Is (.slice none 0 0)]) O_60 rfl (fun V=>aW zd (aW zd (aW zd (aW zd (aW zd (aG))))))) fun B7=>(eX (ts (ro rfl (cZ K_52 (mK (n:=1) (by decide) (by decide)) ⟨(cJ 1),trivial⟩) (rn rfl (eW (Ts:=[Is (.bool false),Is (.slice none 0 0),Is (.bool false),Is (.slice none 0 0),Is (.slice none 0 0)]) O_60 rfl (fun V=>aW zd (aW zd (aW zd (aW zd (aW zd (aG))))))) fun B8=>?_))))))
   refine gQ Z_60 (Ht rfl) (Ht rfl) rfl (i:=4) rfl (aK rfl) rfl rfl (eX (cK (fZ (m:=7) (dp 3 rfl (eY A_25 Z_25 (Ht rfl) (i:=1) rfl rfl) (dq 31 0 rfl (dG U_25 (Ht rfl) aC) (C.D_new (Ei:=[(32,_)]) rfl rfl rfl (bV (bG 1 rfl rfl) bW) (kS (T:=aF Qi.zero) (i:=Tryz.t60) jH gG rfl rfl (Ht rfl) rfl jD (El.ag rfl) (by show 88 * _ ≤ _; omega) zo) (dp 3 rfl (eY A_25 Z_25 (Ht rfl) (i:=1) rfl rfl) (dq 34 3 rfl (dG U_25 (Ht rfl) aC) ?_))))))))
   refine C.D_new (Ei:=[(35,_)]) rfl rfl rfl (bV (bG 4 rfl rfl) bW) (kS (T:=aF Qi.zero) (i:=Tryz.t60) jH gG rfl rfl (Ht rfl) rfl jD (El.ag rfl) (by show 88 * _ ≤ _; omega) zo) (C.D_cpy 2 rfl rfl rfl rfl rfl C.cpy_assign (fV bC rfl (by kernel_rfl) (aJ (aJ (C.F_new (fun B33=>aJ (aJ (C.F_new (fun B36=>C.F_cpy rfl (aV (ra rfl (eX (cK (ts (ro rfl (eY A_25 Z_25 (Ht rfl) (i:=1) rfl rfl) (ro rfl (dG U_25 (Ht rfl) aC) (ro rfl (cX (cJ 0)) ?_)))))))))))))))))
   refine eX (eG ?_)
   refine cA (fun (i : Nat) => i ≤ w.length) (fun (i : Nat) => w.length - i) (fun (i : Nat) => [(2, bO B2 0), (3, bO B3 0), (4, bO B4 0), (7, bO B7 0), (8, bO B8 0), (9, Is B33), (10, Is B36), (38, NT .i64 w.length), (39, NT .i64 i)]) (fun (i : Nat) => [box B2 28 [aM z, aR s], box B3 25 [aM w], box B4 28 [Is (.slice none 0 0), Is (.slice none 0 0)], box B7 60 [Is (.bool false), Is (.slice none 0 0), Is (.bool false), Is (.slice none 0 0), Is (.slice none 0 0)], box B8 60 [aH (decide ((Qi.ofInt 1).a < 0)), bA (Qi.ofInt 1).a.natAbs, aH (decide ((Qi.ofInt 1).b < 0)), bA (Qi.ofInt 1).b.natAbs, bA (du (Qi.ofInt 1))], bF 60 5 B33 ((kV (fun i => Qi.ofInt 1 + oR z w i) Qi.zero w.length i).map aF), bF 60 5 B36 ((kV (fun i => Qi.ofInt 1 - oR z w i) Qi.zero w.length i).map aF)]) 0 (Nat.zero_le _)
    (zS rfl) (aU (aA rfl) (aU (aA rfl) (aU (aA rfl) (aU (aA rfl) (aU (aA rfl) (aU (aO (by rw [← iL]; exact vH aF _)) (aU (aO (by rw [← iL]; exact vH aF _)) aY))))))) (fun i hi=>?_)
   refine ts (ro rfl (gX (Ht rfl) (Ht rfl)) (eX (cK (dQ (Ht rfl) (fun hc=>?_) (fun hc=>?_)))))
   ·have hin : i < w.length := by simp only [decide_eq_true_eq] at hc; omega
    have hzn:=Ml hp (show i < z.length by omega)
    haveI g1:aE (gv w i) M:=hw.get hM i
    haveI g2:aE (gv z i) L:=hz.get hL i
    haveI g3:aE (oR z w i) (M + 3 * L + 2):=vC hz hw hL hM hp zo
    have hl9:=dE (fun i=>Qi.ofInt 1 + oR z w i) Qi.zero w.length i
    have hl10:=dE (fun i=>Qi.ofInt 1 - oR z w i) Qi.zero w.length i
    refine cU (cK (eG (ts (rm rfl (ra rfl (eX (cK (Y.D_start (m:=15) [] (bY (Ei:=[(3,_)]) rfl rfl (bQ (bJ rfl rfl) bX) rfl rfl (dX rfl (eY A_25 Z_25 (Ht rfl) (i:=1) rfl rfl)) (bY (Ei:=[(11,_)]) rfl rfl (bQ (bJ rfl rfl) bX) rfl rfl (dX rfl (cX (Ht rfl))) (bY (Ei:=[(43,_),(44,_)]) rfl rfl (bQ (bZ 0 rfl rfl) (bQ (bZ 1 rfl rfl) bX)) rfl rfl (dX rfl (dZ U_25 Z_60 (Ht rfl) (Ht rfl) rfl (dY (dU (d:=Qi.zero) zo)))) ?_)))))))))))
    refine bY (Ei:=[(45,_)]) rfl rfl (bQ (bZ 2 rfl rfl) bX) rfl rfl (dX rfl (dJ A_60 Z_60 (Ht rfl))) (bY (Ei:=[(2,_)]) rfl rfl (bQ (bJ rfl rfl) bX) rfl rfl (dX rfl (eZ jV (Ht rfl) rfl)) (bY (Ei:=[(47,_)]) rfl rfl (bQ (bZ 4 rfl rfl) bX) rfl rfl (dX rfl (eY A_25 Z_25 (Ht rfl) (i:=0) rfl rfl)) (bY (Ei:=[(11,_)]) rfl rfl (bQ (bJ rfl rfl) bX) rfl rfl (dX rfl (cX (Ht rfl))) (bY (Ei:=[(48,_),(49,_)]) rfl rfl (bQ (bZ 5 rfl rfl) (bQ (bZ 6 rfl rfl) bX)) rfl rfl (dX rfl (dZ U_25 Z_60 (Ht rfl) (Ht rfl) rfl (dY (dU (d:=Qi.zero) zo)))) ?_))))
    refine bY (Ei:=[(50,_)]) rfl rfl (bQ (bZ 7 rfl rfl) bX) rfl rfl (dX rfl (dJ A_60 Z_60 (Ht rfl))) (bY (Ei:=[(46,_),(51,_)]) rfl rfl (bQ (bZ 3 rfl rfl) (bQ (bZ 8 rfl rfl) bX)) rfl rfl (dX rfl (cZ K_64 (vW (x:=gv w i) (y:=gv z i) (L:=M) (M:=L) zo) ⟨(Ht rfl),(Ht rfl),trivial⟩)) (bY (Ei:=[(52,_)]) rfl rfl (bQ (bZ 9 rfl rfl) bX) rfl rfl (dX rfl (cX (Ht rfl))) (bY (Ei:=[(42,_)]) rfl rfl (bQ (bZ 10 rfl rfl) bX) rfl rfl (dX rfl (dK (Ht rfl) rfl)) ?_)))
    refine bY (Ei:=[(42,_)]) rfl rfl (bQ (bZ 10 rfl rfl) bX) rfl rfl (dX rfl (dK (Ht rfl) rfl)) (Y.D_newp (Ei:=[]) (fun bb=>box bb 60 [aH (decide ((oR z w i).a < 0)),bA (oR z w i).a.natAbs,aH (decide ((oR z w i).b < 0)),bA (oR z w i).b.natAbs,bA (du (oR z w i))]) 14 rfl rfl rfl bX rfl rfl (by kernel_rfl) (eW (Ts:=[Is (.bool false),Is (.slice none 0 0),Is (.bool false),Is (.slice none 0 0),Is (.slice none 0 0)]) O_60 rfl (fun V=>aW zd (aW zd (aW zd (aW zd (aW zd (aG))))))) ?_)
    refine Y.D_putN (Ei:=[(53,_)]) 13 rfl rfl rfl rfl rfl rfl (bQ (bZ 11 rfl rfl) bX) (fun bb=>tJ Z_60 (Ht rfl) (Ht rfl) rfl (i:=0) rfl (aK rfl) rfl rfl) (Y.D_done bC rfl (by kernel_rfl) rfl (by simp [Y.okP]) rfl rfl (bU (bU (bU (bU (bU (bU (bU (bU (bU (bU (bU (bU (bU (Y.F_newp (fun B12=>Y.F_putN (Y.F_nil ?_)))))))))))))))))
    refine ra rfl (eX (Y.D_start (m:=18) [(17,5,bF 60 5 B33 (((kV (fun i=>Qi.ofInt 1 + oR z w i) Qi.zero w.length i).map aF).set i (aF (Qi.ofInt 1 + oR z w i))))] (Y.D_step (Ei:=[(9,_)]) rfl rfl (bQ (bJ rfl rfl) bX) rfl rfl (by kernel_rfl) (dX rfl (cX (Ht rfl))) (Y.D_step (Ei:=[(11,_)]) rfl rfl (bQ (bJ rfl rfl) bX) rfl rfl (by kernel_rfl) (dX rfl (cX (Ht rfl))) (bY (Ei:=[(10,_)]) rfl rfl (bQ (bJ rfl rfl) bX) rfl rfl (dX rfl (cX (Ht rfl))) (bY (Ei:=[(11,_)]) rfl rfl (bQ (bJ rfl rfl) bX) rfl rfl (dX rfl (cX (Ht rfl))) ?_))))))
    refine Y.D_step (Ei:=[(7,_)]) rfl rfl (bQ (bJ rfl rfl) bX) rfl rfl (by kernel_rfl) (dX rfl (eJ A_60 Z_60 (Ht rfl) (i:=3) rfl rfl rfl)) (Y.D_step (Ei:=[(59,_)]) rfl rfl (bQ (bZ 4 rfl rfl) bX) rfl rfl (by kernel_rfl) (dX rfl (aT bD (Ht rfl))) (Y.D_step (Ei:=[(8,_)]) rfl rfl (bQ (bJ rfl rfl) bX) rfl rfl (by kernel_rfl) (dX rfl (eJ A_60 Z_60 (Ht rfl) (i:=4) rfl rfl rfl)) (Y.D_step (Ei:=[(12,_)]) rfl rfl (bQ (bJ rfl rfl) bX) rfl rfl (by kernel_rfl) (dX rfl (eJ A_60 Z_60 (Ht rfl) (i:=7) rfl rfl rfl)) ?_)))
    refine Y.D_step (Ei:=[(61,_),(62,_)]) rfl rfl (bQ (bZ 6 rfl rfl) (bQ (bZ 7 rfl rfl) bX)) rfl rfl (by kernel_rfl) (dX rfl (cZ K_71 (rB (x:=Qi.ofInt 1) (y:=oR z w i) (L:=1) (M:=M + 3 * L + 2) zo) ⟨(Ht rfl),(Ht rfl),trivial⟩)) (Y.D_step (Ei:=[(60,_),(63,_)]) rfl rfl (bQ (bZ 5 rfl rfl) (bQ (bZ 8 rfl rfl) bX)) rfl rfl (by kernel_rfl) (dX rfl (aL nJ K_304 Em (Ht rfl) ⟨(Ht rfl),trivial⟩)) (Y.D_step (Ei:=[(7,_)]) rfl rfl (bQ (bJ rfl rfl) bX) rfl rfl (by kernel_rfl) (dX rfl (eJ A_60 Z_60 (Ht rfl) (i:=3) rfl rfl rfl)) ?_))
    refine Y.D_step (Ei:=[(65,_)]) rfl rfl (bQ (bZ 10 rfl rfl) bX) rfl rfl (by kernel_rfl) (dX rfl (aT bD (Ht rfl))) (Y.D_step (Ei:=[(8,_)]) rfl rfl (bQ (bJ rfl rfl) bX) rfl rfl (by kernel_rfl) (dX rfl (eJ A_60 Z_60 (Ht rfl) (i:=4) rfl rfl rfl)) (Y.D_step (Ei:=[(12,_)]) rfl rfl (bQ (bJ rfl rfl) bX) rfl rfl (by kernel_rfl) (dX rfl (eJ A_60 Z_60 (Ht rfl) (i:=7) rfl rfl rfl)) (Y.D_step (Ei:=[(67,_),(68,_)]) rfl rfl (bQ (bZ 12 rfl rfl) (bQ (bZ 13 rfl rfl) bX)) rfl rfl (by kernel_rfl) (dX rfl (cZ K_69 (qC (x:=Qi.ofInt 1) (y:=oR z w i) (L:=1) (M:=M + 3 * L + 2) zo) ⟨(Ht rfl),(Ht rfl),trivial⟩)) ?_)))
    refine Y.D_step (Ei:=[(66,_),(69,_)]) rfl rfl (bQ (bZ 11 rfl rfl) (bQ (bZ 14 rfl rfl) bX)) rfl rfl (by kernel_rfl) (dX rfl (aL nJ K_304 Em (Ht rfl) ⟨(Ht rfl),trivial⟩)) (Y.D_step (Ei:=[(55,_),(56,_)]) rfl rfl (bQ (bZ 0 rfl rfl) (bQ (bZ 1 rfl rfl) bX)) rfl rfl (by kernel_rfl) (dX rfl (cL U_25 Z_60 (Ht rfl) (Ht rfl) rfl (i:=5) rfl (by rw [List.length_map,hl9]; exact hin) rfl)) ?_)
    refine Y.D_putI (Ei:=[(71,_),(64,_)]) 5 rfl rfl rfl (bQ (bZ 16 rfl rfl) (bQ (bZ 9 rfl rfl) bX)) (.head _) rfl (Ja Z_60 (Ht rfl) (Ht rfl) (El.ag rfl) (i:=0) rfl rfl (by rw [List.length_map,hl9]; exact hin)) ?_
    refine Y.D_done bC rfl (by kernel_rfl) rfl (by simp [Y.okP]) rfl rfl (bU (bU (bU (bU (bU (bU (bU (bU (bU (bU (bU (bU (bU (bU (bU (bU (bU (Y.F_putI (Y.F_nil ?_)))))))))))))))))))
    refine ro rfl (cL U_25 Z_60 (Ht rfl) (Ht rfl) rfl (i:=6) rfl (by rw [List.length_map,hl10]; exact hin) rfl) ?_
    refine kX Z_60 (Ht rfl) (Ht rfl) (El.ag rfl) (i:=6) rfl rfl (by rw [List.length_map,hl10]; exact hin) rfl ?_
    refine eX (bL (cY (ro rfl (dV (Ht rfl) (cJ 1) z6) (rm rfl (eX (bS [0,1,2,3,4,5,6] rfl (by decide) (fU (i + 1) hin zo (zS rfl) (aU (aA rfl) (aU (aA rfl) (aU (aA rfl) (aU (aA rfl) (aU (aA rfl) (aU (aO (by rw [dO]; exact congrArg _ (jN (f:=(fun i=>Qi.ofInt 1 + oR z w i))))) (aU (aO (by rw [dO]; exact congrArg _ (jN (f:=(fun i=>Qi.ofInt 1 - oR z w i))))) aY))))))))))))))
   ·have hin : i = w.length := by simp only [decide_eq_false_iff_not] at hc; omega
    rw [hin,jW,jW]
    refine gW rfl (gV (i:=5) (tt:=9) rfl rfl eR (gV (i:=6) (tt:=10) rfl rfl eR (gV (i:=0) (tt:=2) rfl rfl rZ (gV (i:=1) (tt:=3) rfl rfl lE (ts (ro rfl (nS (γ:=Bool) (Ts:=fun x=>cond x [aM (rnM z w),aM (rnP z w)] [aM (rnP z w),aM (rnM z w)]) (U:=fun x=>cond x (aR (Vy z w s)) (aR (Ae z w s))) Tryz.call130 (fun x=>a30 (x:=x) (a3t (z:=z) (s:=s) rfl zo hMl hPl (by rw [hl]; exact hs) hMf hPf hf zo hK zo) (a3t (z:=z) (s:=s) rfl zo hPl hMl (by rw [hl]; exact hs) hPf hMf hf zo hK zo)) ⟨(Ht rfl),(Ht rfl),trivial⟩) ?_))))))
    refine ra rfl (eX (ts (rm rfl (rm rfl (rm rfl (ro rfl (kR true (Ht rfl) ⟨(Ht rfl),(Ht rfl),trivial⟩) (rm rfl (rm rfl (rm rfl (ro rfl (kR false (Ht rfl) ⟨(Ht rfl),(Ht rfl),trivial⟩) (ro rfl (cZ Tryz.call132 (My (Y:=Vy z w s) (M:=Ae z w s) (n:=w.length) (K:=2 * (M + 3 * L + 4) + K + 2) (xM _ _ _ _) (xM _ _ _ _) (xL hMf hPf hf zo hK) zo zo hsz hX zo) ⟨(Ht rfl),(Ht rfl),trivial⟩) (rm rfl (ro rfl (dK (Ht rfl) rfl) (ro rfl (dK (Ht rfl) rfl) (ra rfl (ra rfl (eX (cK (ts ?_)))))))))))))))))))
    refine rm rfl (ro rfl (kM (Ht rfl) cV) (eX (dQ (Ht rfl) (fun hd=>?_) (fun hd=>?_))))
    ·have hno : ovE (Ae z w s) w.length ≠ 0 := by simpa using hd
     refine ts (ro rfl (aS.imp (mD ) mE) (rm rfl (gQ Z_28 (Ht rfl) (Ht rfl) rfl (i:=2) rfl (aK rfl) rfl rfl (ra rfl (eX (bN rfl (fX (fK A_28 Z_28 rfl (i:=2) rfl rfl) ?_) (fX (eU rfl) ?_)))))))
     ·exact (fun v V h=>by rw [rnZ,xZ,dM,dM,hov,if_neg hno,if_neg hno]; exact h)
     ·exact (bE hov.symm)
    ·have hno : ovE (Ae z w s) w.length = 0 := by simpa using hd
     refine cU (ts (ro rfl (dJ A_25 Z_25 (Ht rfl)) (ro rfl (cZ Tryz.call109 (Gm (l:=w) zo) ⟨(Ht rfl),trivial⟩) (rm rfl (ro rfl (rQ (Ht rfl) (Ht rfl)) (gQ Z_28 (Ht rfl) (Ht rfl) rfl (i:=2) rfl (aK rfl) rfl rfl (ro rfl (cQ (cJ 0)) (eX (bN rfl (fX (fK A_28 Z_28 rfl (i:=2) rfl rfl) ?_) (fX (eU rfl) ?_))))))))))
     ·exact (fun v V h=>by rw [rnZ,dM,hov,hno,if_pos rfl,hovX]; exact h)
     ·exact (bE (hov.trans hno).symm)
end
section
open Go Go.RowKit
theorem Ks (v : Value) (w : World) : (method (Tryz.prog.types.size + Made.depth) 60 v "Neg").run Tryz.prog w = .ok (168, v) w := by kernel_rfl
end
section
open Go Go.RowKit
theorem Rh {z w:List Qi} {S:List (List Qi)} {i k V D:Nat} (hS:aN S V) (hV:1 ≤ V) (hr:aE (oR z w k) D):aE (Nw z w S i k) (V + 2 * D + 12):=by
 haveI:=hr; haveI:=Qq; haveI:=iP; haveI:=hS.get hV i k
 haveI a1:aE (Qi.ofInt 1 + oR z w k) (1 + D + 1):=fitAdd
 haveI a2:aE (Qi.ofInt 1 - oR z w k) (1 + D + 1):=fitSub
 haveI a3:aE ((Qi.ofInt 1 + oR z w k) * zZ) (1 + D + 1 + 2 + 1):=fitMul (L:=1 + D + 1) (M:=2)
 haveI a4:aE ((Qi.ofInt 1 - oR z w k) * zZ) (1 + D + 1 + 2 + 1):=fitMul (L:=1 + D + 1) (M:=2)
 haveI a5:aE (gm S i k * ((Qi.ofInt 1 - oR z w k) * zZ)) (V + (1 + D + 1 + 2 + 1) + 1):=fitMul (L:=V) (M:=1 + D + 1 + 2 + 1)
 unfold Nw
 by_cases e:i = k
 ·rw [if_pos e]; exact (fitSub (x:=(Qi.ofInt 1 + oR z w k) * zZ) (y:=gm S i k * ((Qi.ofInt 1 - oR z w k) * zZ)) (L:=1 + D + 1 + 2 + 1) (M:=V + (1 + D + 1 + 2 + 1) + 1)).le zo
 ·rw [if_neg e]; exact (fitNeg (x:=gm S i k * ((Qi.ofInt 1 - oR z w k) * zZ))).le zo
theorem a0t {z w:List Qi} {s:List (List Qi)} (h:Fq z w s = 0):w.length = z.length:=by
 apply Decidable.byContradiction; intro c
 rw [Se c] at h; omega
theorem Tf {z w:List Qi} {s c:List (List Qi)} {L M K V W G X:Nat} (hs:cF s z.length z.length) (hch:cF c z.length z.length) (hz:bP z L) (hw:bP w M) (hf:aN s K) (hfc:aN c W) (hL:1 ≤ L) (hM:1 ≤ M) (hK:1 ≤ K) (hW:1 ≤ W) (hLb:L ≤ 1000) (hMb:M ≤ 1000) (hKb:K ≤ 100000000000) (hWb:W ≤ 450000000) (hp:z.all gU = true) (h8:z.length ≤ 8) (hwl:w.length ≤ 1000) (hsz:w.length = z.length → ∀ i,i < w.length → Wg (Ae z w s) (ek w.length i) w.length G X) (hX:X ≤ 900000000000) (hV:aN (xZ z w s) V) (hV1:1 ≤ V) (hVb:V ≤ 400000000):bR Tryz.prog 47 [eH z s c,aM w] (eD [eH (rnZ z w s) (xZ z w s) (nrC z w s c),aP .i64 (Fq z w s)]):=by
 have hR:=Te hs hz hw hf hL hM hK zo zo hKb hp h8 hwl hsz hX
 haveI h5:=Qq
 haveI h6:=iP
 refine bR.intro Tryz.func47 rfl Tryz.ntmps47 rfl (fun cx=>(ts (rn rfl (fG (Ht rfl)) fun B2=>(rn rfl (eW (Ts:=[Is (.slice none 0 0),Is (.slice none 0 0),Is (.slice none 0 0)]) O_80 rfl (fun V=>aW zd (aW zd (aW zd (aG))))) fun B4=>(ro rfl (cQ (cJ 0)) (eX (ts (ro rfl (eZ mX (Ht rfl) rfl) (ro rfl (eJ A_28 Z_28 (Ht rfl) (i:=0) rfl rfl rfl) (rm rfl (ro rfl (cZ Tryz.call35 hR ⟨(Ht rfl),(Ht rfl),trivial⟩) (rm rfl (ro rfl (dK (Ht rfl) rfl) ?_)))))))))))))
 refine ro rfl (dK (Ht rfl) rfl) (rn rfl (eW (Ts:=[Is (.slice none 0 0),Is (.slice none 0 0)]) O_28 rfl (fun V=>aW zd (aW zd (aG)))) fun B6=>(gQ Z_28 (Ht rfl) (Ht rfl) rfl (i:=2) rfl (aK rfl) rfl rfl (ra rfl (eX (cK (ts (rm rfl (ro rfl (kM (Ht rfl) cV) (eX (dQ (Ht rfl) (fun hb=>?_) (fun hb=>?_)))))))))))
 ·have he : Fq z w s ≠ 0 := by simpa using hb
  refine ts (ro rfl (aS.imp (rS ) nK) (rm rfl (gQ Z_80 (Ht rfl) (Ht rfl) rfl (i:=1) rfl (aK rfl) rfl rfl (ra rfl (eX (bN rfl (fX (fK A_80 Z_80 rfl (i:=1) rfl rfl) ?_) (eU rfl)))))))
  exact (fun v V h=>by rw [rnZ,xZ,nrC,dM,dM,dM,if_neg he,if_neg he,if_neg he]; exact h)
 ·have he : Fq z w s = 0 := by simpa using hb
  have hl:=a0t he
  obtain ⟨hq,-,hSx,hZ⟩:=yA (n:=z.length) rfl hl he
  have hS2:cF (xZ z w s) w.length w.length:=by rw [hSx,hl]; exact jO
  have hC:nrC z w s c = iI (nrM z w (xZ z w s) w.length) c:=by rw [nrC,dM,if_pos he]
  rw [hZ,hC,he]
  clear hR hsz hSx hZ hC he hb hs
  generalize xZ z w s = S at *
  obtain ⟨n,hn⟩:∃ n,n = w.length:=⟨_,rfl⟩
  have hzl:z.length = n:=by omega
  obtain ⟨D,hD⟩:∃ D,D = M + 3 * L + 2:=⟨_,rfl⟩
  refine cU (ts (ro rfl (cZ Tryz.call108 (a3q (p:=1) (q:=0) (d:=2) (by decide) (by decide) (by decide) (by decide) (by decide) (by decide) (by decide)) ⟨(cJ 1),(cJ 0),(cJ 2),trivial⟩) (rm rfl (ro rfl (dK (Ht rfl) rfl) (ro rfl (dK (Ht rfl) rfl) (rn rfl (eW (Ts:=[Is (.bool false),Is (.slice none 0 0),Is (.bool false),Is (.slice none 0 0),Is (.slice none 0 0)]) O_60 rfl (fun V=>aW zd (aW zd (aW zd (aW zd (aW zd (aG))))))) fun B8=>?_))))))
  refine gQ Z_60 (Ht rfl) (Ht rfl) rfl (i:=3) rfl (aK rfl) rfl rfl (ra rfl (eX (cK (gV (i:=3) (tt:=8) rfl rfl rZ (bS [0,1,2] rfl (by decide) (cY (ro rfl (eJ A_28 Z_28 (Ht rfl) (i:=2) rfl rfl rfl) (iN Tryz.call143 (Pw (z:=w) (s:=S) hS2 zo) ⟨(Ht rfl),trivial⟩ rfl (fun B34 _=>(ra rfl (eX (ts (ro rfl (eZ mX (Ht rfl) rfl) (ro rfl (eJ A_28 Z_28 (Ht rfl) (i:=0) rfl rfl rfl) (ro rfl (cZ Tryz.call149 (Xn zo) ⟨(Ht rfl),trivial⟩) ?_)))))))))))))))
  refine ra rfl (eX (cK (cK ?_)))
  rw [← hn]
  refine cY (rm rfl (ro rfl (eT U_26 (Ht rfl)) (ro rfl (cX (cJ 0)) (eX (eG ?_)))))
  refine cA (fun (i : Nat) => i ≤ n) (fun (i : Nat) => n - i) (fun (i : Nat) => [(1, aM w), (2, bO B2 0), (4, bO B4 0), (6, bO B6 0), (8, PT (aF zZ)), (10, Is (.slice (some ⟨B34, 0, none⟩) n n)), (11, aM z), (38, Is (.slice (some ⟨B34, 0, none⟩) n n)), (39, NT .i64 n), (40, NT .i64 i)]) (fun (i : Nat) => [box B2 80 [aM z, aR s, aR c], box B4 80 [Is (.slice none 0 0), Is (.slice none 0 0), Is (.slice none 0 0)], box B6 28 [aM w, aR S], lQ B34 25 60 5 (bM aF (jY (fun i => tab n fun k => Nw z w S i k) (fun i => tab n fun k => gm S i k) n i))]) 0 (Nat.zero_le _)
   (zS rfl) (aU (aA rfl) (aU (aA rfl) (aU (aA rfl) (aU (bI (by rw [← iG])) aY)))) (fun i hi=>?_)
  refine ts (ro rfl (gX (Ht rfl) (Ht rfl)) (eX (cK (dQ (Ht rfl) (fun hd=>?_) (fun hd=>?_)))))
  ·have hdn : i < n := by simp only [decide_eq_true_eq] at hd; omega
   refine mB 3 (i) rfl (nI hdn) (fun v=>(cU (cK (eG (ts (rm rfl (ro rfl (fY U_26 Z_25 (Ht rfl) (Ht rfl) rfl zo (by rw [Nat.mul_one,Nat.zero_add])) ?_)))))))
   refine ro rfl (iC A_25 Z_25 (Ht rfl) (j:=3) rfl) (ra rfl (ra rfl (eX (ts (rm rfl (ro rfl (nT U_25 (Ht rfl) (i:=4) rfl (show (((tab n fun k=>gm S i k).map aF).length:Int) = ((n:Nat):Int) by rw [List.length_map,aD])) (ro rfl (cX (cJ 0)) (eX (eG ?_)))))))))
   refine cA (fun (j : Nat) => j ≤ n) (fun (j : Nat) => n - j) (fun (j : Nat) => [(1, aM w), (2, bO B2 0), (4, bO B4 0), (6, bO B6 0), (8, PT (aF zZ)), (10, Is (.slice (some ⟨B34, 0, none⟩) n n)), (11, aM z), (12, NT .i64 i), (13, Is v), (38, Is (.slice (some ⟨B34, 0, none⟩) n n)), (39, NT .i64 n), (40, NT .i64 i), (46, NT .i64 n), (47, NT .i64 j)]) (fun (j : Nat) => [box B2 80 [aM z, aR s, aR c], box B4 80 [Is (.slice none 0 0), Is (.slice none 0 0), Is (.slice none 0 0)], box B6 28 [aM w, aR S], Ac B34 25 60 5 (bM aF (jY (fun i => tab n fun k => Nw z w S i k) (fun i => tab n fun k => gm S i k) n i)) i v, bF 60 5 v ((jY (fun k => Nw z w S i k) (fun k => gm S i k) n j).map aF)]) 0 (Nat.zero_le _)
    (zS rfl) (aU (aA rfl) (aU (aA rfl) (aU (aA rfl) (aU (fun _ _ _ h=>h) (aU (aO (by rw [← iG])) aY))))) (fun j hj=>?_)
   refine ts (ro rfl (gX (Ht rfl) (Ht rfl)) (eX (cK (dQ (Ht rfl) (fun hf2=>?_) (fun hf2=>?_)))))
   ·have hjn : j < n := by simp only [decide_eq_true_eq] at hf2; omega
    have hrl:=iB (fun k=>Nw z w S i k) (fun k=>gm S i k) n j
    haveI q1:aE (gm S i j) V:=hV.get hV1 i j
    haveI q2:aE (gv w j) M:=hw.get hM j
    haveI q3:aE (gv z j) L:=hz.get hL j
    haveI q4:aE (oR z w j) D:=by rw [hD]; exact vC hz hw hL hM hp zo
    have hne:=Ml hp (show j < z.length by omega)
    refine cU (cK (eG (ts (rm rfl (ra rfl (eX (cK (Y.D_start (m:=14) [] (bY (Ei:=[(1,_)]) rfl rfl (bQ (bJ rfl rfl) bX) rfl rfl (dX rfl (cX (Ht rfl))) (bY (Ei:=[(14,_)]) rfl rfl (bQ (bJ rfl rfl) bX) rfl rfl (dX rfl (cX (Ht rfl))) (bY (Ei:=[(51,_),(52,_)]) rfl rfl (bQ (bZ 0 rfl rfl) (bQ (bZ 1 rfl rfl) bX)) rfl rfl (dX rfl (dZ U_25 Z_60 (Ht rfl) (Ht rfl) rfl (dY (dU (d:=Qi.zero) zo)))) ?_)))))))))))
    refine bY (Ei:=[(53,_)]) rfl rfl (bQ (bZ 2 rfl rfl) bX) rfl rfl (dX rfl (dJ A_60 Z_60 (Ht rfl))) (bY (Ei:=[(11,_)]) rfl rfl (bQ (bJ rfl rfl) bX) rfl rfl (dX rfl (cX (Ht rfl))) (bY (Ei:=[(14,_)]) rfl rfl (bQ (bJ rfl rfl) bX) rfl rfl (dX rfl (cX (Ht rfl))) (bY (Ei:=[(55,_),(56,_)]) rfl rfl (bQ (bZ 4 rfl rfl) (bQ (bZ 5 rfl rfl) bX)) rfl rfl (dX rfl (dZ U_25 Z_60 (Ht rfl) (Ht rfl) rfl (dY (dU (d:=Qi.zero) zo)))) ?_)))
    refine bY (Ei:=[(57,_)]) rfl rfl (bQ (bZ 6 rfl rfl) bX) rfl rfl (dX rfl (dJ A_60 Z_60 (Ht rfl))) (bY (Ei:=[(54,_),(58,_)]) rfl rfl (bQ (bZ 3 rfl rfl) (bQ (bZ 7 rfl rfl) bX)) rfl rfl (dX rfl (cZ K_64 (vW (x:=gv w j) (y:=gv z j) (L:=M) (M:=L) zo) ⟨(Ht rfl),(Ht rfl),trivial⟩)) (bY (Ei:=[(59,_)]) rfl rfl (bQ (bZ 8 rfl rfl) bX) rfl rfl (dX rfl (cX (Ht rfl))) (bY (Ei:=[(50,_)]) rfl rfl (bQ (bZ 9 rfl rfl) bX) rfl rfl (dX rfl (dK (Ht rfl) rfl)) ?_)))
    refine bY (Ei:=[(50,_)]) rfl rfl (bQ (bZ 9 rfl rfl) bX) rfl rfl (dX rfl (dK (Ht rfl) rfl)) (Y.D_newp (Ei:=[]) (fun bb=>box bb 60 [aH (decide ((oR z w j).a < 0)),bA (oR z w j).a.natAbs,aH (decide ((oR z w j).b < 0)),bA (oR z w j).b.natAbs,bA (du (oR z w j))]) 13 rfl rfl rfl bX rfl rfl (by kernel_rfl) (eW (Ts:=[Is (.bool false),Is (.slice none 0 0),Is (.bool false),Is (.slice none 0 0),Is (.slice none 0 0)]) O_60 rfl (fun V=>aW zd (aW zd (aW zd (aW zd (aW zd (aG))))))) ?_)
    refine Y.D_putN (Ei:=[(60,_)]) 12 rfl rfl rfl rfl rfl rfl (bQ (bZ 10 rfl rfl) bX) (fun bb=>tJ Z_60 (Ht rfl) (Ht rfl) rfl (i:=0) rfl (aK rfl) rfl rfl) (Y.D_done bC rfl (by kernel_rfl) rfl (by simp [Y.okP]) rfl rfl (bU (bU (bU (bU (bU (bU (bU (bU (bU (bU (bU (bU (Y.F_newp (fun B15=>Y.F_putN (Y.F_nil ?_))))))))))))))))
    refine ra rfl (eX (cK (fZ (m:=13) (dp 13 rfl (cX (Ht rfl)) (dp 14 rfl (cX (Ht rfl)) (cP 62 0 63 1 rfl (cL U_25 Z_60 (Ht rfl) (Ht rfl) rfl (i:=4) rfl (by simp only [List.length_map,hrl]; omega) rfl) ?_))))))
    refine dq 64 2 rfl (mI A_60 Z_60 (Ht rfl) (i:=4) rfl rfl (dY (oB hjn))) (dq 65 3 rfl (aT bD (Ht rfl)) (d0 rfl (cZ K_52 (mK (n:=1) (by decide) (by decide)) ⟨(cJ 1),trivial⟩) (dp 15 rfl (eJ A_60 Z_60 (Ht rfl) (i:=5) rfl rfl rfl) (cP 67 5 68 6 rfl (cZ K_69 (qC (x:=Qi.ofInt 1) (y:=oR z w j) (L:=1) (M:=D) zo) ⟨(Ht rfl),(Ht rfl),trivial⟩) (dp 8 rfl (dJ A_60 Z_60 (Ht rfl)) (cP 69 7 70 8 rfl (cZ K_70 (iF (x:=Qi.ofInt 1 - oR z w j) (y:=zZ) (L:=1 + D + 1) (M:=2) zo) ⟨(Ht rfl),(Ht rfl),trivial⟩) ?_))))))
    refine dq 71 9 rfl (cZ K_147 Bx ⟨(Ht rfl),trivial⟩) (cP 66 4 72 10 rfl (aL cB K_70 (iF (x:=gm S i j) (y:=(Qi.ofInt 1 - oR z w j) * zZ) (L:=V) (M:=1 + D + 1 + 2 + 1) zo) (Ht rfl) ⟨(Ht rfl),trivial⟩) (C.D_new (Ei:=[]) rfl rfl rfl bW (eW (Ts:=[Is (.bool false),Is (.slice none 0 0),Is (.bool false),Is (.slice none 0 0),Is (.slice none 0 0)]) O_60 rfl (fun V=>aW zd (aW zd (aW zd (aW zd (aW zd (aG))))))) ?_))
    refine fV bC rfl (by kernel_rfl) (zF (zF (zF (C.F_new (fun B17=>aV (gQ Z_60 (Ht rfl) (Ht rfl) rfl (i:=6) rfl (aK rfl) rfl rfl (eX (ts (rm rfl (rm rfl (ro rfl (eB (Ht rfl) (Ht rfl)) (eX (dQ (Ht rfl) (fun hij=>?_) (fun hij=>?_))))))))))))))
    ·have hij2 : i = j := by simpa using hij
     have hval:Nw z w S i j = ((Qi.ofInt 1 + oR z w j) * zZ - gm S i j * ((Qi.ofInt 1 - oR z w j) * zZ)):=by rw [Nw,if_pos hij2]; rfl
     refine fZ (m:=11) (dp 13 rfl (cX (Ht rfl)) (dp 14 rfl (cX (Ht rfl)) (d0 rfl (cZ K_52 (mK (n:=1) (by decide) (by decide)) ⟨(cJ 1),trivial⟩) (dp 15 rfl (eJ A_60 Z_60 (Ht rfl) (i:=5) rfl rfl rfl) (cP 79 2 80 3 rfl (cZ K_71 (rB (x:=Qi.ofInt 1) (y:=oR z w j) (L:=1) (M:=D) zo) ⟨(Ht rfl),(Ht rfl),trivial⟩) (dp 8 rfl (dJ A_60 Z_60 (Ht rfl)) (cP 81 4 82 5 rfl (cZ K_70 (iF (x:=Qi.ofInt 1 + oR z w j) (y:=zZ) (L:=1 + D + 1) (M:=2) zo) ⟨(Ht rfl),(Ht rfl),trivial⟩) ?_)))))))
     refine dq 83 6 rfl (cZ K_147 Bx ⟨(Ht rfl),trivial⟩) (dq 84 7 rfl (aT bD (Ht rfl)) (dp 17 rfl (eJ A_60 Z_60 (Ht rfl) (i:=6) rfl rfl rfl) (cP 85 8 86 9 rfl (aL iA K_69 (qC (x:=(Qi.ofInt 1 + oR z w j) * zZ) (y:=gm S i j * ((Qi.ofInt 1 - oR z w j) * zZ)) (L:=1 + D + 1 + 2 + 1) (M:=V + (1 + D + 1 + 2 + 1) + 1) zo) (Ht rfl) ⟨(Ht rfl),trivial⟩) (fV bC rfl (by kernel_rfl) (zF (zF (aJ (aJ (aJ (aV ?_))))))))))
     refine ro rfl (cL U_25 Z_60 (Ht rfl) (Ht rfl) rfl (i:=4) rfl (by simp only [List.length_map,hrl]; omega) rfl) ?_
     refine kX Z_60 (Ht rfl) (Ht rfl) (El.ag rfl) (i:=4) rfl rfl (by simp only [List.length_map,hrl]; omega) rfl ?_
     refine eX (bL (cY (ro rfl (dV (Ht rfl) (cJ 1) z6) (rm rfl (eX (bS [0,1,2,3,4] rfl (by decide) (fU (j + 1) hjn zo (zS rfl) (aU (aA rfl) (aU (aA rfl) (aU (aA rfl) (aU (fun _ _ _ h=>h) (aU (aO (by rw [dO,← hval]; exact congrArg _ (jC (f:=fun k=>Nw z w S i k)))) aY))))))))))))
    ·have hij2 : ¬ i = j := by simpa using hij
     have hval:Nw z w S i j = (-(gm S i j * ((Qi.ofInt 1 - oR z w j) * zZ))):=by rw [Nw,if_neg hij2]; rfl
     refine cY (rm rfl (rm rfl (ro rfl (eJ A_60 Z_60 (Ht rfl) (i:=6) rfl rfl rfl) (ro rfl (aT bD (Ht rfl)) (ro rfl (aL Ks Tryz.call168 (Ji (x:=gm S i j * ((Qi.ofInt 1 - oR z w j) * zZ))) (Ht rfl) trivial) (ro rfl (cL U_25 Z_60 (Ht rfl) (Ht rfl) rfl (i:=4) rfl (by simp only [List.length_map,hrl]; omega) rfl) ?_))))))
     refine kX Z_60 (Ht rfl) (Ht rfl) (El.ag rfl) (i:=4) rfl rfl (by simp only [List.length_map,hrl]; omega) rfl ?_
     refine eX (bL (cY (ro rfl (dV (Ht rfl) (cJ 1) z6) (rm rfl (eX (bS [0,1,2,3,4] rfl (by decide) (fU (j + 1) hjn zo (zS rfl) (aU (aA rfl) (aU (aA rfl) (aU (aA rfl) (aU (fun _ _ _ h=>h) (aU (aO (by rw [dO,← hval]; exact congrArg _ (jC (f:=fun k=>Nw z w S i k)))) aY))))))))))))
   ·have hjn : j = n := by simp only [decide_eq_false_iff_not] at hf2; omega
    rw [hjn]
    refine gW rfl (bL (dS 3 4 rfl rfl (by decide) (by simp only [bM,List.length_map,iB]; omega) ?_))
    refine cY (ro rfl (dV (Ht rfl) (cJ 1) z6) (rm rfl (eX (bS [0,1,2,3] rfl (by decide) (fU (i + 1) hdn zo (zS rfl) (aU (aA rfl) (aU (aA rfl) (aU (aA rfl) (aU (bI (by rw [eN,jM]; exact congrArg _ (jC (f:=(fun i=>tab n fun k=>Nw z w S i k))))) aY)))))))))
  ·have hdn : i = n := by simp only [decide_eq_false_iff_not] at hd; omega
   rw [hdn,jM,show tab n (fun i=>tab n fun k=>Nw z w S i k) = nrM z w S n from rfl]
   refine gW rfl (cK (gV (i:=3) (tt:=10) rfl rfl (gY (s:=5) (M:=nrM z w S n) (aD _ _).symm) ?_))
   have hnf:aN (nrM z w S n) (V + 2 * D + 12 + W):=aN.tab fun i k _ hk=>(Rh (D:=D) hV hV1 (by rw [hD]; exact vC hz hw hL hM hp zo)).le zo
   rw [hzl] at hch
   refine fZ (m:=5) (dp 6 rfl (eJ A_28 Z_28 (Ht rfl) (i:=2) rfl rfl rfl) (dp 10 rfl (cX (Ht rfl)) (dp 2 rfl (eZ kJ (Ht rfl) rfl) (dq 99 2 rfl (eY A_26 Z_26 (Ht rfl) (i:=0) rfl rfl) (cP 98 1 100 3 rfl (cZ Tryz.call148 (a46 (L:=V + 2 * D + 12 + W) (Ri z w S n) hch hnf (hfc.le zo) zo zo rfl zo zo) ⟨(Ht rfl),(Ht rfl),trivial⟩) (fV bC rfl (by kernel_rfl) (zF (aJ (aV (ro rfl (pL (Ht rfl) (Ht rfl)) (gQ Z_80 (Ht rfl) (Ht rfl) rfl (i:=1) rfl (aK rfl) rfl rfl ?_)))))))))))
   refine ro rfl (cQ (cJ 0)) (eX ?_)
   exact bN rfl (fK A_80 Z_80 rfl (i:=1) rfl rfl) (eU rfl)
end
section
open Go Go.RowKit
theorem a6p:Tryz.prog.underlying 3 = some (.int .i64):=by kernel_rfl
end
section
open Go Go.RowKit
theorem a1c {m:Nat} (hm:m ≤ 1000):fN Tryz.prog 219 [Is (.slice none 0 0),NT .i64 m] [] (Value) (fun v=>Is v) (fun v=>[bF 60 5 v []]) (fun _=>True):=by
 refine fN.intro Tryz.func219 rfl Tryz.ntmps219 rfl (fun cx Z=>(ts (ro rfl (cQ cV) (eX (cK (ts (rm rfl (ro rfl (gX (Ht rfl) (cJ 0)) (eX (nO (Ht rfl) (by simp) ?_))))))))))
 refine cU (cK (ts (rm rfl (rm rfl (ro rfl (Rn U_25 (Ht rfl)) (rm rfl (ro rfl (eT U_25 (Ht rfl)) (ro rfl (dW (Ht rfl) (Ht rfl) zo z6) (ro rfl (dW (Ht rfl) (Ht rfl) zo z6) (ra rfl (eX (ts (rm rfl (ro rfl (gA (Ht rfl) (cJ 0)) (eX (dQ (Ht rfl) (fun hb=>?_) (fun hb=>?_)))))))))))))))))
 ·have h0 : 0 < m := by simp only [decide_eq_true_eq] at hb; omega
  refine cY (rm rfl (rm rfl (ro rfl (Rn U_25 (Ht rfl)) (ro rfl (Fm U_25 Z_60 (Ht rfl) (Ht rfl) (Nat.le_refl _)) (rm rfl (rn rfl (Um (i:=Tryz.t60) jH a6p gG rfl rfl rfl (by decide) (Ht rfl) (Ht rfl) zo (by show _ * 88 ≤ _; omega) zo) fun q22=>(rm rfl (ro rfl (eT U_25 (Ht rfl)) (ro rfl (Fm U_25 Z_60 (Ht rfl) (Ht rfl) (Nat.zero_le _)) (ra rfl (eX (ts (rm rfl (ra rfl (eX ?_)))))))))))))))
  exact iO _ trivial [0,1] ⟨⟨_,rfl,fun _ _ _ h=>h⟩,⟨_,rfl,fun _ _ _ h=>h⟩,trivial⟩ (by decide) (tG rfl (eU rfl))
 ·obtain rfl : m = 0 := by simp only [decide_eq_false_iff_not] at hb; omega
  refine qZ 60 5 (cU (ts (rm rfl (ra rfl (eX ?_)))))
  exact iO _ trivial [0,1] ⟨⟨_,rfl,fun _ _ _ h=>h⟩,⟨_,rfl,fun _ _ _ h=>h⟩,trivial⟩ (by decide) (tG rfl (eU rfl))
abbrev cat (ls:List (List Qi)) (i:Nat):List Qi:=(ls.take i).flatten
theorem Js {ls:List (List Qi)} {i:Nat} (h:i < ls.length):cat ls (i + 1) = cat ls i ++ ls.getD i []:=by
 simp only [cat]
 rw [List.take_succ_eq_append_getElem h,List.flatten_append]
 simp [List.getD,h]
theorem Py (ls:List (List Qi)):cat ls ls.length = ls.flatten:=by rw [cat,List.take_length]
theorem Xr {ls:List (List Qi)} {i:Nat} (h:i ≤ ls.length):(cat ls i).length ≤ ls.flatten.length:=by
 have e:ls.flatten = (ls.take i).flatten ++ (ls.drop i).flatten:=by rw [← List.flatten_append,List.take_append_drop]
 show (ls.take i).flatten.length ≤ _
 rw [e,List.length_append]; omega
theorem Wz {ls:List (List Qi)} (hl:ls.length ≤ 1000) (hf:ls.flatten.length ≤ 1000):bR Tryz.prog 119 [kI 1 (ls.map aM)] (aM ls.flatten):=by
 refine bR.intro Tryz.func119 rfl Tryz.ntmps119 rfl (fun cx=>(ts (ro rfl (cQ cV) (eX (ts (ro rfl (cQ (cJ 0)) (eX (cK (ts (rm rfl (ro rfl (dG U_26 (Ht rfl) aC) (ro rfl (cX (cJ 0)) (eX (eG ?_))))))))))))))
 refine cA (fun (i : Nat) => i ≤ ls.length) (fun (i : Nat) => ls.length - i) (fun (i : Nat) => [(0, kI 1 (ls.map aM)), (3, NT .i64 (cat ls i).length), (9, kI 1 (ls.map aM)), (10, NT .i64 ls.length), (11, NT .i64 i)]) (fun (i : Nat) => []) 0 (Nat.zero_le _)
  (zS rfl) aY (fun i hi=>?_)
 refine ts (ro rfl (gX (Ht rfl) (Ht rfl)) (eX (cK (dQ (Ht rfl) (fun hd=>?_) (fun hd=>?_)))))
 ·have hin : i < ls.length := by simp only [decide_eq_true_eq] at hd; omega
  have hcn:=Js hin
  have hcl:=Xr (ls:=ls) (i:=i + 1) hin
  rw [hcn,List.length_append] at hcl
  refine cU (cK (eG (ts (ro rfl (dZ U_26 Z_25 (Ht rfl) (Ht rfl) rfl (dY (dU (d:=[]) zo))) (ro rfl (dJ A_25 Z_25 (Ht rfl)) (ra rfl (eX (ts (rm rfl (rm rfl (ro rfl (dG U_25 (Ht rfl) aC) (ro rfl (dV (Ht rfl) (Ht rfl) (by show _ < 9223372036854775808; omega)) (ra rfl (eX (ts (rm rfl (ro rfl (gX (Ht rfl) (cJ 0)) (eX (nO (Ht rfl) (by simp) ?_)))))))))))))))))))
  refine cU (bL (cY (ro rfl (dV (Ht rfl) (cJ 1) z6) (rm rfl (eX (fU (i + 1) hin zo (aQ rfl (aZ rfl (lX (by rw [hcn,List.length_append])) (zS rfl))) aY))))))
 ·have hin : i = ls.length := by simp only [decide_eq_false_iff_not] at hd; omega
  rw [hin,Py]
  refine gW rfl (ts (rm rfl (iN Tryz.call219 (a1c (m:=ls.flatten.length) hf) ⟨cV,(Ht rfl),trivial⟩ rfl (fun v24 _=>(ra rfl (eX (cK (ts (rm rfl (ro rfl (dG U_26 (Ht rfl) aC) (ro rfl (cX (cJ 0)) (eX (eG ?_)))))))))))))
  refine fO (fun (j : Nat) (v : Value) => j ≤ ls.length) (fun (j : Nat) (v : Value) => ls.length - j) (fun (j : Nat) (v : Value) => [(0, kI 1 (ls.map aM)), (6, Is v), (25, kI 1 (ls.map aM)), (26, NT .i64 ls.length), (27, NT .i64 j)]) (fun (j : Nat) (v : Value) => [bF 60 5 v ((cat ls j).map aF)]) 0 _ (Nat.zero_le _)
   (zS rfl) (aU (aO rfl) aY) (fun j v hj=>?_)
  refine ts (ro rfl (gX (Ht rfl) (Ht rfl)) (eX (cK (dQ (Ht rfl) (fun he=>?_) (fun he=>?_)))))
  ·have hjn : j < ls.length := by simp only [decide_eq_true_eq] at he; omega
   have hcn:=Js hjn
   have hcl:=Xr (ls:=ls) (i:=j + 1) hjn
   rw [hcn,List.length_append] at hcl
   refine cU (cK (eG (ts (ro rfl (dZ U_26 Z_25 (Ht rfl) (Ht rfl) rfl (dY (dU (d:=[]) zo))) (ro rfl (dJ A_25 Z_25 (Ht rfl)) (ra rfl (eX (cY (rm rfl (rm rfl (Ej (inf:=Tryz.t60) jH gG rfl rfl rfl (Ht rfl) (Ht rfl) (i:=0) rfl (fun T hT=>by obtain ⟨x,_,rfl⟩:=List.mem_map.1 hT; exact El.ag rfl) (by show _ * 88 ≤ _; simp only [List.length_map]; omega) (by simp only [List.length_map]; omega) rfl (fun v2=>?_))))))))))))
   refine ra rfl (eX (bL (cY (ro rfl (dV (Ht rfl) (cJ 1) z6) (rm rfl (eX (fU (j + 1,v2) hjn (by dsimp only; omega) (zS rfl) (aU (aO (by rw [hcn,List.map_append])) aY))))))))
  ·have hjn : j = ls.length := by simp only [decide_eq_false_iff_not] at he; omega
   rw [hjn,Py]
   refine gW rfl (gV (i:=0) (tt:=6) rfl rfl eR (ts (rm rfl (ra rfl (eX ?_)))))
   exact fW rfl (eU rfl)
theorem Xe {z zb:List Qi} {a b:List (List Qi)} {x y i j:Nat} (ha:cF a x x) (hb:cF b y y) (hx:x ≤ 100) (hy:y ≤ 100) (hi:i < x + y) (hj:j < x + y):bR Tryz.prog 117 [NT .i64 i,NT .i64 j,PT (NT .i64 x),PT (iK z a),PT (iK zb b)] (aF (gm (oJ a b x y) i j)):=by
 have hal:=ha.1
 have hbl:=hb.1
 rw [jS hi hj]
 refine bR.intro Tryz.func117 rfl Tryz.ntmps117 rfl (fun cx=>(ts (rn rfl (eW (Ts:=[Is (.bool false),Is (.slice none 0 0),Is (.bool false),Is (.slice none 0 0),Is (.slice none 0 0)]) O_60 rfl (fun V=>aW zd (aW zd (aW zd (aW zd (aW zd (aG))))))) fun B7=>(eX (cK (eG (ts (rm rfl (ro rfl (dJ A_3 Z_3 (Ht rfl)) (ro rfl (gX (Ht rfl) (Ht rfl)) (rm rfl (fQ rfl rfl (eK rfl rfl (Ht rfl) (fun h=>cX (Ht rfl))) ?_))))))))))))
 refine fQ rfl rfl (eK rfl rfl (Ht rfl) (fun h=>dJ A_3 Z_3 (Ht rfl))) (fQ rfl rfl (eK rfl rfl (Ht rfl) (fun h=>gX (fJ rfl h) (fJ rfl h))) (ro rfl (fC (Ht rfl) (fun h=>(fJ rfl h))) (ra rfl (eX (dQ (Ht rfl) (fun h1=>?_) (fun h1=>?_))))))
 ·have h2 : i < x ∧ j < x := by simpa using h1
  have har:=ha.row h2.1
  refine ts (ro rfl (oZ kZ (Ht rfl) rfl) (ro rfl (dJ A_26 Z_26 (Ht rfl)) (rm rfl (ro rfl (dZ U_26 Z_25 (Ht rfl) (Ht rfl) rfl (dY (dU (d:=[]) zo))) (ro rfl (dJ A_25 Z_25 (Ht rfl)) (rm rfl (ro rfl (dZ U_25 Z_60 (Ht rfl) (Ht rfl) rfl (dY (dU (d:=Qi.zero) zo))) (ro rfl (dJ A_60 Z_60 (Ht rfl)) (gQ Z_60 (Ht rfl) (Ht rfl) rfl (i:=0) rfl (aK rfl) rfl rfl (eX (fW rfl (fX (fK A_60 Z_60 rfl (i:=0) rfl rfl) ?_))))))))))))
  exact (jU (by rw [if_pos h2.1,if_pos h2.2]))
 ·have h2 : ¬ (i < x ∧ j < x) := by simpa using h1
  refine ts (rm rfl (ro rfl (dJ A_3 Z_3 (Ht rfl)) (ro rfl (sH (Ht rfl) (Ht rfl)) (rm rfl (fQ rfl rfl (eK rfl rfl (Ht rfl) (fun h=>cX (Ht rfl))) (fQ rfl rfl (eK rfl rfl (Ht rfl) (fun h=>dJ A_3 Z_3 (Ht rfl))) (fQ rfl rfl (eK rfl rfl (Ht rfl) (fun h=>sH (fJ rfl h) (fJ rfl h))) (ro rfl (fC (Ht rfl) (fun h=>(fJ rfl h))) (ra rfl (eX (dQ (Ht rfl) (fun h3=>?_) (fun h3=>?_))))))))))))
  ·have h4 : x ≤ i ∧ x ≤ j := by simpa using h3
   have hbr:=hb.row (i:=i - x) zo
   refine cK (fZ (m:=10) (dp 4 rfl (oZ kZ (Ht rfl) rfl) (dq 34 0 rfl (dJ A_26 Z_26 (Ht rfl)) (dp 0 rfl (cX (Ht rfl)) (dp 2 rfl (dJ A_3 Z_3 (Ht rfl)) (cP 36 2 37 3 rfl (dW (Ht rfl) (Ht rfl) zo z6) (cP 35 1 38 4 rfl (dZ U_26 Z_25 (Ht rfl) (Ht rfl) rfl (dY (dU (d:=[]) zo))) (dq 39 5 rfl (dJ A_25 Z_25 (Ht rfl)) (dp 1 rfl (cX (Ht rfl)) (dp 2 rfl (dJ A_3 Z_3 (Ht rfl)) ?_))))))))))
   refine cP 41 7 42 8 rfl (dW (Ht rfl) (Ht rfl) zo z6) (fV bC rfl (by kernel_rfl) (zF (zF (aJ (aJ (aV (ro rfl (dZ U_25 Z_60 (Ht rfl) (Ht rfl) rfl (dY (dU (d:=Qi.zero) zo))) (ro rfl (dJ A_60 Z_60 (Ht rfl)) (gQ Z_60 (Ht rfl) (Ht rfl) rfl (i:=0) rfl (aK rfl) rfl rfl (eX (fW rfl (fX (fK A_60 Z_60 rfl (i:=0) rfl rfl) ?_))))))))))))
   exact (jU (by rw [if_neg zo,if_pos h4.2]))
  ·have h4 : ¬ (x ≤ i ∧ x ≤ j) := by simpa using h3
   have h5 : Qi.ofInt (0 : Nat) = (if i < x then if j < x then gm a i j else Qi.zero else if x ≤ j then gm b (i - x) (j - x) else Qi.zero) := by
    by_cases e:i < x
    ·rw [if_pos e,if_neg zo]; rfl
    ·rw [if_neg e,if_neg zo]; rfl
   refine cU (bL (ts (ro rfl (cZ Tryz.call118 (wW (n:=0) (by decide) (by decide)) ⟨(cJ 0),trivial⟩) (gQ Z_60 (Ht rfl) (Ht rfl) rfl (i:=0) rfl (aK rfl) rfl rfl (eX (fW rfl (fX (fK A_60 Z_60 rfl (i:=0) rfl rfl) ?_)))))))
   exact (jU h5)
theorem a1f {z zb:List Qi} {a b:List (List Qi)} (ha:cF a z.length z.length) (hb:cF b zb.length zb.length) (hx:z.length ≤ 100) (hy:zb.length ≤ 100):bR Tryz.prog 29 [iK z a,iK zb b] (eD [iK (Ef z zb) (wL z zb a b),aP .i64 (Ee z.length zb.length)]):=by
 refine bR.intro Tryz.func29 rfl Tryz.ntmps29 rfl (fun cx=>(ts (rn rfl (fG (Ht rfl)) fun B2=>(rn rfl (fG (Ht rfl)) fun B3=>(rn rfl (eW (Ts:=[Is (.slice none 0 0),Is (.slice none 0 0)]) O_28 rfl (fun V=>aW zd (aW zd (aG)))) fun B4=>(ro rfl (cQ (cJ 0)) (eX (cK (Y.D_start (m:=12) [] (bY (Ei:=[(2,_)]) rfl rfl (bQ (bJ rfl rfl) bX) rfl rfl (dX rfl (eZ jV (Ht rfl) rfl)) (bY (Ei:=[(9,_)]) rfl rfl (bQ (bZ 0 rfl rfl) bX) rfl rfl (dX rfl (eY A_25 Z_25 (Ht rfl) (i:=0) rfl rfl)) ?_)))))))))))
 refine bY (Ei:=[(10,_)]) rfl rfl (bQ (bZ 1 rfl rfl) bX) rfl rfl (dX rfl (dG U_25 (Ht rfl) aC)) (bY (Ei:=[(2,_)]) rfl rfl (bQ (bJ rfl rfl) bX) rfl rfl (dX rfl (eZ jV (Ht rfl) rfl)) (bY (Ei:=[(12,_)]) rfl rfl (bQ (bZ 3 rfl rfl) bX) rfl rfl (dX rfl (eY A_25 Z_25 (Ht rfl) (i:=0) rfl rfl)) (bY (Ei:=[(13,_)]) rfl rfl (bQ (bZ 4 rfl rfl) bX) rfl rfl (dX rfl (dG U_25 (Ht rfl) aC)) ?_)))
 refine bY (Ei:=[(3,_)]) rfl rfl (bQ (bJ rfl rfl) bX) rfl rfl (dX rfl (eZ jV (Ht rfl) rfl)) (bY (Ei:=[(15,_)]) rfl rfl (bQ (bZ 6 rfl rfl) bX) rfl rfl (dX rfl (eY A_25 Z_25 (Ht rfl) (i:=1) rfl rfl)) (bY (Ei:=[(16,_)]) rfl rfl (bQ (bZ 7 rfl rfl) bX) rfl rfl (dX rfl (dG U_25 (Ht rfl) aC)) (bY (Ei:=[(14,_),(17,_)]) rfl rfl (bQ (bZ 5 rfl rfl) (bQ (bZ 8 rfl rfl) bX)) rfl rfl (dX rfl (dV (Ht rfl) (Ht rfl) z6)) ?_)))
 refine Y.D_newp (Ei:=[]) (fun bb=>box bb 3 [NT .i64 z.length]) 11 rfl rfl rfl bX rfl rfl (by kernel_rfl) (eW (Ts:=[Is (.int .i64 0)]) O_3 rfl (fun V=>aW zd (aG))) (Y.D_putN (Ei:=[(11,_)]) 10 rfl rfl rfl rfl rfl rfl (bQ (bZ 2 rfl rfl) bX) (fun bb=>a5B Z_3 (Ht rfl) (Ht rfl) (i:=0) rfl (aK rfl) rfl rfl) (Y.D_done bC rfl (by kernel_rfl) rfl (by simp [Y.okP]) rfl rfl (bU (bU (bU (bU (bU (bU (bU (bU (bU (bU (Y.F_newp (fun B6=>Y.F_putN (Y.F_nil ?_)))))))))))))))
 refine ra rfl (eX (cK (ts (rm rfl (ro rfl (gA (Ht rfl) (cJ 8)) (eX (dQ (Ht rfl) (fun hb1=>?_) (fun hb1=>?_))))))))
 ·have h2 : 8 < z.length + zb.length := by simpa using hb1
  have he:=Sl h2
  refine ts (ro rfl (aS.imp (mD ) mE) (gQ Z_28 (Ht rfl) (Ht rfl) rfl (i:=2) rfl (aK rfl) rfl rfl (ro rfl (cQ (cJ 4)) (eX (bN rfl (fX (fK A_28 Z_28 rfl (i:=2) rfl rfl) ?_) (fX (eU rfl) ?_))))))
  ·exact (fun v V h=>by rw [Ef,wL,dM,dM,he]; exact h)
  ·exact (bE he.symm)
 ·have h2 : ¬ 8 < z.length + zb.length := by simpa using hb1
  have he:=a5h h2
  refine cU (cK (gV (i:=0) (tt:=2) rfl rfl rZ (gV (i:=1) (tt:=3) rfl rfl rZ (gV (i:=3) (tt:=6) rfl rfl lE (cY (rm rfl (ro rfl (nS (γ:=Fin (z.length + zb.length) × Fin (z.length + zb.length)) (Ts:=fun x=>[NT .i64 x.1.1,NT .i64 x.2.1]) (U:=fun x=>aF (gm (oJ a b z.length zb.length) x.1.1 x.2.1)) Tryz.call117 (fun x=>Xe ha hb hx hy x.1.2 x.2.2) ⟨(Ht rfl),(Ht rfl),(Ht rfl),trivial⟩) (ro rfl (cZ Tryz.call110 (eQ (Gp (n:=z.length + zb.length) (f:=fun i j=>gm (oJ a b z.length zb.length) i j) zo) (kB (congrArg _ (mY (uJ a b z.length zb.length)).symm))) ⟨(Ht rfl),(Ht rfl),trivial⟩) ?_))))))))
  refine ra rfl (eX (ts (ro rfl (oZ jV (Ht rfl) rfl) (ro rfl (dJ A_25 Z_25 (Ht rfl)) (ro rfl (oZ jV (Ht rfl) rfl) (ro rfl (dJ A_25 Z_25 (Ht rfl)) (ro rfl (cE (xs:=[.tmp 26,.tmp 28]) U_26 Z_25 O_25 (cW (Ht rfl) (cW (Ht rfl) cG)) rfl rfl rfl) (ro rfl (cZ Tryz.call119 (eQ (Wz (ls:=[z,zb]) (by simp) (by simp; omega)) (kB (Us:=(z ++ zb).map aF) (by simp))) ⟨(Ht rfl),trivial⟩) ?_))))))))
  refine rm rfl (ro rfl (rQ (Ht rfl) (Ht rfl)) (gQ Z_28 (Ht rfl) (Ht rfl) rfl (i:=2) rfl (aK rfl) rfl rfl (ro rfl (cQ (cJ 0)) (eX (bN rfl (fX (fK A_28 Z_28 rfl (i:=2) rfl rfl) ?_) (fX (eU rfl) ?_))))))
  ·exact (fun v V h=>by rw [Ef,wL,dM,dM,he]; exact h)
  ·exact (bE he.symm)
theorem a1j {z:List Qi} {s:List (List Qi)} {q:Int} {o:List Int} (hl:z.length ≤ 1000) (ho:o.length ≤ 1000):bR Tryz.prog 181 [iK z s,aP .i64 q,kI 1 (o.map (aP .i64))] (aP .i64 (fI z.length q o)):=by
 refine bR.intro Tryz.func181 rfl Tryz.ntmps181 rfl (fun cx=>(ts (rn rfl (fG (Ht rfl)) fun B3=>(ro rfl (cQ (cJ 0)) (eX (cK (eG (ts (ro rfl (eJ A_28 Z_28 (Ht rfl) (i:=0) rfl rfl rfl) (rm rfl (ro rfl (cZ Tryz.call138 Jm ⟨(Ht rfl),(Ht rfl),trivial⟩) (ro rfl (dH (Ht rfl)) (ra rfl (eX (dQ (Ht rfl) (fun hb1=>?_) (fun hb1=>?_))))))))))))))))
 ·have h2 : ¬ (1 ≤ q ∧ q ≤ (z.length : Int)) := by simpa only [Bool.not_eq_true', decide_eq_false_iff_not] using hb1
  refine ts (ro rfl (cQ (cJ 1)) (eX (fW rfl (fX (eU rfl) ?_))))
  exact (bE (if_pos h2).symm)
 ·have h2 : 1 ≤ q ∧ q ≤ (z.length : Int) := by simpa using hb1
  refine ts (rm rfl (rm rfl (ro rfl (cZ Tryz.call145 (qR (l:=o) (v:=q) zo) ⟨(Ht rfl),(Ht rfl),trivial⟩) (ra rfl (eX (dQ (Ht rfl) (fun hb2=>?_) (fun hb2=>?_)))))))
  ·refine ts (ro rfl (cQ (cJ 8)) (eX (fW rfl (fX (eU rfl) ?_))))
   exact (bE (by rw [fI,if_neg (fun k=>k h2),if_pos hb2]; rfl))
  ·refine cU (bL (ts (ro rfl (cQ (cJ 0)) (eX (fW rfl (fX (eU rfl) ?_))))))
   exact (bE (by rw [fI,if_neg (fun k=>k h2),if_neg (by rw [hb2]; decide)]; rfl))
end
section
open Go Go.RowKit
theorem a4f {c cb:List (List Qi)} {x y i:Nat} (hc:cF c x x) (hi:i < x):(c.getD i []).map aF ++ ((tab (x + y) fun _=>Qi.zero).map aF).drop ((c.getD i []).map aF).length = (tH c cb x y i).map aF:=by
 have hr:=hc.row hi
 rw [List.length_map,hr,← List.map_drop,← List.map_append]
 congr 1
 refine List.ext_getElem (by rw [List.length_append,List.length_drop,hr,aD,tH,aD]; omega) fun j h1 h2=>?_
 have hj:j < x + y:=by rw [tH,aD] at h2; exact h2
 have e:(tH c cb x y i)[j] = if i < x then (if j < x then gm c i j else Qi.zero) else (if x ≤ j then gm cb (i - x) (j - x) else Qi.zero):=by simp [tH,tab]
 rw [e,if_pos hi]
 by_cases k:j < x
 ·rw [if_pos k,List.getElem_append_left zo]; simp [gm,List.getD,show j < (c[i]?.getD []).length by simpa [List.getD] using (by omega:j < (c.getD i []).length)]
 ·rw [if_neg k,List.getElem_append_right zo,List.getElem_drop]; simp [tab]
theorem a4g {c cb:List (List Qi)} {x y r:Nat} (hb:cF cb y y) (hr:r < y):((tab (x + y) fun _=>Qi.zero).map aF).take x ++ (cb.getD r []).map aF ++ ((tab (x + y) fun _=>Qi.zero).map aF).drop (x + ((cb.getD r []).map aF).length) = (tH c cb x y (x + r)).map aF:=by
 have hl:=hb.row hr
 rw [List.length_map,hl,← List.map_take,← List.map_drop,← List.map_append,← List.map_append,List.drop_eq_nil_of_le (by rw [aD]; exact Nat.le_refl _),List.append_nil]
 congr 1
 refine List.ext_getElem (by rw [List.length_append,List.length_take,hl,aD,tH,aD]; omega) fun j h1 h2=>?_
 have hj:j < x + y:=by rw [tH,aD] at h2; exact h2
 have e:(tH c cb x y (x + r))[j] = if x + r < x then (if j < x then gm c (x + r) j else Qi.zero) else (if x ≤ j then gm cb (x + r - x) (j - x) else Qi.zero):=by simp [tH,tab]
 rw [e,if_neg zo,Nat.add_sub_cancel_left]
 have htl:((tab (x + y) fun _=>Qi.zero).take x).length = x:=by rw [List.length_take,aD]; omega
 by_cases k:x ≤ j
 ·rw [if_pos k, List.getElem_append_right zo]
  simp only [htl]
  simp [gm,List.getD,show j - x < (cb[r]?.getD []).length by simpa [List.getD] using (by omega:j - x < (cb.getD r []).length)]
 ·rw [if_neg k,List.getElem_append_left zo,List.getElem_take]; simp [tab]
theorem Re {l : List Qi} (h : 1 ≤ l.length) : l.map aF ≠ [] := fun e => by
 have h2:=congrArg List.length e
 rw [List.length_map,List.length_nil] at h2; omega
theorem Xk {z zb:List Qi} {a b c cb:List (List Qi)} (ha:cF a z.length z.length) (hb:cF b zb.length zb.length) (hc:cF c z.length z.length) (hcb:cF cb zb.length zb.length) (hx:z.length ≤ 100) (hy:zb.length ≤ 100):bR Tryz.prog 49 [eH z a c,eH zb b cb] (eD [eH (Ef z zb) (wL z zb a b) (wL z zb c cb),aP .i64 (Ee z.length zb.length)]):=by
 have hcl:=hc.1
 have hbl:=hcb.1
 have hS:=a1f ha hb hx hy
 refine bR.intro Tryz.func49 rfl Tryz.ntmps49 rfl (fun cx=>(ts (rn rfl (fG (Ht rfl)) fun B2=>(rn rfl (fG (Ht rfl)) fun B3=>(rn rfl (eW (Ts:=[Is (.slice none 0 0),Is (.slice none 0 0),Is (.slice none 0 0)]) O_80 rfl (fun V=>aW zd (aW zd (aW zd (aG))))) fun B4=>(ro rfl (cQ (cJ 0)) (eX (ts (ro rfl (eZ mX (Ht rfl) rfl) (ro rfl (eJ A_28 Z_28 (Ht rfl) (i:=0) rfl rfl rfl) (ro rfl (eZ mX (Ht rfl) rfl) (ro rfl (eJ A_28 Z_28 (Ht rfl) (i:=1) rfl rfl rfl) ?_))))))))))))
 refine ro rfl (cZ Tryz.call29 hS ⟨(Ht rfl),(Ht rfl),trivial⟩) (rm rfl (ro rfl (dK (Ht rfl) rfl) (ro rfl (dK (Ht rfl) rfl) (rn rfl (eW (Ts:=[Is (.slice none 0 0),Is (.slice none 0 0)]) O_28 rfl (fun V=>aW zd (aW zd (aG)))) fun B6=>(gQ Z_28 (Ht rfl) (Ht rfl) rfl (i:=3) rfl (aK rfl) rfl rfl (ra rfl (eX (cK (ts (rm rfl (ro rfl (kM (Ht rfl) cV) (eX (dQ (Ht rfl) (fun hb1=>?_) (fun hb1=>?_))))))))))))))
 ·have he : Ee z.length zb.length ≠ 0 := by simpa using hb1
  refine ts (ro rfl (aS.imp (rS ) nK) (rm rfl (gQ Z_80 (Ht rfl) (Ht rfl) rfl (i:=2) rfl (aK rfl) rfl rfl (ra rfl (eX (bN rfl (fX (fK A_80 Z_80 rfl (i:=2) rfl rfl) ?_) (eU rfl)))))))
  exact (fun v V h=>by rw [Ef,wL,wL,dM,dM,dM,if_neg he,if_neg he,if_neg he]; exact h)
 ·have he : Ee z.length zb.length = 0 := by simpa using hb1
  have hz:Ef z zb = z ++ zb:=by rw [Ef,dM,if_pos he]
  have hs:wL z zb a b = oJ a b z.length zb.length:=by rw [wL,dM,if_pos he]
  have hq:wL z zb c cb = oJ c cb z.length zb.length:=by rw [wL,dM,if_pos he]
  rw [hz,hs,hq,he]
  obtain ⟨x,hxl⟩:∃ x,x = z.length:=⟨_,rfl⟩
  obtain ⟨y,hyl⟩:∃ y,y = zb.length:=⟨_,rfl⟩
  have hzl:(z ++ zb).length = x + y:=by rw [List.length_append,hxl,hyl]
  rw [← hxl,← hyl]
  rw [← hxl] at hc hcl hx
  rw [← hyl] at hcb hbl hy
  refine cU (cK (fZ (m:=3) (dp 6 rfl (eJ A_28 Z_28 (Ht rfl) (i:=3) rfl rfl rfl) (dq 25 0 rfl (aS.nat (cZ K_31 rT ⟨(Ht rfl),trivial⟩) hzl) (dp 6 rfl (eJ A_28 Z_28 (Ht rfl) (i:=3) rfl rfl rfl) (fV bC rfl (by kernel_rfl) (aJ (aJ (aJ (aV (ro rfl (aS.nat (cZ K_31 rT ⟨(Ht rfl),trivial⟩) hzl) (rn rfl (Fi Tryz.call146 (Jq (n:=x + y) zo) ⟨(Ht rfl),(Ht rfl),trivial⟩) fun B29=>(ra rfl (eX (cK (ts (ro rfl (eZ kJ (Ht rfl) rfl) ?_)))))))))))))))))
  refine ro rfl (eY A_26 Z_26 (Ht rfl) (i:=0) rfl rfl) (ro rfl (dG U_26 (Ht rfl) (by rw [List.length_map,hcl])) ?_)
  refine ro rfl (cX (cJ 0)) (eX (eG ?_))
  refine cA (fun (i : Nat) => i ≤ x) (fun (i : Nat) => x - i) (fun (i : Nat) => [(2, bO B2 0), (3, bO B3 0), (4, bO B4 0), (6, bO B6 0), (8, Is (.slice (some ⟨B29, 0, none⟩) (x + y) (x + y))), (31, aR c), (32, NT .i64 x), (33, NT .i64 i)]) (fun (i : Nat) => [box B2 80 [aM z, aR a, aR c], box B3 80 [aM zb, aR b, aR cb], box B4 80 [Is (.slice none 0 0), Is (.slice none 0 0), Is (.slice none 0 0)], box B6 28 [aM (z ++ zb), aR (oJ a b x y)], lR jB B29 25 60 5 (bM aF (kV (tH c cb x y) (tab (x + y) fun _ => Qi.zero) (x + y) i))]) 0 (Nat.zero_le _)
   (zS rfl) (aU (aA rfl) (aU (aA rfl) (aU (aA rfl) (aU (aA rfl) (aU (bI (by rw [Sv,iL])) aY))))) (fun i hi=>?_)
  refine ts (ro rfl (gX (Ht rfl) (Ht rfl)) (eX (cK (dQ (Ht rfl) (fun hd=>?_) (fun hd=>?_)))))
  ·have hdn : i < x := by simp only [decide_eq_true_eq] at hd; omega
   have hcr:=hc.row hdn
   refine mV 4 (i) rfl (kQ zo) (fun v0 hv0=>(cU (cK (eG (ts (rm rfl (ro rfl (dZ U_26 Z_25 (Ht rfl) (Ht rfl) rfl (dY (dU (d:=[]) zo))) (ro rfl (dJ A_25 Z_25 (Ht rfl)) (ra rfl (ra rfl (eX (cY (rm rfl (rm rfl (ro rfl (fY U_26 Z_25 (Ht rfl) (Ht rfl) rfl zo (by rw [Nat.mul_one,Nat.zero_add])) ?_)))))))))))))))
   refine ro rfl (iC A_25 Z_25 (Ht rfl) (j:=4) rfl) (rm rfl (a10 U_25 Z_60 (i:=5) rfl (Ht rfl) (Ht rfl) (Re zo) (by rw [List.length_map,List.length_map,aD]; omega) (fun T hT=>by obtain ⟨x,_,rfl⟩:=List.mem_map.1 hT; exact El.ag rfl) rfl ?_))
   refine eX (bL ?_)
   rw [a4f (cb:=cb) hc hdn]
   refine dS 4 5 rfl rfl (by decide) (by simp only [bM,List.length_map,dE]; omega) ?_
   refine cY (ro rfl (dV (Ht rfl) (cJ 1) z6) (rm rfl (eX (bS [0,1,2,3,4] rfl (by decide) (fU (i + 1) hdn zo (zS rfl) (aU (aA rfl) (aU (aA rfl) (aU (aA rfl) (aU (aA rfl) (aU (bI (by rw [eN,← jN (f:=tH c cb x y)])) aY))))))))))
  ·have hdn : i = x := by simp only [decide_eq_false_iff_not] at hd; omega
   rw [hdn]
   refine gW rfl (cK (ts (ro rfl (eZ kJ (Ht rfl) rfl) (ro rfl (eY A_26 Z_26 (Ht rfl) (i:=1) rfl rfl) (ro rfl (dG U_26 (Ht rfl) (by rw [List.length_map,hbl])) ?_)))))
   refine ro rfl (cX (cJ 0)) (eX (eG (bS [0,1,2,3,4] rfl (by decide) ?_)))
   refine cA (fun (r : Nat) => r ≤ y) (fun (r : Nat) => y - r) (fun (r : Nat) => [(2, bO B2 0), (3, bO B3 0), (4, bO B4 0), (6, bO B6 0), (8, Is (.slice (some ⟨B29, 0, none⟩) (x + y) (x + y))), (46, aR cb), (47, NT .i64 y), (48, NT .i64 r)]) (fun (r : Nat) => [box B2 80 [aM z, aR a, aR c], box B3 80 [aM zb, aR b, aR cb], box B4 80 [Is (.slice none 0 0), Is (.slice none 0 0), Is (.slice none 0 0)], box B6 28 [aM (z ++ zb), aR (oJ a b x y)], lR jB B29 25 60 5 (bM aF (kV (tH c cb x y) (tab (x + y) fun _ => Qi.zero) (x + y) (x + r)))]) 0 (Nat.zero_le _)
    (zS rfl) (aU (aA rfl) (aU (aA rfl) (aU (aA rfl) (aU (aA rfl) (aU (bI rfl) aY))))) (fun r hr=>?_)
   refine ts (ro rfl (gX (Ht rfl) (Ht rfl)) (eX (cK (dQ (Ht rfl) (fun hd2=>?_) (fun hd2=>?_)))))
   ·have hdn2 : r < y := by simp only [decide_eq_true_eq] at hd2; omega
    have hcr:=hcb.row hdn2
    refine mV 4 ((x + r)) rfl (kQ zo) (fun v0 hv0=>(cU (cK (eG (ts (rm rfl (ro rfl (dZ U_26 Z_25 (Ht rfl) (Ht rfl) rfl (dY (dU (d:=[]) zo))) (ro rfl (dJ A_25 Z_25 (Ht rfl)) (ra rfl (ra rfl (eX (fZ (m:=13) (dp 8 rfl (cX (Ht rfl)) (dp 2 rfl (eZ kJ (Ht rfl) rfl) (dq 54 1 rfl (eY A_26 Z_26 (Ht rfl) (i:=0) rfl rfl) (dq 55 2 rfl (dG U_26 (Ht rfl) (by rw [List.length_map,hcl])) ?_))))))))))))))))
    refine dp 11 rfl (cX (Ht rfl)) (cP 56 3 57 4 rfl (dV (Ht rfl) (Ht rfl) z6) (cP 53 0 58 5 rfl (fY U_26 Z_25 (Ht rfl) (Ht rfl) rfl zo (by rw [Nat.mul_one,Nat.zero_add])) ?_))
    refine dq 59 6 rfl (iC A_25 Z_25 (Ht rfl) (j:=4) rfl) (dp 2 rfl (eZ kJ (Ht rfl) rfl) (dq 61 8 rfl (eY A_26 Z_26 (Ht rfl) (i:=0) rfl rfl) (dq 62 9 rfl (dG U_26 (Ht rfl) (by rw [List.length_map,hcl])) ?_)))
    refine cP 60 7 63 10 rfl (Ld U_25 Z_60 (Ht rfl) (Ht rfl) rfl (i:=5) rfl (by rw [List.length_map,aD]; omega)) ?_
    refine dp 12 rfl (cX (Ht rfl)) (fV bC rfl (by kernel_rfl) (zF (zF (zF (aJ (aV (a0Z U_25 Z_60 (i:=5) rfl (Ht rfl) (Ht rfl) (Re zo) (by rw [List.length_map,List.length_map,aD]; omega) (fun T hT=>by obtain ⟨x,_,rfl⟩:=List.mem_map.1 hT; exact El.ag rfl) rfl ?_)))))))
    refine eX (bL ?_)
    rw [a4g (c:=c) hcb hdn2]
    refine dS 4 5 rfl rfl (by decide) (by simp only [bM,List.length_map,dE]; omega) ?_
    refine cY (ro rfl (dV (Ht rfl) (cJ 1) z6) (rm rfl (eX (bS [0,1,2,3,4] rfl (by decide) (fU (r + 1) hdn2 zo (zS rfl) (aU (aA rfl) (aU (aA rfl) (aU (aA rfl) (aU (aA rfl) (aU (bI (by rw [eN,jN (f:=tH c cb x y)]; rfl)) aY))))))))))
   ·have hdn2 : r = y := by simp only [decide_eq_false_iff_not] at hd2; omega
    rw [hdn2,jW,show tab (x + y) (tH c cb x y) = oJ c cb x y from rfl]
    refine gW rfl (gV (i:=4) (tt:=8) rfl rfl (gY (s:=5) (M:=oJ c cb x y) (aD _ _).symm) (ts (ro rfl (eJ A_28 Z_28 (Ht rfl) (i:=3) rfl rfl rfl) (rm rfl (ro rfl (pL (Ht rfl) (Ht rfl)) (gQ Z_80 (Ht rfl) (Ht rfl) rfl (i:=2) rfl (aK rfl) rfl rfl (ro rfl (cQ (cJ 0)) (eX ?_))))))))
    exact bN rfl (fK A_80 Z_80 rfl (i:=2) rfl rfl) (eU rfl)
end
section
open Go Go.RowKit
theorem Xi {z:List Qi} {S:List (List Qi)} {js:List (Int × Int)} {L:Nat} (hfz:bP z L) (hL:1 ≤ L) (hLb:L ≤ 1000000) (hz:z.length ≤ 1000) (hj:js.length ≤ 100):bR Tryz.prog 120 [iK z S,Vu js] (eD [kI 1 ((jeL z js).map (aP .i64)),aP .i64 (Eb z js)]):=by
 refine bR.intro Tryz.func120 rfl Tryz.ntmps120 rfl (fun cx=>(ts (rn rfl (fG (Ht rfl)) fun B2=>(ro rfl (cQ cV) (ro rfl (cQ (cJ 0)) (eX (ts (ro rfl (cQ cV) (eX (cK (cK (qZ 3 1 (cY (rm rfl (ro rfl (dG U_65 (Ht rfl) aC) (ro rfl (cX (cJ 0)) (eX (eG ?_))))))))))))))))))
 refine fO (fun (k : Nat) (vG : Value) => k ≤ js.length ∧ ∀ j, j < k → Ab z js j = 0) (fun (k : Nat) (vG : Value) => js.length - k) (fun (k : Nat) (vG : Value) => [(1, Vu js), (2, bO B2 0), (6, Is vG), (12, Vu js), (13, NT .i64 js.length), (14, NT .i64 k)]) (fun (k : Nat) (vG : Value) => [box B2 28 [aM z, aR S], bF 3 1 vG ((nE (js.take k)).map (aP .i64))]) 0 _ ⟨Nat.zero_le _, fun j h => by omega⟩
  (zS rfl) (aU (aA rfl) (aU (aO rfl) aY)) (fun k vG ⟨hk,h0⟩=>?_)
 refine ts (ro rfl (gX (Ht rfl) (Ht rfl)) (eX (cK (dQ (Ht rfl) (fun hd=>?_) (fun hd=>?_)))))
 ·have hkn : k < js.length := by simp only [decide_eq_true_eq] at hd; omega
  have hjk:=oU (js.take k)
  refine cU (cK (eG (ts (ro rfl (dZ U_65 Z_64 (Ht rfl) (Ht rfl) rfl (dY (dU (d:=(0,0)) hkn))) (ro rfl (dJ Tryz.isAgg64 Z_64 (Ht rfl)) (rn rfl (eW (Ts:=[Is (.int .i64 0),Is (.int .i64 0)]) Tryz.zeroValue64 rfl (fun V=>aW zd (aW zd (aG)))) fun B8=>(gQ Z_64 (Ht rfl) (Ht rfl) rfl (i:=2) rfl (aK rfl) rfl rfl (eX (cK (cK (gV (i:=2) (tt:=8) rfl rfl rZ (cY (ro rfl (dJ Tryz.isAgg64 Z_64 (Ht rfl)) ?_)))))))))))))
  refine ro rfl (cX (cJ 0)) (eX (eG (bS [0,1] rfl (by decide) ?_)))
  refine fO (fun (i : Nat) (vI : Value) => i ≤ 2 ∧ ∀ x, x < i → Hv z js k x = 0) (fun (i : Nat) (vI : Value) => 2 - i) (fun (i : Nat) (vI : Value) => [(1, Vu js), (2, bO B2 0), (6, Is vI), (8, PT (JT (kL js k))), (12, Vu js), (13, NT .i64 js.length), (14, NT .i64 k), (18, JT (kL js k)), (19, NT .i64 i)]) (fun (i : Nat) (vI : Value) => [box B2 28 [aM z, aR S], bF 3 1 vI ((nE (js.take k) ++ (Lg (kL js k)).take i).map (aP .i64))]) 0 _ ⟨Nat.zero_le _, fun x h => by omega⟩
   (zS rfl) (aU (aA rfl) (aU (aO (by rw [List.take_zero,List.append_nil])) aY)) (fun i vI ⟨hi,h1⟩=>?_)
  refine ts (ro rfl (gX (Ht rfl) (cJ 2)) (eX (cK (dQ (Ht rfl) (fun he=>?_) (fun he=>?_)))))
  ·have hi2 : i < 2 := by simp only [decide_eq_true_eq] at he; omega
   have hol:(nE (js.take k) ++ (Lg (kL js k)).take i).length ≤ 300:=by rw [List.length_append,hjk,List.length_take,List.length_take]; omega
   refine cU (cK (eG (ts (ro rfl (Ur U_64 Z_3 A_3 (Ht rfl) (Ht rfl) zo (a2R hi2)) (ra rfl (eX (cK (ts (ro rfl (eJ A_28 Z_28 (Ht rfl) (i:=0) rfl rfl rfl) (rm rfl (rm rfl (ro rfl (a0b Tryz.call181 (a1j (z:=z) (s:=S) (q:=(Lg (kL js k)).getD i 0) (o:=nE (js.take k) ++ (Lg (kL js k)).take i) hz zo) (j:=1) (tt:=24) rfl rfl eR (fun _ _ _ h=>h) ⟨(Ht rfl),(Ht rfl),(Ht rfl),trivial⟩) (ra rfl (eX (ts (rm rfl (ro rfl (kM (Ht rfl) cV) (eX (dQ (Ht rfl) (fun hf=>?_) (fun hf=>?_))))))))))))))))))))
   ·have h3 : Hv z js k i ≠ 0 := by simp only [Bool.not_eq_true', decide_eq_false_iff_not] at hf; exact hf
    have h4:=a67 hi2 h1 h3
    have h5:Ck z js = Hv z js k i:=(uS h0 (by rw [h4]; exact h3) hkn).trans h4
    have h6:Eb z js = Hv z js k i:=(Zk (by rw [h5]; exact h3)).trans h5
    refine ts (rm rfl (ro rfl (cQ cV) (ra rfl (eX (bN rfl (fX (eU rfl) ?_) (fX (eU rfl) ?_))))))
    ·exact (fun v V h=>by rw [jeL,dM,h6,if_neg h3]; exact iR v V h)
    ·exact (bE h6.symm)
   ·have h3 : Hv z js k i = 0 := by simp only [Bool.not_eq_false', decide_eq_true_eq] at hf; exact hf
    refine cU (cY (rm rfl (rm rfl (ro rfl (cE (xs:=[.tmp 30]) U_103 Z_3 O_3 (cW (Ht rfl) cG) rfl rfl rfl) (mT (inf:=Tryz.t3) Bk Hk rfl rfl rfl (Ht rfl) (Ht rfl) (i:=1) rfl (by simp) (fun T hT=>by simp at hT; subst hT; exact El.one) (by show _ * 8 ≤ _; simp only [List.length_map,List.length_cons,List.length_nil]; omega) (by simp only [List.length_map,List.length_cons,List.length_nil]; omega) rfl (fun v2=>?_))))))
    refine ra rfl (eX (bL (cY (ro rfl (dV (Ht rfl) (cJ 1) z6) (rm rfl (eX ?_))))))
    refine fU (i + 1, v2) ⟨hi2, fun x hx => by
      by_cases e:x = i
      ·rw [e]; exact h3
      ·exact h1 x zo⟩ (by dsimp only; omega) (zS rfl) (aU (aA rfl) (aU (aO (by rw [a0j hi2,← List.append_assoc,List.map_append (l₁:=nE (js.take k) ++ (Lg (kL js k)).take i)]; rfl)) aY))
  ·obtain rfl : i = 2 := by simp only [decide_eq_false_iff_not] at he; omega
   obtain ⟨⟨p1,p2⟩,⟨p3,p4⟩,h3⟩:=a68 h1
   have hrow:nE (js.take (k + 1)) = nE (js.take k) ++ (Lg (kL js k)).take 2:=Kn hkn
   haveI g1:=hfz.get hL ((kL js k).1 - 1).toNat
   haveI g2:=hfz.get hL ((kL js k).2 - 1).toNat
   refine gW rfl (cK (fZ (m:=14) (dp 2 rfl (eZ jV (Ht rfl) rfl) (dq 34 0 rfl (eY A_25 Z_25 (Ht rfl) (i:=0) rfl rfl) (dp 8 rfl (Rp U_64 Z_3 (Ht rfl) cV rfl (by decide) rfl) (dq 36 2 rfl (dJ A_3 Z_3 (Ht rfl)) (dq 37 3 rfl (jE (Ht rfl) cV (r:=((((kL js k).1 - 1).toNat:Nat):Int)) ((Du (z:=(kL js k).1 - 1) zo).trans zo)) ?_)))))))
   refine cP 35 1 38 4 rfl (dZ U_25 Z_60 (Ht rfl) (Ht rfl) rfl (dY (dU (d:=Qi.zero) zo))) (dq 39 5 rfl (dJ A_60 Z_60 (Ht rfl)) (dp 2 rfl (eZ jV (Ht rfl) rfl) (dq 41 7 rfl (eY A_25 Z_25 (Ht rfl) (i:=0) rfl rfl) (dp 8 rfl (Rp U_64 Z_3 (Ht rfl) cV rfl (by decide) rfl) (dq 43 9 rfl (dJ A_3 Z_3 (Ht rfl)) (dq 44 10 rfl (jE (Ht rfl) cV (r:=((((kL js k).2 - 1).toNat:Nat):Int)) ((Du (z:=(kL js k).2 - 1) zo).trans zo)) ?_))))))
   refine cP 42 8 45 11 rfl (dZ U_25 Z_60 (Ht rfl) (Ht rfl) rfl (dY (dU (d:=Qi.zero) zo))) (dq 46 12 rfl (dJ A_60 Z_60 (Ht rfl)) (fV bC rfl (by kernel_rfl) (zF (zF (zF (aJ (aJ (aV (ro rfl (cZ Tryz.call100 (Xd (x:=gv z ((kL js k).1 - 1).toNat) (y:=gv z ((kL js k).2 - 1).toNat) (L:=L) (M:=L) zo zo) ⟨(Ht rfl),(Ht rfl),trivial⟩) (ro rfl (dH (Ht rfl)) ?_))))))))))
   refine eX (dQ (Ht rfl) (fun hg=>?_) (fun hg=>?_))
   ·have h4 : Ab z js k = 40 := by rw [h3, if_neg (by simpa using hg)]
    have h5:Ck z js = 40:=(uS h0 (by rw [h4]; decide) hkn).trans h4
    have h6:Eb z js = 40:=(Zk (by rw [h5]; decide)).trans h5
    refine ts (ro rfl (cQ cV) (ro rfl (cQ (cJ 40)) (eX (bN rfl (fX (eU rfl) ?_) (fX (eU rfl) ?_)))))
    ·exact (fun v V h=>by rw [jeL,dM,h6]; exact iR v V h)
    ·exact (bE h6.symm)
   ·have h4 : Ab z js k = 0 := by rw [h3, if_pos (by simpa using hg)]
    refine cU (bL (cY (ro rfl (dV (Ht rfl) (cJ 1) z6) (rm rfl (eX ?_)))))
    refine fU (k + 1, vI) ⟨hkn, fun j h => by
      by_cases e:j = k
      ·rw [e]; exact h4
      ·exact h0 j zo⟩ (by dsimp only; omega) (zS rfl) (aU (aA rfl) (aU (aO (by rw [hrow])) aY))
 ·obtain rfl : k = js.length := by simp only [decide_eq_false_iff_not] at hd; omega
  have h2:Ck z js = 0:=kG h0
  have hll:=oU js
  rw [List.take_length]
  refine gW rfl (cK (ts (rm rfl (ro rfl (nT U_103 (Ht rfl) (i:=1) rfl aC) (ro rfl (gA (Ht rfl) (cJ 0)) (rm rfl (fQ rfl rfl (eK rfl rfl (Ht rfl) (fun h=>cX (Ht rfl))) (fQ rfl rfl (eK rfl rfl (Ht rfl) (fun h=>nT U_103 (fJ rfl h) (i:=1) rfl aC)) (fQ rfl rfl (eK rfl rfl (Ht rfl) (fun h=>eZ jV (Ht rfl) rfl)) (fQ rfl rfl (eK rfl rfl (Ht rfl) (fun h=>eY A_25 Z_25 (fJ rfl h) (i:=0) rfl rfl)) (fQ rfl rfl (eK rfl rfl (Ht rfl) (fun h=>dG U_25 (fJ rfl h) aC)) ?_)))))))))))
  refine fQ rfl rfl (eK rfl rfl (Ht rfl) (fun h=>eB (fJ rfl h) (fJ rfl h))) (ro rfl (fC (Ht rfl) (fun h=>(fJ rfl h))) (eX (dQ (Ht rfl) (fun hc=>?_) (fun hc=>?_))))
  ·have h3 : 0 < 2 * js.length ∧ 2 * js.length = z.length := by simpa [hll] using hc
   have h6:Eb z js = 4:=a29 h2 h3
   refine ts (ro rfl (cQ cV) (ro rfl (cQ (cJ 4)) (eX (bN rfl (fX (eU rfl) ?_) (fX (eU rfl) ?_)))))
   ·exact (fun v V h=>by rw [jeL,dM,h6]; exact iR v V h)
   ·exact (bE h6.symm)
  ·have h3 : ¬ (0 < 2 * js.length ∧ 2 * js.length = z.length) := by simpa [hll] using hc
   have h6:Eb z js = 0:=a63 h2 h3
   refine gV (i:=1) (tt:=6) rfl rfl eR (cU (ts (rm rfl (ra rfl (ro rfl (cQ (cJ 0)) (eX (bN rfl (fX (eU rfl) ?_) (fX (eU rfl) ?_))))))))
   ·exact (kB (by rw [jeL,dM,h6]; rfl))
   ·exact (bE h6.symm)
end
section
open Go Go.RowKit
theorem a6E {x : Nat} (h : x < 20) : IntKind.wrap .i64 ((BitVec.ofInt (IntKind.bits .i64) (x : Int) ^^^ BitVec.ofInt (IntKind.bits .i64) ((1 : Nat) : Int)).toNat : Nat) = ((kW x : Nat) : Int) :=
 (by decide +kernel:∀ x:Nat,x < 20 → IntKind.wrap .i64 ((BitVec.ofInt (IntKind.bits .i64) (x:Int) ^^^ BitVec.ofInt (IntKind.bits .i64) ((1:Nat):Int)).toNat:Nat) = ((kW x:Nat):Int)) x h
theorem a1k {z:List Qi} {S:List (List Qi)} {js:List (Int × Int)} {x:Nat} (hS:cF S z.length z.length) (hd:Ck z js = 0) (hx:x < 2 * js.length) (hm:2 * js.length ≤ 18) (hz:z.length ≤ 1000):bR Tryz.prog 121 [NT .i64 x,PT (iK z S),PT (fF ((qB js).map Nat.succ))] (aM (S.getD (gq (dB js) (kW x)) [])):=by
 have hpx:kW x < 2 * js.length:=sI hx
 have hgq:=(Fh hd).lt (kW x) hpx
 have hSl:=hS.1
 have hJl:=Au js
 have hat:gE (qB js) (kW x) = gq (dB js) (kW x):=Hn hpx
 refine bR.intro Tryz.func121 rfl Tryz.ntmps121 rfl (fun cx=>(ts (ro rfl (cQ cV) (eX (cK (fZ (m:=8) (dp 1 rfl (oZ kZ (Ht rfl) rfl) (dq 5 0 rfl (dJ A_26 Z_26 (Ht rfl)) (dp 2 rfl (dJ A_103 Z_103 (Ht rfl)) (dp 0 rfl (cX (Ht rfl)) (dq 8 3 rfl (Rq (Ht rfl) (cJ 1) (a6E zo)) (cP 7 2 9 4 rfl (dZ U_103 Z_3 (Ht rfl) (Ht rfl) rfl (dY (qO zo))) (dq 10 5 rfl (dJ A_3 Z_3 (Ht rfl)) (dq 11 6 rfl (aS.nat (dW (Ht rfl) (cJ 1) zo z6) (show gE (qB js) (kW x) + 1 - 1 = gq (dB js) (kW x) by omega)) ?_))))))))))))))
 refine fV bC rfl (by kernel_rfl) (zF (zF (aV (ro rfl (dZ U_26 Z_25 (Ht rfl) (Ht rfl) rfl (dY (dU (d:=[]) zo))) (ro rfl (dJ A_25 Z_25 (Ht rfl)) (ra rfl (eX ?_)))))))
 exact fW rfl (eU rfl)
theorem a4d {x y:Nat}:bR Tryz.prog 123 [NT .i64 x,NT .i64 y] (aF (if x = y then Qi.ofInt 1 else Qi.ofInt 0)):=by
 refine bR.intro Tryz.func123 rfl Tryz.ntmps123 rfl (fun cx=>(ts (rn rfl (eW (Ts:=[Is (.bool false),Is (.slice none 0 0),Is (.bool false),Is (.slice none 0 0),Is (.slice none 0 0)]) O_60 rfl (fun V=>aW zd (aW zd (aW zd (aW zd (aW zd (aG))))))) fun B4=>(eX (cK (ts (rm rfl (rm rfl (ro rfl (eB (Ht rfl) (Ht rfl)) (eX (dQ (Ht rfl) (fun hb=>?_) (fun hb=>?_))))))))))))
 ·have h2 : x = y := by simpa using hb
  refine ts (ro rfl (cZ Tryz.call118 (wW (n:=1) (by decide) (by decide)) ⟨(cJ 1),trivial⟩) (gQ Z_60 (Ht rfl) (Ht rfl) rfl (i:=0) rfl (aK rfl) rfl rfl (eX (fW rfl (fX (fK A_60 Z_60 rfl (i:=0) rfl rfl) ?_)))))
  exact (jU (if_pos h2).symm)
 ·have h2 : ¬ x = y := by simpa using hb
  refine cU (ts (ro rfl (cZ Tryz.call118 (wW (n:=0) (by decide) (by decide)) ⟨(cJ 0),trivial⟩) (gQ Z_60 (Ht rfl) (Ht rfl) rfl (i:=0) rfl (aK rfl) rfl rfl (eX (fW rfl (fX (fK A_60 Z_60 rfl (i:=0) rfl rfl) ?_))))))
  exact (jU (if_neg h2).symm)
theorem a1l {z:List Qi} {S:List (List Qi)} {js:List (Int × Int)} {x y L:Nat} (hS:cF S z.length z.length) (hf:aN S L) (hL:1 ≤ L) (hLb:L ≤ 1000000) (hd:Ck z js = 0) (hx:x < 2 * js.length) (hy:y < 2 * js.length) (hm:2 * js.length ≤ 18) (hz:z.length ≤ 1000):bR Tryz.prog 122 [NT .i64 x,NT .i64 y,PT (Fx Tryz.prog (Fin (2 * js.length)) (fun x=>[NT .i64 x.1]) (fun x=>aM (S.getD (gq (dB js) (kW x.1)) []))),PT (fF ((qB js).map Nat.succ))] (aF ((if x = y then Qi.ofInt 1 else Qi.ofInt 0) - gm S (gq (dB js) (kW x)) (gq (dB js) y))):=by
 have hpx:kW x < 2 * js.length:=sI hx
 have hgx:=(Fh hd).lt (kW x) hpx
 have hgy:=(Fh hd).lt y hy
 have hSl:=hS.1
 have hSr:=hS.row hgx
 have hJl:=Au js
 have hat:gE (qB js) y = gq (dB js) y:=Hn hy
 haveI g1:aE (gm S (gq (dB js) (kW x)) (gq (dB js) y)) L:=hf.get hL _ _
 haveI g2 : aE (if x = y then Qi.ofInt 1 else Qi.ofInt 0) 1 := by
  split
  ·exact iP
  ·exact (aE.zero (Nat.le_refl 1):aE Qi.zero 1)
 refine bR.intro Tryz.func122 rfl Tryz.ntmps122 rfl (fun cx=>(ts (rn rfl (eW (Ts:=[Is (.bool false),Is (.slice none 0 0),Is (.bool false),Is (.slice none 0 0),Is (.slice none 0 0)]) O_60 rfl (fun V=>aW zd (aW zd (aW zd (aW zd (aW zd (aG))))))) fun B6=>(eX (cK (fZ (m:=14) (dp 0 rfl (cX (Ht rfl)) (dp 1 rfl (cX (Ht rfl)) (cP 7 0 8 1 rfl (cZ Tryz.call123 (a4d (x:=x) (y:=y)) ⟨(Ht rfl),(Ht rfl),trivial⟩) (dq 9 2 rfl (aT bD (Ht rfl)) ?_))))))))))
 refine dp 2 rfl (dJ Tryz.isAgg182 Tryz.sizeOf182 (Ht rfl)) (dp 0 rfl (cX (Ht rfl)) (cP 11 4 12 5 rfl (kR (Ts:=fun x:Fin (2 * js.length)=>[NT .i64 x.1]) ⟨x,hx⟩ (Ht rfl) ⟨(Ht rfl),trivial⟩) (dp 3 rfl (dJ A_103 Z_103 (Ht rfl)) (dp 1 rfl (cX (Ht rfl)) (cP 14 7 15 8 rfl (dZ U_103 Z_3 (Ht rfl) (Ht rfl) rfl (dY (qO zo))) (dq 16 9 rfl (dJ A_3 Z_3 (Ht rfl)) (dq 17 10 rfl (aS.nat (dW (Ht rfl) (cJ 1) zo z6) (show gE (qB js) y + 1 - 1 = gq (dB js) y by omega)) ?_)))))))
 refine cP 13 6 18 11 rfl (dZ U_25 Z_60 (Ht rfl) (Ht rfl) rfl (dY (dU (d:=Qi.zero) (show gq (dB js) y < (S.getD (gq (dB js) (kW x)) []).length by omega)))) (dq 19 12 rfl (dJ A_60 Z_60 (Ht rfl)) (fV bC rfl (by kernel_rfl) (zF (zF (zF (aJ (aJ (aV (ro rfl (aL iA K_69 (qC (x:=if x = y then Qi.ofInt 1 else Qi.ofInt 0) (y:=gm S (gq (dB js) (kW x)) (gq (dB js) y)) (L:=1) (M:=L) zo) (Ht rfl) ⟨(Ht rfl),trivial⟩) ?_)))))))))
 refine gQ Z_60 (Ht rfl) (Ht rfl) rfl (i:=0) rfl (aK rfl) rfl rfl (eX ?_)
 exact fW rfl (fK A_60 Z_60 rfl (i:=0) rfl rfl)
theorem a41 {z:List Qi} {S:List (List Qi)} {js:List (Int × Int)} {L:Nat} (hS:cF S z.length z.length) (hf:aN S L) (hfz:bP z L) (hL:1 ≤ L) (hLb:L ≤ 1000000) (hz:z.length ≤ 18) (hj:js.length ≤ 100) (hg:∀ k,2 * k < z.length → 6 * mS (L + 2) (2 * k) + 4 ≤ 17592186044415) (hx:∀ k,2 * k < z.length → zM (mS (L + 2) (2 * k)) (2 * k + 1) ≤ 100000000000):bR Tryz.prog 32 [iK z S,Vu js] (eD [iK (Hu z S js) (Mc z S js),aP .i64 (yX z S js)]):=by
 have hll:=oU js
 have hJl:=Au js
 have hSl:=hS.1
 refine bR.intro Tryz.func32 rfl Tryz.ntmps32 rfl (fun cx=>(ts (rn rfl (fG (Ht rfl)) fun B2=>(rn rfl (eW (Ts:=[Is (.slice none 0 0),Is (.slice none 0 0)]) O_28 rfl (fun V=>aW zd (aW zd (aG)))) fun B4=>(ro rfl (cQ (cJ 0)) (eX (ts (ro rfl (eJ A_28 Z_28 (Ht rfl) (i:=0) rfl rfl rfl) (rm rfl (ro rfl (cZ Tryz.call120 (Xi (z:=z) (S:=S) (js:=js) (L:=L) hfz hL zo zo hj) ⟨(Ht rfl),(Ht rfl),trivial⟩) (rm rfl (ro rfl (dK (Ht rfl) rfl) ?_))))))))))))
 refine ro rfl (dK (Ht rfl) rfl) (rn rfl (eW (Ts:=[Is (.slice none 0 0)]) Tryz.zeroValue103 rfl (fun V=>aW zd (aG))) fun B6=>(pX Z_103 (Ht rfl) (Ht rfl) (i:=2) rfl (aK rfl) rfl (ra rfl (eX (cK (ts (rm rfl (ro rfl (kM (Ht rfl) cV) (eX (dQ (Ht rfl) (fun hc=>?_) (fun hc=>?_)))))))))))
 ·have h3 : Eb z js ≠ 0 := by simpa using hc
  have he:yX z S js = Eb z js:=a65 h3
  refine ts (ro rfl (aS.imp (mD ) mE) (rm rfl (gQ Z_28 (Ht rfl) (Ht rfl) rfl (i:=1) rfl (aK rfl) rfl rfl (ra rfl (eX (bN rfl (fX (fK A_28 Z_28 rfl (i:=1) rfl rfl) ?_) (fX (eU rfl) ?_)))))))
  ·exact (fun v V h=>by rw [Hu,Mc,dM,dM,he,if_neg h3,if_neg h3]; exact h)
  ·exact (bE he.symm)
 ·have h3 : Eb z js = 0 := by simpa using hc
  obtain ⟨hd,hne⟩:=Hl h3
  have hok:jeL z js = nE js:=by rw [jeL,dM,if_pos h3]
  rw [hok]
  refine cU (cK (ts (ro rfl (eY A_103 Z_103 (Ht rfl) (i:=2) rfl rfl) (ro rfl (dG U_103 (Ht rfl) (by rw [List.length_map,hll])) ?_))))
  refine ro rfl (eB (Ht rfl) (cJ 0)) (eX (dQ (Ht rfl) (fun hc2=>?_) (fun hc2=>?_)))
  ·have h4 : js.length = 0 := by simp only [decide_eq_true_eq] at hc2; omega
   have he:yX z S js = 0:=a2c h3 h4
   refine ts (ro rfl (eJ A_28 Z_28 (Ht rfl) (i:=0) rfl rfl rfl) (gQ Z_28 (Ht rfl) (Ht rfl) rfl (i:=1) rfl (aK rfl) rfl rfl (ro rfl (cQ (cJ 0)) (eX (bN rfl (fX (fK A_28 Z_28 rfl (i:=1) rfl rfl) ?_) (fX (eU rfl) ?_))))))
   ·exact (fun v V h=>by rw [Hu,Mc,dM,dM,he,if_pos h4,if_pos h4]; exact h)
   ·exact (bE he.symm)
  ·have h4 : js.length ≠ 0 := by simp only [decide_eq_false_iff_not] at hc2; omega
   have hj:=Fh hd
   have hjl:=Qy hd
   have hm1:2 * js.length < z.length:=by omega
   obtain ⟨m,hm⟩:∃ m,m = 2 * js.length:=⟨_,rfl⟩
   have hg2:=hg js.length hm1
   have hx2:=hx js.length hm1
   have hxn:=Nat.le_trans (yH (mS (L + 2) (2 * js.length)) (2 * js.length)) hx2
   have zZ:=Pt (z:=z) (s:=S) (G:=qB js) zo zo
   rw [Yy] at zZ
   have hfl:(dP z js).length ≤ z.length:=sB _ _
   have hfx:∀ x,x ∈ dP z js → x < z.length:=fun x h=>Hw h
   rw [Zl hd]
   refine cU (cK (gV (i:=0) (tt:=2) rfl rfl rZ (gV (i:=2) (tt:=6) rfl rfl lE (cY (ro rfl (nS (γ:=Fin (2 * js.length)) (Ts:=fun x=>[NT .i64 x.1]) (U:=fun x=>aM (S.getD (gq (dB js) (kW x.1)) [])) Tryz.call121 (fun x=>a1k hS hd x.2 zo zo) ⟨(Ht rfl),(Ht rfl),trivial⟩) (rn rfl (eW (Ts:=[Is (.nilFunc)]) Tryz.zeroValue182 rfl (fun V=>aW zd (aG))) fun B8=>(pX Tryz.sizeOf182 (Ht rfl) (Ht rfl) (i:=3) rfl (aK rfl) rfl (eX (cK (gV (i:=3) (tt:=8) rfl rfl lE ?_))))))))))
   refine cY (ro rfl (dJ A_103 Z_103 (Ht rfl)) (ro rfl (dG U_103 (Ht rfl) (by rw [List.length_map,List.length_map,hJl])) ?_))
   refine ro rfl (nS (γ:=Fin (2 * js.length) × Fin (2 * js.length)) (Ts:=fun x=>[NT .i64 x.1.1,NT .i64 x.2.1]) (U:=fun x=>aF ((if x.1.1 = x.2.1 then Qi.ofInt 1 else Qi.ofInt 0) - gm S (gq (dB js) (kW x.1.1)) (gq (dB js) x.2.1))) Tryz.call122 (fun x=>a1l hS hf hL hLb hd x.1.2 x.2.2 zo zo) ⟨(Ht rfl),(Ht rfl),trivial⟩) (ro rfl (cZ Tryz.call110 (Gp (n:=2 * js.length) (f:=fun x y=>(if x = y then Qi.ofInt 1 else Qi.ofInt 0) - gm S (gq (dB js) (kW x)) (gq (dB js) y)) zo) ⟨(Ht rfl),(Ht rfl),trivial⟩) (ra rfl (eX (ts (ro rfl (dJ A_28 Z_28 (Ht rfl)) ?_)))))
   refine ro rfl (dJ A_103 Z_103 (Ht rfl)) (ro rfl (cZ Tryz.call124 zZ ⟨(Ht rfl),(Ht rfl),trivial⟩) (ra rfl (eX (ts (ro rfl (dJ A_28 Z_28 (Ht rfl)) (rm rfl (iN Tryz.call125 (Pv (Q:=dP z js) (m:=(dP z js).length) hS hfx rfl zo zo) ⟨(Ht rfl),(Ht rfl),trivial⟩ rfl (fun B47 _=>(rn rfl (eW (Ts:=[Is (.slice none 0 0),Is (.slice none 0 0)]) O_28 rfl (fun V=>aW zd (aW zd (aG)))) fun B11=>(gQ Z_28 (Ht rfl) (Ht rfl) rfl (i:=5) rfl (aK rfl) rfl rfl ?_))))))))))
   refine eX (cK (ts (rm rfl (ro rfl (dG U_103 (Ht rfl) (by rw [List.length_map,List.length_map])) ?_))))
   refine ro rfl (cX (cJ 0)) (eX (eG (bS [1,4,5] rfl (by decide) ?_)))
   refine cA (fun (j : Nat) => j ≤ (dP z js).length ∧ ∀ y, y < j → jF (oH S (dB js) (2 * js.length)) (Ko S (dB js) (2 * js.length) ((dP z js).getD y 0)) (2 * js.length) = 0) (fun (j : Nat) => (dP z js).length - j) (fun (j : Nat) => [(2, PT (iK z S)), (4, bO B4 0), (6, PT (fF ((qB js).map Nat.succ))), (8, PT (Fx Tryz.prog (Fin (2 * js.length)) (fun x => [NT .i64 x.1]) (fun x => aM (S.getD (gq (dB js) (kW x.1)) [])))), (9, aR (oH S (dB js) (2 * js.length))), (10, fF ((dP z js).map Nat.succ)), (11, bO B11 0), (48, fF ((dP z js).map Nat.succ)), (49, NT .i64 ((dP z js).length)), (50, NT .i64 j)]) (fun (j : Nat) => [box B4 28 [Is (.slice none 0 0), Is (.slice none 0 0)], lQ B47 25 60 5 (bM aF (tab ((dP z js).length) fun i => (jY (fun y => Nm S (dB js) (2 * js.length) (gE (dP z js) i) (gE (dP z js) y)) (fun y => gm S (gE (dP z js) i) (gE (dP z js) y)) (dP z js).length j))), box B11 28 [aM (Dh z (dP z js)), Is (.slice (some ⟨B47, 0, none⟩) ((dP z js).length) ((dP z js).length))]]) 0 ⟨Nat.zero_le _, fun y h => by omega⟩
    (zS rfl) (aU (aA rfl) (aU (bI (congrArg (bM aF) (bT fun i _=>iG _ _ _))) (aU (aA rfl) aY))) (fun j ⟨hjq,h0⟩=>?_)
   refine ts (ro rfl (gX (Ht rfl) (Ht rfl)) (eX (cK (dQ (Ht rfl) (fun hd1=>?_) (fun hd1=>?_)))))
   ·have hjn : j < (dP z js).length := by simp only [decide_eq_true_eq] at hd1; omega
    have hFj:gE (dP z js) j < z.length:=Zm hjn
    have hbf:bP (Ko S (dB js) (2 * js.length) ((dP z js).getD j 0)) L:=a2b hf hL
    refine cU (cK (eG (ts (rm rfl (ro rfl (dZ U_103 Z_3 (Ht rfl) (Ht rfl) rfl (dY (qO hjn))) (ro rfl (dJ A_3 Z_3 (Ht rfl)) (ra rfl (ra rfl (eX (ts (ro rfl (dJ A_103 Z_103 (Ht rfl)) (ro rfl (dG U_103 (Ht rfl) (by rw [List.length_map,List.length_map,hJl])) ?_))))))))))))
    refine rn rfl (kS (T:=aF Qi.zero) (i:=Tryz.t60) jH gG rfl rfl (Ht rfl) rfl jD (El.ag rfl) (by show 88 * _ ≤ _; omega) zo) fun B57=>ra rfl (eX (cK (ts (rm rfl (ro rfl (nT U_25 (Ht rfl) (i:=3) rfl (show ((List.replicate (2 * js.length) (aF Qi.zero)).length:Int) = ((2 * js.length:Nat):Int) from by simp)) (ro rfl (cX (cJ 0)) (eX (eG ?_))))))))
    refine cA (fun (x : Nat) => x ≤ 2 * js.length) (fun (x : Nat) => 2 * js.length - x) (fun (x : Nat) => [(2, PT (iK z S)), (4, bO B4 0), (6, PT (fF ((qB js).map Nat.succ))), (8, PT (Fx Tryz.prog (Fin (2 * js.length)) (fun x => [NT .i64 x.1]) (fun x => aM (S.getD (gq (dB js) (kW x.1)) [])))), (9, aR (oH S (dB js) (2 * js.length))), (10, fF ((dP z js).map Nat.succ)), (11, bO B11 0), (12, NT .i64 j), (13, NT .i64 (gE (dP z js) j + 1)), (14, Is B57), (48, fF ((dP z js).map Nat.succ)), (49, NT .i64 ((dP z js).length)), (50, NT .i64 j), (59, NT .i64 (2 * js.length)), (60, NT .i64 x)]) (fun (x : Nat) => [box B4 28 [Is (.slice none 0 0), Is (.slice none 0 0)], lQ B47 25 60 5 (bM aF (tab ((dP z js).length) fun i => (jY (fun y => Nm S (dB js) (2 * js.length) (gE (dP z js) i) (gE (dP z js) y)) (fun y => gm S (gE (dP z js) i) (gE (dP z js) y)) (dP z js).length j))), box B11 28 [aM (Dh z (dP z js)), Is (.slice (some ⟨B47, 0, none⟩) ((dP z js).length) ((dP z js).length))], bF 60 5 B57 ((kV (fun x => gm S (gq (dB js) (kW x)) (gE (dP z js) j)) Qi.zero (2 * js.length) x).map aF)]) 0 (Nat.zero_le _)
     (zS rfl) (aU (aA rfl) (aU (fun _ _ _ h=>h) (aU (aA rfl) (aU (aO (by rw [← iL]; exact vH aF _)) aY)))) (fun x hx1=>?_)
    refine ts (ro rfl (gX (Ht rfl) (Ht rfl)) (eX (cK (dQ (Ht rfl) (fun hd2=>?_) (fun hd2=>?_)))))
    ·have hxm : x < 2 * js.length := by simp only [decide_eq_true_eq] at hd2; omega
     have hgx:=hj.lt (kW x) (sI hxm)
     have hSr:=hS.row hgx
     refine cU (cK (eG (ts (rm rfl (ra rfl (eX (cY (rm rfl (rm rfl (ro rfl (dJ Tryz.isAgg182 Tryz.sizeOf182 (Ht rfl)) (rm rfl (ro rfl (kR (Ts:=fun x:Fin (2 * js.length)=>[NT .i64 x.1]) ⟨x,hxm⟩ (Ht rfl) ⟨(Ht rfl),trivial⟩) (rm rfl (ro rfl (aS.nat (dW (Ht rfl) (cJ 1) zo z6) (show gE (dP z js) j + 1 - 1 = gE (dP z js) j by omega)) (ro rfl (dZ U_25 Z_60 (Ht rfl) (Ht rfl) rfl (dY (dU (d:=Qi.zero) (show gE (dP z js) j < (S.getD (gq (dB js) (kW x)) []).length by omega)))) ?_)))))))))))))))
     refine ro rfl (dJ A_60 Z_60 (Ht rfl)) (ro rfl (cL U_25 Z_60 (Ht rfl) (Ht rfl) rfl (i:=3) rfl (by rw [List.length_map,dE]; omega) rfl) ?_)
     refine kX Z_60 (Ht rfl) (Ht rfl) (El.ag rfl) (i:=3) rfl rfl (by rw [List.length_map,dE]; omega) rfl ?_
     refine eX (bL (cY (ro rfl (dV (Ht rfl) (cJ 1) z6) (rm rfl (eX (fU (x + 1) hxm zo (zS rfl) (aU (aA rfl) (aU (fun _ _ _ h=>h) (aU (aA rfl) (aU (aO (by rw [dO]; exact congrArg _ (jN (f:=(fun x=>gm S (gq (dB js) (kW x)) (gE (dP z js) j)))))) aY))))))))))
    ·have hxm : x = 2 * js.length := by simp only [decide_eq_false_iff_not] at hd2; omega
     rw [hxm,jW]
     refine gW rfl (gV (i:=3) (tt:=14) rfl rfl eR (ts (rm rfl (rm rfl (ro rfl (cZ Tryz.call126 (Pq (M:=oH S (dB js) (2 * js.length)) (b:=Ko S (dB js) (2 * js.length) ((dP z js).getD j 0)) (n:=2 * js.length) (L:=L + 2) (oV _ _ _) (aD _ _) (Hq hf hL) (hbf.le zo) zo zo zo hg2 zo) ⟨(Ht rfl),(Ht rfl),trivial⟩) (rm rfl (ro rfl (dK (Ht rfl) rfl) (ro rfl (dK (Ht rfl) rfl) (ra rfl (ra rfl (eX (cK (ts (rm rfl (ro rfl (kM (Ht rfl) cV) (eX (dQ (Ht rfl) (fun hc3=>?_) (fun hc3=>?_))))))))))))))))))
     ·have h5 : jF (oH S (dB js) (2 * js.length)) (Ko S (dB js) (2 * js.length) ((dP z js).getD j 0)) (2 * js.length) ≠ 0 := by simpa using hc3
      have h6:Zr z S js ≠ 0:=fun k=>h5 (iT k j hjn)
      have he:yX z S js = 6:=(Zq h3 h4).trans (if_neg h6)
      refine ts (ro rfl (aS.imp (mD ) mE) (gQ Z_28 (Ht rfl) (Ht rfl) rfl (i:=0) rfl (aK rfl) rfl rfl (ro rfl (cQ (cJ 6)) (eX (bN rfl (fX (fK A_28 Z_28 rfl (i:=0) rfl rfl) ?_) (fX (eU rfl) ?_))))))
      ·exact (fun v V h=>by rw [Hu,Mc,dM,dM,he]; exact h)
      ·exact (bE he.symm)
     ·have h5 : jF (oH S (dB js) (2 * js.length)) (Ko S (dB js) (2 * js.length) ((dP z js).getD j 0)) (2 * js.length) = 0 := by simpa using hc3
      have hxf:=a3b (oV S (dB js) (2 * js.length)) (Hq hf hL) (hbf.le zo) zo h5
      have hxl:(iY (oH S (dB js) (2 * js.length)) (Ko S (dB js) (2 * js.length) ((dP z js).getD j 0)) (2 * js.length)).length = 2 * js.length:=yC _ _ _
      have hGe:L + 2 ≤ zM (mS (L + 2) (2 * js.length)) (2 * js.length):=Nat.le_trans (uU (L + 2) (2 * js.length)) (Ix _ _)
      obtain ⟨G,hG⟩:∃ G,G = zM (mS (L + 2) (2 * js.length)) (2 * js.length):=⟨_,rfl⟩
      rw [← hG] at hxf hGe hxn
      have hmG:2 * js.length * (2 * G + 2) ≤ 18 * (2 * G + 2):=Nat.mul_le_mul_right _ zo
      have hokx:dM (jF (oH S (dB js) (2 * js.length)) (Ko S (dB js) (2 * js.length) ((dP z js).getD j 0)) (2 * js.length)) (iY (oH S (dB js) (2 * js.length)) (Ko S (dB js) (2 * js.length) ((dP z js).getD j 0)) (2 * js.length)) = iY (oH S (dB js) (2 * js.length)) (Ko S (dB js) (2 * js.length) ((dP z js).getD j 0)) (2 * js.length):=by rw [dM,if_pos h5]
      rw [hokx]
      refine cU (ts (rm rfl (ro rfl (dG U_103 (Ht rfl) (by rw [List.length_map,List.length_map])) ?_)))
      refine ro rfl (cX (cJ 0)) (eX (eG (bS [0,1,2] rfl (by decide) ?_)))
      refine cA (fun (i : Nat) => i ≤ (dP z js).length) (fun (i : Nat) => (dP z js).length - i) (fun (i : Nat) => [(2, PT (iK z S)), (4, bO B4 0), (6, PT (fF ((qB js).map Nat.succ))), (8, PT (Fx Tryz.prog (Fin (2 * js.length)) (fun x => [NT .i64 x.1]) (fun x => aM (S.getD (gq (dB js) (kW x.1)) [])))), (9, aR (oH S (dB js) (2 * js.length))), (10, fF ((dP z js).map Nat.succ)), (11, bO B11 0), (12, NT .i64 j), (16, aM (iY (oH S (dB js) (2 * js.length)) (Ko S (dB js) (2 * js.length) ((dP z js).getD j 0)) (2 * js.length))), (48, fF ((dP z js).map Nat.succ)), (49, NT .i64 ((dP z js).length)), (50, NT .i64 j), (83, fF ((dP z js).map Nat.succ)), (84, NT .i64 ((dP z js).length)), (85, NT .i64 i)]) (fun (i : Nat) => [box B4 28 [Is (.slice none 0 0), Is (.slice none 0 0)], lQ B47 25 60 5 (bM aF (jY (fun i => (jY (fun y => Nm S (dB js) (2 * js.length) (gE (dP z js) i) (gE (dP z js) y)) (fun y => gm S (gE (dP z js) i) (gE (dP z js) y)) (dP z js).length (j + 1))) (fun i => (jY (fun y => Nm S (dB js) (2 * js.length) (gE (dP z js) i) (gE (dP z js) y)) (fun y => gm S (gE (dP z js) i) (gE (dP z js) y)) (dP z js).length j)) ((dP z js).length) i)), box B11 28 [aM (Dh z (dP z js)), Is (.slice (some ⟨B47, 0, none⟩) ((dP z js).length) ((dP z js).length))]]) 0 (Nat.zero_le _)
       (zS rfl) (aU (aA rfl) (aU (bI (congrArg (bM aF) (iG _ _ _))) (aU (aA rfl) aY))) (fun i hi=>?_)
      refine ts (ro rfl (gX (Ht rfl) (Ht rfl)) (eX (cK (dQ (Ht rfl) (fun hd4=>?_) (fun hd4=>?_)))))
      ·have hin : i < (dP z js).length := by simp only [decide_eq_true_eq] at hd4; omega
       have hFi:gE (dP z js) i < z.length:=Zm hin
       have hSr:=hS.row hFi
       refine cU (cK (eG (ts (rm rfl (ro rfl (dZ U_103 Z_3 (Ht rfl) (Ht rfl) rfl (dY (qO hin))) (ro rfl (dJ A_3 Z_3 (Ht rfl)) (ra rfl (ra rfl (eX (ts (ro rfl (dJ A_103 Z_103 (Ht rfl)) (ro rfl (dG U_103 (Ht rfl) (by rw [List.length_map,List.length_map,hJl])) ?_))))))))))))
       refine rn rfl (kS (T:=aF Qi.zero) (i:=Tryz.t60) jH gG rfl rfl (Ht rfl) rfl jD (El.ag rfl) (by show 88 * _ ≤ _; omega) zo) fun B92=>ra rfl (eX (cK (ts (ro rfl (dJ A_103 Z_103 (Ht rfl)) (ro rfl (dG U_103 (Ht rfl) (by rw [List.length_map,List.length_map,hJl])) ?_)))))
       refine ro rfl (cX (cJ 0)) (eX (eG ?_))
       refine cA (fun (x : Nat) => x ≤ 2 * js.length) (fun (x : Nat) => 2 * js.length - x) (fun (x : Nat) => [(2, PT (iK z S)), (4, bO B4 0), (6, PT (fF ((qB js).map Nat.succ))), (8, PT (Fx Tryz.prog (Fin (2 * js.length)) (fun x => [NT .i64 x.1]) (fun x => aM (S.getD (gq (dB js) (kW x.1)) [])))), (9, aR (oH S (dB js) (2 * js.length))), (10, fF ((dP z js).map Nat.succ)), (11, bO B11 0), (12, NT .i64 j), (16, aM (iY (oH S (dB js) (2 * js.length)) (Ko S (dB js) (2 * js.length) ((dP z js).getD j 0)) (2 * js.length))), (18, NT .i64 i), (19, NT .i64 (gE (dP z js) i + 1)), (20, Is B92), (48, fF ((dP z js).map Nat.succ)), (49, NT .i64 ((dP z js).length)), (50, NT .i64 j), (83, fF ((dP z js).map Nat.succ)), (84, NT .i64 ((dP z js).length)), (85, NT .i64 i), (93, fF ((qB js).map Nat.succ)), (94, NT .i64 (2 * js.length)), (95, NT .i64 x)]) (fun (x : Nat) => [box B4 28 [Is (.slice none 0 0), Is (.slice none 0 0)], lQ B47 25 60 5 (bM aF (jY (fun i => (jY (fun y => Nm S (dB js) (2 * js.length) (gE (dP z js) i) (gE (dP z js) y)) (fun y => gm S (gE (dP z js) i) (gE (dP z js) y)) (dP z js).length (j + 1))) (fun i => (jY (fun y => Nm S (dB js) (2 * js.length) (gE (dP z js) i) (gE (dP z js) y)) (fun y => gm S (gE (dP z js) i) (gE (dP z js) y)) (dP z js).length j)) ((dP z js).length) i)), box B11 28 [aM (Dh z (dP z js)), Is (.slice (some ⟨B47, 0, none⟩) ((dP z js).length) ((dP z js).length))], bF 60 5 B92 ((kV (fun x => gm S (gE (dP z js) i) (gq (dB js) x)) Qi.zero (2 * js.length) x).map aF)]) 0 (Nat.zero_le _)
        (zS rfl) (aU (aA rfl) (aU (fun _ _ _ h=>h) (aU (aA rfl) (aU (aO (by rw [← iL]; exact vH aF _)) aY)))) (fun x hx1=>?_)
       refine ts (ro rfl (gX (Ht rfl) (Ht rfl)) (eX (cK (dQ (Ht rfl) (fun hd5=>?_) (fun hd5=>?_)))))
       ·have hxm : x < 2 * js.length := by simp only [decide_eq_true_eq] at hd5; omega
        have hat:gE (qB js) x = gq (dB js) x:=Hn hxm
        have hgx:=hj.lt x hxm
        refine cU (cK (eG (ts (rm rfl (ro rfl (dZ U_103 Z_3 (Ht rfl) (Ht rfl) rfl (dY (qO zo))) (ro rfl (dJ A_3 Z_3 (Ht rfl)) (ra rfl (ra rfl (eX (cY (rm rfl (rm rfl (ro rfl (oZ kZ (Ht rfl) rfl) (ro rfl (dJ A_26 Z_26 (Ht rfl)) (rm rfl (ro rfl (aS.nat (dW (Ht rfl) (cJ 1) zo z6) (show gE (dP z js) i + 1 - 1 = gE (dP z js) i by omega)) (ro rfl (dZ U_26 Z_25 (Ht rfl) (Ht rfl) rfl (dY (dU (d:=[]) (show gE (dP z js) i < S.length by omega)))) ?_)))))))))))))))))
        refine ro rfl (dJ A_25 Z_25 (Ht rfl)) (rm rfl (ro rfl (aS.nat (dW (Ht rfl) (cJ 1) zo z6) (show gE (qB js) x + 1 - 1 = gq (dB js) x by omega)) (ro rfl (dZ U_25 Z_60 (Ht rfl) (Ht rfl) rfl (dY (dU (d:=Qi.zero) (show gq (dB js) x < (S.getD (gE (dP z js) i) []).length by omega)))) (ro rfl (dJ A_60 Z_60 (Ht rfl)) (ro rfl (cL U_25 Z_60 (Ht rfl) (Ht rfl) rfl (i:=3) rfl (by rw [List.length_map,dE]; omega) rfl) ?_)))))
        refine kX Z_60 (Ht rfl) (Ht rfl) (El.ag rfl) (i:=3) rfl rfl (by rw [List.length_map,dE]; omega) rfl ?_
        refine eX (bL (cY (ro rfl (dV (Ht rfl) (cJ 1) z6) (rm rfl (eX (fU (x + 1) hxm zo (zS rfl) (aU (aA rfl) (aU (fun _ _ _ h=>h) (aU (aA rfl) (aU (aO (by rw [dO]; exact congrArg _ (jN (f:=(fun x=>gm S (gE (dP z js) i) (gq (dB js) x)))))) aY))))))))))
       ·have hxm : x = 2 * js.length := by simp only [decide_eq_false_iff_not] at hd5; omega
        rw [hxm,jW]
        refine gW rfl (gV (i:=3) (tt:=20) rfl rfl eR (bS [0,1,2] rfl (by decide) (mB 1 (i) rfl (nI hin) (fun v0=>?_))))
        have hrl:=iB (fun y=>Nm S (dB js) (2 * js.length) (gE (dP z js) i) (gE (dP z js) y)) (fun y=>gm S (gE (dP z js) i) (gE (dP z js) y)) ((dP z js).length) j
        have hrf:bP (tab (2 * js.length) (fun x=>gm S (gE (dP z js) i) (gq (dB js) x))) G:=bP.tab fun x _=>(hf.get hL _ _).le zo
        have hro : ((jY (fun y => Nm S (dB js) (2 * js.length) (gE (dP z js) i) (gE (dP z js) y)) (fun y => gm S (gE (dP z js) i) (gE (dP z js) y)) (dP z js).length j)).set j (vN (gm S (gE (dP z js) i) (gE (dP z js) j)) (tab (2 * js.length) (fun x => gm S (gE (dP z js) i) (gq (dB js) x))) (iY (oH S (dB js) (2 * js.length)) (Ko S (dB js) (2 * js.length) ((dP z js).getD j 0)) (2 * js.length)) (2 * js.length)) = (jY (fun y => Nm S (dB js) (2 * js.length) (gE (dP z js) i) (gE (dP z js) y)) (fun y => gm S (gE (dP z js) i) (gE (dP z js) y)) (dP z js).length (j + 1)) := by
         rw [a4n]; exact jC (f:=fun y=>Nm S (dB js) (2 * js.length) (gE (dP z js) i) (gE (dP z js) y))
        refine fZ (m:=17) (dp 11 rfl (eZ kZ (Ht rfl) rfl) (dq 114 0 rfl (eY A_26 Z_26 (Ht rfl) (i:=2) rfl rfl) (dp 18 rfl (cX (Ht rfl)) (cP 115 1 116 2 rfl (fY U_26 Z_25 (Ht rfl) (Ht rfl) rfl zo (by rw [Nat.mul_one,Nat.zero_add])) ?_))))
        refine dq 117 3 rfl (iC A_25 Z_25 (Ht rfl) (j:=1) rfl) (dp 12 rfl (cX (Ht rfl)) (dp 11 rfl (eZ kZ (Ht rfl) rfl) (dq 120 6 rfl (eY A_26 Z_26 (Ht rfl) (i:=2) rfl rfl) (dp 18 rfl (cX (Ht rfl)) (cP 121 7 122 8 rfl (fY U_26 Z_25 (Ht rfl) (Ht rfl) rfl zo (by rw [Nat.mul_one,Nat.zero_add])) ?_)))))
        refine dq 123 9 rfl (iC A_25 Z_25 (Ht rfl) (j:=1) rfl) (dp 12 rfl (cX (Ht rfl)) (cP 124 10 125 11 rfl (cL U_25 Z_60 (Ht rfl) (Ht rfl) rfl (i:=3) rfl (by simp only [List.length_map,hrl]; omega) rfl) ?_))
        refine dq 126 12 rfl (mI A_60 Z_60 (Ht rfl) (i:=3) rfl rfl (dY (oB hjn))) (dp 20 rfl (cX (Ht rfl)) (dp 16 rfl (cX (Ht rfl)) (C.D_step (Ei:=[(127,_),(128,_),(129,_)]) rfl rfl (bV (bG 13 rfl rfl) (bV (bG 14 rfl rfl) (bV (bG 15 rfl rfl) bW))) (dX rfl (cZ Tryz.call127 (a5R (x:=gm S (gE (dP z js) i) (gE (dP z js) j)) (l:=tab (2 * js.length) (fun x=>gm S (gE (dP z js) i) (gq (dB js) x))) (m:=iY (oH S (dB js) (2 * js.length)) (Ko S (dB js) (2 * js.length) ((dP z js).getD j 0)) (2 * js.length)) (L:=G) (M:=L) (n:=2 * js.length) (hf.get hL _ _) hrf hxf zo (aD _ _) hxl zo zo) ⟨(Ht rfl),(Ht rfl),(Ht rfl),trivial⟩)) ?_)))
        refine fV bC rfl (by kernel_rfl) (zF (zF (zF (zF (aJ (aV (ro rfl (cL U_25 Z_60 (Ht rfl) (Ht rfl) rfl (i:=3) rfl (by simp only [List.length_map,hrl]; omega) rfl) ?_)))))))
        refine kX Z_60 (Ht rfl) (Ht rfl) (El.ag rfl) (i:=3) rfl rfl (by simp only [List.length_map,hrl]; omega) rfl ?_
        refine eX (dS 1 3 rfl rfl (by decide) (by simp only [bM,List.length_map,iB]; omega) ?_)
        refine bL (cY (ro rfl (dV (Ht rfl) (cJ 1) z6) (rm rfl (eX (bS [0,1,2] rfl (by decide) (fU (i + 1) hin zo (zS rfl) (aU (aA rfl) (aU (bI (by rw [dO,hro,eN]; exact congrArg _ (jC (f:=fun i=>(jY (fun y=>Nm S (dB js) (2 * js.length) (gE (dP z js) i) (gE (dP z js) y)) (fun y=>gm S (gE (dP z js) i) (gE (dP z js) y)) (dP z js).length (j + 1)))))) (aU (aA rfl) aY)))))))))
      ·have hin : i = (dP z js).length := by simp only [decide_eq_false_iff_not] at hd4; omega
       rw [hin,jM]
       refine gW rfl (bL (cY (ro rfl (dV (Ht rfl) (cJ 1) z6) (rm rfl (eX ?_)))))
       refine fU (j + 1) ⟨hjn, fun y h => by
         by_cases e:y = j
         ·rw [e]; exact h5
         ·exact h0 y zo⟩ zo (zS rfl) (aU (aA rfl) (aU (fun _ _ _ h=>h) (aU (aA rfl) aY)))
   ·have hjn : j = (dP z js).length := by simp only [decide_eq_false_iff_not] at hd1; omega
    rw [hjn] at h0
    have h6:Zr z S js = 0:=kG h0
    have he:yX z S js = 0:=(Zq h3 h4).trans (if_pos h6)
    rw [hjn,show (tab ((dP z js).length) fun i=>(jY (fun y=>Nm S (dB js) (2 * js.length) (gE (dP z js) i) (gE (dP z js) y)) (fun y=>gm S (gE (dP z js) i) (gE (dP z js) y)) (dP z js).length (dP z js).length)) = a4D z S js from bT fun i _=>jM _ _ _]
    refine gW rfl (cK (Br 2 1 1 rfl rfl rfl (by decide) (a60 (q:=fun _=>True) (M:=a4D z S js) (aD _ _).symm) (cY (ro rfl (eJ A_28 Z_28 (Ht rfl) (i:=2) rfl rfl rfl) (gQ Z_28 (Ht rfl) (Ht rfl) rfl (i:=0) rfl (aK rfl) rfl rfl (ro rfl (cQ (cJ 0)) (eX (bN rfl (fX (fK A_28 Z_28 rfl (i:=0) rfl rfl) ?_) (fX (eU rfl) ?_)))))))))
    ·exact (fun v V h=>by rw [Hu,Mc,dM,dM,he,if_neg h4,if_neg h4]; exact h)
    ·exact (bE he.symm)
end
section
open Go Go.RowKit
theorem Zd (O:List Nat):((O.map fun (q:Nat)=>(q:Int)).map (aP .i64)) = O.map (NT .i64):=by rw [List.map_map]; rfl
theorem Tc {l:List Nat} {i:Nat} (hl:l.length ≤ 1000):bR Tryz.prog 145 [fF l,NT .i64 i] (aH (decide (i ∈ l))):=by
 have h:=qR (l:=l.map fun (q:Nat)=>(q:Int)) (v:=(i:Int)) (by rw [List.length_map]; omega)
 rw [Zd] at h
 refine h.imp (fA ?_)
 rw [Bool.eq_iff_iff,List.any_map,List.any_eq_true,decide_eq_true_eq]
 constructor
 ·rintro ⟨x, hx, e⟩; simp at e; obtain rfl : i = x := by omega
  exact hx
 ·intro hx; exact ⟨i,hx,by simp⟩
theorem hgN {n:Nat} (hn:n ≤ 8):∀ k,2 * k < n → 6 * mS (2 + 2) (2 * k) + 4 ≤ 17592186044415:=fun k hk=>Nat.le_trans (Nat.add_le_add_right (Nat.mul_le_mul_left 6 (pG _ (show 2 * k ≤ 7 by omega))) 4) (by decide)
theorem hxN {n:Nat} (hn:n ≤ 8):∀ k,2 * k < n → zM (mS (2 + 2) (2 * k)) (2 * k + 1) ≤ 100000000000:=fun k hk=>Nat.le_trans (Nat.le_trans (Fv (pG _ (show 2 * k ≤ 6 by omega)) _) (Dq _ (show 2 * k + 1 ≤ 7 by omega))) (by decide)
theorem Zc (n : Nat) : rO n = tab n fun x => tab n fun y => Ik x y := qK (nR n) cF.tab fun i hi j hj => by
 rw [vJ hi hj,jG hi hj]; rfl
theorem a0v (S:List (List Qi)) (js:List (Int × Int)) (N i y:Nat):(tF S js N i y).length = N:=aD _ _
theorem Xj {z:List Qi} {s c:List (List Qi)} {js:List (Int × Int)} {L G:Nat} (hz:bP z L) (hs:aN s L) (hL1:1 ≤ L) (hLb:L ≤ 1000) (hcf:aN c G) (hG1:1 ≤ G) (hGb:G ≤ 1000000000) (hgP:yX z s js = 0 → aN (tI s js z.length) G) (hsh:cF s z.length z.length) (hch:cF c z.length z.length) (hl:z.length ≤ 8) (hjl:js.length ≤ 100) (hg:∀ k,2 * k < z.length → 6 * mS (L + 2) (2 * k) + 4 ≤ 17592186044415) (hxr:∀ k,2 * k < z.length → zM (mS (L + 2) (2 * k)) (2 * k + 1) ≤ 100000000000):bR Tryz.prog 46 [eH z s c,Vu js] (eD [eH (Hu z s js) (Mc z s js) (Zy z s c js),aP .i64 (yX z s js)]):=by
 have hsl:=hsh.1
 have hJ:=a41 (z:=z) (S:=s) (js:=js) (L:=L) hsh hs hz hL1 zo zo hjl hg hxr
 refine bR.intro Tryz.func46 rfl Tryz.ntmps46 rfl (fun cx=>(ts (rn rfl (fG (Ht rfl)) fun B2=>(rn rfl (eW (Ts:=[Is (.slice none 0 0),Is (.slice none 0 0),Is (.slice none 0 0)]) O_80 rfl (fun V=>aW zd (aW zd (aW zd (aG))))) fun B4=>(ro rfl (cQ (cJ 0)) (eX (ts (ro rfl (eZ mX (Ht rfl) rfl) (ro rfl (eJ A_28 Z_28 (Ht rfl) (i:=0) rfl rfl rfl) (rm rfl (ro rfl (cZ Tryz.call32 hJ ⟨(Ht rfl),(Ht rfl),trivial⟩) (rm rfl (ro rfl (dK (Ht rfl) rfl) ?_)))))))))))))
 refine ro rfl (dK (Ht rfl) rfl) (rn rfl (eW (Ts:=[Is (.slice none 0 0),Is (.slice none 0 0)]) O_28 rfl (fun V=>aW zd (aW zd (aG)))) fun B6=>(gQ Z_28 (Ht rfl) (Ht rfl) rfl (i:=2) rfl (aK rfl) rfl rfl (ra rfl (eX (cK (ts (rm rfl (ro rfl (kM (Ht rfl) cV) (eX (dQ (Ht rfl) (fun hb=>?_) (fun hb=>?_)))))))))))
 ·have he : yX z s js ≠ 0 := by simpa using hb
  refine ts (ro rfl (aS.imp (rS ) nK) (rm rfl (gQ Z_80 (Ht rfl) (Ht rfl) rfl (i:=1) rfl (aK rfl) rfl rfl (ra rfl (eX (bN rfl (fX (fK A_80 Z_80 rfl (i:=1) rfl rfl) ?_) (eU rfl)))))))
  exact (fun v V h=>by rw [Hu,Mc,Zy,dM,dM,dM,if_neg he,if_neg he,if_neg he]; exact h)
 ·have he : yX z s js = 0 := by simpa using hb
  refine cU (cK (ts (rm rfl (ro rfl (dG U_65 (Ht rfl) aC) (ro rfl (eB (Ht rfl) (cJ 0)) (eX (dQ (Ht rfl) (fun hb2=>?_) (fun hb2=>?_))))))))
  ·obtain rfl : js = [] := List.length_eq_zero_iff.1 (by simpa using hb2)
   refine ts (ro rfl (eJ A_80 Z_80 (Ht rfl) (i:=0) rfl rfl rfl) (gQ Z_80 (Ht rfl) (Ht rfl) rfl (i:=1) rfl (aK rfl) rfl rfl (ro rfl (cQ (cJ 0)) (eX (bN rfl (fX (fK A_80 Z_80 rfl (i:=1) rfl rfl) ?_) (fX (eU rfl) ?_))))))
   ·exact (fun v V h=>by rw [Hu,Mc,Zy,dM,dM,dM,if_pos he,if_pos he,if_pos he,if_pos (show ([]:List (Int × Int)).length = 0 from rfl),if_pos (show ([]:List (Int × Int)).length = 0 from rfl),a1Z hch]; exact h)
   ·exact (bE he.symm)
  ·have hK : js.length ≠ 0 := by simpa using hb2
   obtain ⟨hd,hj6,hk,hne⟩:=Cv he hl
   have hne2:=hne hK
   have hp:=Nl hd
   have hj:=Fh hd
   have hPl:(Vw js).length = 2 * js.length:=aD _ _
   have hOl:(vP js).length = 2 * js.length:=aD _ _
   have hle:=Qy hd
   have hpos:=Zj hd hne2
   have hFl:(dP z js).length ≤ z.length:=sB _ _
   refine cU (ts (ro rfl (cQ cV) (ro rfl (cQ cV) (eX (cK (cK (qZ 3 1 (qZ 3 1 (cY (rm rfl (ro rfl (dG U_65 (Ht rfl) aC) (ro rfl (cX (cJ 0)) (eX (eG ?_))))))))))))))
   refine nP (fun (k : Nat) (vL : Value) (vO : Value) => k ≤ js.length) (fun (k : Nat) (vL : Value) (vO : Value) => js.length - k) (fun (k : Nat) (vL : Value) (vO : Value) => [(2, bO B2 0), (4, bO B4 0), (6, bO B6 0), (8, Is vL), (9, Is vO), (41, Vu js), (42, NT .i64 js.length), (43, NT .i64 k)]) (fun (k : Nat) (vL : Value) (vO : Value) => [box B2 80 [aM z, aR s, aR c], box B4 80 [Is (.slice none 0 0), Is (.slice none 0 0), Is (.slice none 0 0)], box B6 28 [aM (Hu z s js), aR (Mc z s js)], bF 3 1 vL ((tab (2 * k) (gq (dB js))).map (NT .i64)), bF 3 1 vO ((tab (2 * k) (fun x => gq (dB js) (kW x))).map (NT .i64))]) 0 _ _ (Nat.zero_le _)
    (zS rfl) (aU (aA rfl) (aU (aA rfl) (aU (aA rfl) (aU (aO rfl) (aU (aO rfl) aY))))) (fun k vL vO hk0=>?_)
   refine ts (ro rfl (gX (Ht rfl) (Ht rfl)) (eX (cK (dQ (Ht rfl) (fun hc=>?_) (fun hc=>?_)))))
   ·have hkn : k < js.length := by simp only [decide_eq_true_eq] at hc; omega
    obtain ⟨i1,i2,i3,i4,i5,i6⟩:=a4E hp hkn
    obtain ⟨o1,o2⟩:=a2T k
    have ht1:=aD (2 * k) (gq (dB js))
    have ht2:=aD (2 * k) (fun x=>gq (dB js) (kW x))
    refine cU (cK (eG (ts (ro rfl (dZ U_65 Z_64 (Ht rfl) (Ht rfl) rfl (dY (dU (d:=(0,0)) hkn))) (ro rfl (dJ Tryz.isAgg64 Z_64 (Ht rfl)) (rn rfl (eW (Ts:=[Is (.int .i64 0),Is (.int .i64 0)]) Tryz.zeroValue64 rfl (fun V=>aW zd (aW zd (aG)))) fun B11=>(gQ Z_64 (Ht rfl) (Ht rfl) rfl (i:=5) rfl (aK rfl) rfl rfl (eX (Y.D_startA (m:=17) [] 8 3 rfl rfl (bY (Ei:=[(8,_)]) rfl rfl (bQ (bJ rfl rfl) bX) rfl rfl (dX rfl (cX (Ht rfl))) ?_))))))))))
    refine bY (Ei:=[(11,_)]) rfl rfl (bQ (bJ rfl rfl) bX) rfl rfl (dX rfl (xO U_64 Z_3 (Ht rfl) (cJ 0) rfl (by decide) rfl)) (bY (Ei:=[(48,_)]) rfl rfl (bQ (bZ 1 rfl rfl) bX) rfl rfl (dX rfl (eY A_3 Z_3 (Ht rfl) (i:=5) rfl rfl)) (bY (Ei:=[(49,_)]) rfl rfl (bQ (bZ 2 rfl rfl) bX) rfl rfl (dX rfl (jE (Ht rfl) cV (r:=((gq (dB js) (2 * k):Nat):Int)) ((Du (z:=(kL js k).1 - 1) zo).trans zo))) ?_))
    refine bY (Ei:=[(11,_)]) rfl rfl (bQ (bJ rfl rfl) bX) rfl rfl (dX rfl (xO U_64 Z_3 (Ht rfl) (cJ 1) rfl (by decide) rfl)) (bY (Ei:=[(51,_)]) rfl rfl (bQ (bZ 4 rfl rfl) bX) rfl rfl (dX rfl (eY A_3 Z_3 (Ht rfl) (i:=5) rfl rfl)) (bY (Ei:=[(52,_)]) rfl rfl (bQ (bZ 5 rfl rfl) bX) rfl rfl (dX rfl (jE (Ht rfl) cV (r:=((gq (dB js) (2 * k + 1):Nat):Int)) ((Du (z:=(kL js k).2 - 1) zo).trans zo))) ?_))
    refine bY (Ei:=[(50,_),(53,_)]) rfl rfl (bQ (bZ 3 rfl rfl) (bQ (bZ 6 rfl rfl) bX)) rfl rfl (dX rfl (cE (xs:=[.tmp 50,.tmp 53]) U_103 Z_3 O_3 (cW (Ht rfl) (cW (Ht rfl) cG)) rfl rfl rfl)) (Y.D_app (Ei:=[(47,_),(54,_)]) rfl rfl rfl rfl (bQ (bZ 0 rfl rfl) (bQ (bZ 7 rfl rfl) bX)) rfl (nW (inf:=Tryz.t3) Bk Hk rfl rfl rfl (Ht rfl) (Ht rfl) (by simp) (fun T hT=>by simp at hT; rcases hT with rfl | rfl <;> exact El.one) (by show _ * 8 ≤ _; simp only [List.length_map,List.length_append,List.length_cons,List.length_nil,aD]; omega) (by simp only [List.length_map,List.length_append,List.length_cons,List.length_nil,aD]; omega)) ?_)
    refine bY (Ei:=[(9,_)]) rfl rfl (bQ (bJ rfl rfl) bX) rfl rfl (dX rfl (cX (Ht rfl))) (bY (Ei:=[(11,_)]) rfl rfl (bQ (bJ rfl rfl) bX) rfl rfl (dX rfl (xO U_64 Z_3 (Ht rfl) (cJ 1) rfl (by decide) rfl)) (bY (Ei:=[(57,_)]) rfl rfl (bQ (bZ 10 rfl rfl) bX) rfl rfl (dX rfl (eY A_3 Z_3 (Ht rfl) (i:=5) rfl rfl)) (bY (Ei:=[(58,_)]) rfl rfl (bQ (bZ 11 rfl rfl) bX) rfl rfl (dX rfl (jE (Ht rfl) cV (r:=((gq (dB js) (2 * k + 1):Nat):Int)) ((Du (z:=(kL js k).2 - 1) zo).trans zo))) ?_)))
    refine bY (Ei:=[(11,_)]) rfl rfl (bQ (bJ rfl rfl) bX) rfl rfl (dX rfl (xO U_64 Z_3 (Ht rfl) (cJ 0) rfl (by decide) rfl)) (bY (Ei:=[(60,_)]) rfl rfl (bQ (bZ 13 rfl rfl) bX) rfl rfl (dX rfl (eY A_3 Z_3 (Ht rfl) (i:=5) rfl rfl)) (bY (Ei:=[(61,_)]) rfl rfl (bQ (bZ 14 rfl rfl) bX) rfl rfl (dX rfl (jE (Ht rfl) cV (r:=((gq (dB js) (2 * k):Nat):Int)) ((Du (z:=(kL js k).1 - 1) zo).trans zo))) ?_))
    refine bY (Ei:=[(59,_),(62,_)]) rfl rfl (bQ (bZ 12 rfl rfl) (bQ (bZ 15 rfl rfl) bX)) rfl rfl (dX rfl (cE (xs:=[.tmp 59,.tmp 62]) U_103 Z_3 O_3 (cW (Ht rfl) (cW (Ht rfl) cG)) rfl rfl rfl)) (Y.D_done bC rfl (by kernel_rfl) rfl (by simp [Y.okP]) rfl rfl (bU (bU (bU (bU (bU (bU (bU (bU (Y.F_app (fun v2=>bU (bU (bU (bU (bU (bU (bU (bU (Y.F_nil ?_)))))))))))))))))))
    refine mT (inf:=Tryz.t3) Bk Hk rfl rfl rfl (Ht rfl) (Ht rfl) (i:=4) rfl (by simp) (fun T hT=>by simp at hT; rcases hT with rfl | rfl <;> exact El.one) (by show _ * 8 ≤ _; simp only [List.length_map,List.length_append,List.length_cons,List.length_nil,aD]; omega) (by simp only [List.length_map,List.length_append,List.length_cons,List.length_nil,aD]; omega) rfl (fun v3=>?_)
    refine ra rfl (ra rfl (eX (bL (cY (ro rfl (dV (Ht rfl) (cJ 1) z6) (rm rfl (eX (bS [0,1,2,6,4] rfl (by decide) (fU (k + 1,v2,v3) hkn (by dsimp only; omega) (zS rfl) (aU (aA rfl) (aU (aA rfl) (aU (aA rfl) (aU (aO (by rw [Sm,List.map_append]; rfl)) (aU (aO (by rw [Sm,List.map_append,o1,o2]; rfl)) aY))))))))))))))
   ·obtain rfl : k = js.length := by simp only [decide_eq_false_iff_not] at hc; omega
    refine gW rfl (gV (i:=3) (tt:=8) rfl rfl eR (gV (i:=4) (tt:=9) rfl rfl eR (sN (E':=[(2,_),(4,_),(6,_),(8,_),(9,_),(41,_),(42,_),(43,_),(44,_)]) (aQ rfl (aQ rfl (aQ rfl (aZ rfl (kB (Us:=(Vw js).map (NT .i64)) rfl) (aZ rfl (kB (Us:=(vP js).map (NT .i64)) rfl) (zS rfl)))))) (ts (ro rfl (eZ mX (Ht rfl) rfl) (ro rfl (eJ A_28 Z_28 (Ht rfl) (i:=0) rfl rfl rfl) (ro rfl (cZ Tryz.call143 (Gt hsh hl) ⟨(Ht rfl),trivial⟩) ?_)))))))
    refine ra rfl (eX (ts (rm rfl (ro rfl (dG U_103 (Ht rfl) (by rw [List.length_map,hPl])) ?_))))
    refine iN Tryz.call144 (Xa (n:=2 * js.length) zo) ⟨(Ht rfl),trivial⟩ rfl (fun B71 _=>(ra rfl (eX (cK (ts (rm rfl (ro rfl (dG U_103 (Ht rfl) (by rw [List.length_map,hPl])) ?_)))))))
    refine ro rfl (cX (cJ 0)) (eX (eG (bS [0,1,2,5] rfl (by decide) ?_)))
    refine cA (fun (x : Nat) => x ≤ (2 * js.length)) (fun (x : Nat) => (2 * js.length) - x) (fun (x : Nat) => [(2, bO B2 0), (4, bO B4 0), (6, bO B6 0), (8, fF (Vw js)), (9, fF (vP js)), (12, aR s), (13, Is (.slice (some ⟨B71, 0, none⟩) (2 * js.length) (2 * js.length))), (73, NT .i64 (2 * js.length)), (74, NT .i64 x)]) (fun (x : Nat) => [box B2 80 [aM z, aR s, aR c], box B4 80 [Is (.slice none 0 0), Is (.slice none 0 0), Is (.slice none 0 0)], box B6 28 [aM (Hu z s js), aR (Mc z s js)], lR jB B71 25 60 5 (bM aF (jY (fun x => tab (2 * js.length) (fun y => Ik x y - gm s (gq (dB js) (kW y)) (gq (dB js) x))) (fun x => tab (2 * js.length) (fun y => Ik x y)) (2 * js.length) x))]) 0 (Nat.zero_le _)
     (zS rfl) (aU (aA rfl) (aU (aA rfl) (aU (aA rfl) (aU (bI (by rw [← iG,Zc])) aY)))) (fun x hx=>?_)
    refine ts (ro rfl (gX (Ht rfl) (Ht rfl)) (eX (cK (dQ (Ht rfl) (fun hc=>?_) (fun hc=>?_)))))
    ·have hxn : x < 2 * js.length := by simp only [decide_eq_true_eq] at hc; omega
     refine mV 3 (x) rfl (nI hxn) (fun v0 hv0=>(cU (cK (eG (ts (rm rfl (ra rfl (eX (ts (rm rfl (ro rfl (dG U_103 (Ht rfl) (by rw [List.length_map,hPl])) ?_)))))))))))
     refine ro rfl (cX (cJ 0)) (eX (eG ?_))
     refine cA (fun (y : Nat) => y ≤ (2 * js.length)) (fun (y : Nat) => (2 * js.length) - y) (fun (y : Nat) => [(2, bO B2 0), (4, bO B4 0), (6, bO B6 0), (8, fF (Vw js)), (9, fF (vP js)), (12, aR s), (13, Is (.slice (some ⟨B71, 0, none⟩) (2 * js.length) (2 * js.length))), (14, NT .i64 x), (73, NT .i64 (2 * js.length)), (74, NT .i64 x), (78, NT .i64 (2 * js.length)), (79, NT .i64 y)]) (fun (y : Nat) => [box B2 80 [aM z, aR s, aR c], box B4 80 [Is (.slice none 0 0), Is (.slice none 0 0), Is (.slice none 0 0)], box B6 28 [aM (Hu z s js), aR (Mc z s js)], vQ jB B71 25 60 5 (bM aF (jY (fun x => tab (2 * js.length) (fun y => Ik x y - gm s (gq (dB js) (kW y)) (gq (dB js) x))) (fun x => tab (2 * js.length) (fun y => Ik x y)) (2 * js.length) x)) x v0, bF 60 5 v0 ((jY (fun y => Ik x y - gm s (gq (dB js) (kW y)) (gq (dB js) x)) (fun y => Ik x y) (2 * js.length) y).map aF)]) 0 (Nat.zero_le _)
      (zS rfl) (aU (aA rfl) (aU (aA rfl) (aU (aA rfl) (aU (fun _ _ _ h=>h) (aU (aO (by rw [← iG])) aY))))) (fun y hy=>?_)
     refine ts (ro rfl (gX (Ht rfl) (Ht rfl)) (eX (cK (dQ (Ht rfl) (fun hd2=>?_) (fun hd2=>?_)))))
     ·have hyn : y < 2 * js.length := by simp only [decide_eq_true_eq] at hd2; omega
      have hb1:=hj.lt (kW y) (sI hyn)
      have hb2:=hj.lt x hxn
      have hsr:=hsh.row hb1
      have hrl:=iB (fun y=>Ik x y - gm s (gq (dB js) (kW y)) (gq (dB js) x)) (fun y=>Ik x y) (2 * js.length) y
      haveI g1:=Sc x y
      haveI g2:aE (gm s (gq (dB js) (kW y)) (gq (dB js) x)) L:=hs.get hL1 _ _
      refine cU (cK (eG (ts (rm rfl (ra rfl (eX (fZ (m:=27) (dp 13 rfl (cX (Ht rfl)) (dp 14 rfl (cX (Ht rfl)) (cP 82 0 83 1 rfl (fY U_26 Z_25 (Ht rfl) (Ht rfl) rfl zo (by rw [Nat.mul_one,Nat.zero_add])) ?_))))))))))
      refine dq 84 2 rfl (iC A_25 Z_25 (Ht rfl) (j:=3) rfl) (dp 15 rfl (cX (Ht rfl)) (dp 13 rfl (cX (Ht rfl)) (dp 14 rfl (cX (Ht rfl)) (cP 87 5 88 6 rfl (fY U_26 Z_25 (Ht rfl) (Ht rfl) rfl zo (by rw [Nat.mul_one,Nat.zero_add])) ?_))))
      refine dq 89 7 rfl (iC A_25 Z_25 (Ht rfl) (j:=3) rfl) (dp 15 rfl (cX (Ht rfl)) (cP 90 8 91 9 rfl (cL U_25 Z_60 (Ht rfl) (Ht rfl) rfl (i:=4) rfl (by rw [List.length_map,hrl]; exact hyn) rfl) ?_))
      refine dq 92 10 rfl (mI A_60 Z_60 (Ht rfl) (i:=4) rfl rfl (dY (oB hyn))) (dq 93 11 rfl (aT bD (Ht rfl)) (dp 12 rfl (cX (Ht rfl)) (dp 9 rfl (cX (Ht rfl)) (dp 15 rfl (cX (Ht rfl)) (cP 96 14 97 15 rfl (dZ U_103 Z_3 (Ht rfl) (Ht rfl) rfl (dY (show (vP js)[y]? = some (gq (dB js) (kW y)) from cH hyn))) (dq 98 16 rfl (dJ A_3 Z_3 (Ht rfl)) (cP 95 13 99 17 rfl (dZ U_26 Z_25 (Ht rfl) (Ht rfl) rfl (dY (dU (d:=[]) zo))) (dq 100 18 rfl (dJ A_25 Z_25 (Ht rfl)) ?_))))))))
      refine dp 8 rfl (cX (Ht rfl)) (dp 14 rfl (cX (Ht rfl)) (cP 102 20 103 21 rfl (dZ U_103 Z_3 (Ht rfl) (Ht rfl) rfl (dY (show (Vw js)[x]? = some (gq (dB js) x) from cH hxn))) (dq 104 22 rfl (dJ A_3 Z_3 (Ht rfl)) (cP 101 19 105 23 rfl (dZ U_25 Z_60 (Ht rfl) (Ht rfl) rfl (dY (dU (d:=Qi.zero) zo))) (dq 106 24 rfl (dJ A_60 Z_60 (Ht rfl)) (cP 94 12 107 25 rfl (aL iA K_69 (qC (x:=Ik x y) (y:=gm s (gq (dB js) (kW y)) (gq (dB js) x)) (L:=1) (M:=L) zo) (Ht rfl) ⟨(Ht rfl),trivial⟩) ?_))))))
      refine fV bC rfl (by kernel_rfl) (zF (zF (zF (zF (zF (zF (aJ (aJ (aJ (aV (ro rfl (cL U_25 Z_60 (Ht rfl) (Ht rfl) rfl (i:=4) rfl (by rw [List.length_map,hrl]; exact hyn) rfl) ?_)))))))))))
      refine kX Z_60 (Ht rfl) (Ht rfl) (El.ag rfl) (i:=4) rfl rfl (by rw [List.length_map,hrl]; exact hyn) rfl ?_
      refine eX (bL (cY (ro rfl (dV (Ht rfl) (cJ 1) z6) (rm rfl (eX (bS [0,1,2,3,4] rfl (by decide) (fU (y + 1) hyn zo (zS rfl) (aU (aA rfl) (aU (aA rfl) (aU (aA rfl) (aU (fun _ _ _ h=>h) (aU (aO (by rw [dO]; exact congrArg _ (jC (f:=(fun y=>Ik x y - gm s (gq (dB js) (kW y)) (gq (dB js) x)))))) aY))))))))))))
     ·have hyn : y = 2 * js.length := by simp only [decide_eq_false_iff_not] at hd2; omega
      rw [hyn,jM]
      refine gW rfl (bL (dS 3 4 rfl rfl (by decide) (by simp only [bM,List.length_map,iB]; omega) ?_))
      refine cY (ro rfl (dV (Ht rfl) (cJ 1) z6) (rm rfl (eX (bS [0,1,2,3] rfl (by decide) (fU (x + 1) hxn zo (zS rfl) (aU (aA rfl) (aU (aA rfl) (aU (aA rfl) (aU (bI (by rw [eN]; exact congrArg _ (jC (f:=(fun x=>tab (2 * js.length) (fun y=>Ik x y - gm s (gq (dB js) (kW y)) (gq (dB js) x))))))) aY)))))))))
    ·have hxn : x = 2 * js.length := by simp only [decide_eq_false_iff_not] at hc; omega
     rw [hxn,jM,show tab (2 * js.length) (fun x=>tab (2 * js.length) (fun y=>Ik x y - gm s (gq (dB js) (kW y)) (gq (dB js) x))) = Ui s js from rfl]
     refine gW rfl (gV (i:=3) (tt:=13) rfl rfl (gY (s:=5) (M:=Ui s js) (xI s js).1.symm) (ts (ro rfl (cQ cV) (eX (cK (cK (bS [0,1,2] rfl (by decide) (qZ 25 1 ?_))))))))
     have hPf:=hgP he
     have hPs:=a20 s js z.length
     have hcar:bR Tryz.prog 148 [aR (tI s js z.length),aR c] (aR (iI (tI s js z.length) c)):=Xg (p:=tI s js z.length) (c:=c) (n:=(dP z js).length) (m:=z.length) (L:=G) hPs hch hPf hcf hG1 zo hpos zo zo hl
     have hslv : ∀ i, bR Tryz.prog 126 [aR (Ui s js), aM (jnV s js i)] (eD [aM (jnQ s js i), aP .i64 0]) := fun i => by
      have hT0:=Zp hk zo (jnV s js i)
      have h := Pq (M := Ui s js) (b := jnV s js i) (n := 2 * js.length) (L := L + 2) (xI s js) (aD _ _) (aN.tab fun x y _ _ => by
       haveI:=Sc x y
       haveI:aE (gm s (gq (dB js) (kW y)) (gq (dB js) x)) L:=hs.get hL1 _ _
       exact (fitSub (x:=Ik x y) (y:=gm s (gq (dB js) (kW y)) (gq (dB js) x)):aE _ (1 + L + 1)).le zo) (bP.tab fun y _=>(hs.get hL1 i _).le zo) zo zo zo (hg js.length zo) (Nat.le_trans (hxr js.length zo) (by decide))
      rw [hT0] at h; exact h
     refine cY (rm rfl (ro rfl (dG U_26 (Ht rfl) (by rw [List.length_map,hsl])) ?_))
     refine ro rfl (cX (cJ 0)) (eX (eG ?_))
     refine fO (fun (i : Nat) (vR : Value) => i ≤ z.length) (fun (i : Nat) (vR : Value) => z.length - i) (fun (i : Nat) (vR : Value) => [(2, bO B2 0), (4, bO B4 0), (6, bO B6 0), (8, fF (Vw js)), (9, fF (vP js)), (12, aR s), (13, aR (Ui s js)), (16, Is vR), (113, NT .i64 z.length), (114, NT .i64 i)]) (fun (i : Nat) (vR : Value) => [box B2 80 [aM z, aR s, aR c], box B4 80 [Is (.slice none 0 0), Is (.slice none 0 0), Is (.slice none 0 0)], box B6 28 [aM (Hu z s js), aR (Mc z s js)], bF 25 1 vR (((lU (qB js) i).map (fun i => tab z.length fun k => Kl s js i k)).map aM)]) 0 _ (Nat.zero_le _)
      (zS rfl) (aU (aA rfl) (aU (aA rfl) (aU (aA rfl) (aU (aO rfl) aY)))) (fun i vR hi=>?_)
     refine ts (ro rfl (gX (Ht rfl) (Ht rfl)) (eX (cK (dQ (Ht rfl) (fun hc=>?_) (fun hc=>?_)))))
     ·have hin : i < z.length := by simp only [decide_eq_true_eq] at hc; omega
      have hfl:=sB (qB js) i
      have hsi:=hsh.row hin
      refine cU (cK (eG (ts (rm rfl (ra rfl (eX (cK (ts (rm rfl (rm rfl (ro rfl (cZ Tryz.call145 (Tc (l:=Vw js) (i:=i) zo) ⟨(Ht rfl),(Ht rfl),trivial⟩) (eX (dQ (Ht rfl) (fun hx=>?_) (fun hx=>?_))))))))))))))
      ·have hmem : i ∈ qB js := by rw [← a3B]; simpa using hx
       have hnx:lU (qB js) (i + 1) = lU (qB js) i:=by rw [lU,if_pos hmem,List.append_nil]
       refine gW rfl (cY (ro rfl (dV (Ht rfl) (cJ 1) z6) (rm rfl (eX (fU (i + 1,vR) hin (by dsimp only; omega) (zS rfl) (aU (aA rfl) (aU (aA rfl) (aU (aA rfl) (aU (aO (by rw [hnx])) aY)))))))))
      ·have hmem : i ∉ qB js := fun h => by rw [← a3B] at h; simp [h] at hx
       have hnx:lU (qB js) (i + 1) = lU (qB js) i ++ [i]:=by rw [lU,if_neg hmem]
       refine cU (ts (ro rfl (cQ cV) (eX (cK (cK (qZ 60 5 (cY (rm rfl (ro rfl (dG U_103 (Ht rfl) (by rw [List.length_map,hPl])) ?_)))))))))
       refine ro rfl (cX (cJ 0)) (eX (eG ?_))
       refine fO (fun (y : Nat) (vV : Value) => y ≤ (2 * js.length)) (fun (y : Nat) (vV : Value) => (2 * js.length) - y) (fun (y : Nat) (vV : Value) => [(2, bO B2 0), (4, bO B4 0), (6, bO B6 0), (8, fF (Vw js)), (9, fF (vP js)), (12, aR s), (13, aR (Ui s js)), (16, Is vR), (17, NT .i64 i), (18, Is vV), (113, NT .i64 z.length), (114, NT .i64 i), (120, fF (Vw js)), (121, NT .i64 (2 * js.length)), (122, NT .i64 y)]) (fun (y : Nat) (vV : Value) => [box B2 80 [aM z, aR s, aR c], box B4 80 [Is (.slice none 0 0), Is (.slice none 0 0), Is (.slice none 0 0)], box B6 28 [aM (Hu z s js), aR (Mc z s js)], bF 25 1 vR (((lU (qB js) i).map (fun i => tab z.length fun k => Kl s js i k)).map aM), bF 60 5 vV ((tab y fun y => gm s i (gq (dB js) y)).map aF)]) 0 _ (Nat.zero_le _)
        (zS rfl) (aU (aA rfl) (aU (aA rfl) (aU (aA rfl) (aU (fun _ _ _ h=>h) (aU (aO rfl) aY))))) (fun y vV hy=>?_)
       refine ts (ro rfl (gX (Ht rfl) (Ht rfl)) (eX (cK (dQ (Ht rfl) (fun hd2=>?_) (fun hd2=>?_)))))
       ·have hyn : y < 2 * js.length := by simp only [decide_eq_true_eq] at hd2; omega
        have hb2:=hj.lt y hyn
        have htl:=aD y fun y=>gm s i (gq (dB js) y)
        refine cU (cK (eG (ts (ro rfl (dZ U_103 Z_3 (Ht rfl) (Ht rfl) rfl (dY (show (Vw js)[y]? = some (gq (dB js) y) from cH hyn))) (ro rfl (dJ A_3 Z_3 (Ht rfl)) (ra rfl (eX (cY (rm rfl (rm rfl (rm rfl (ro rfl (dZ U_26 Z_25 (Ht rfl) (Ht rfl) rfl (dY (dU (d:=[]) zo))) (ro rfl (dJ A_25 Z_25 (Ht rfl)) (rm rfl (ro rfl (dZ U_25 Z_60 (Ht rfl) (Ht rfl) rfl (dY (dU (d:=Qi.zero) zo))) (ro rfl (dJ A_60 Z_60 (Ht rfl)) ?_))))))))))))))))
        refine ro rfl (cE (xs:=[.tmp 133]) U_25 Z_60 O_60 (cW (Ht rfl) cG) rfl rfl rfl) (mT (inf:=Tryz.t60) jH gG rfl rfl rfl (Ht rfl) (Ht rfl) (i:=4) rfl (by simp) (fun T hT=>by simp at hT; subst hT; exact El.ag rfl) (by show _ * 88 ≤ _; simp only [List.length_map,List.length_append,List.length_cons,List.length_nil,aD]; omega) (by simp only [List.length_map,List.length_append,List.length_cons,List.length_nil,aD]; omega) rfl (fun v5=>?_))
        refine ra rfl (eX (bL (cY (ro rfl (dV (Ht rfl) (cJ 1) z6) (rm rfl (eX (bS [0,1,2,3,4] rfl (by decide) (fU (y + 1,v5) hyn (by dsimp only; omega) (zS rfl) (aU (aA rfl) (aU (aA rfl) (aU (aA rfl) (aU (fun _ _ _ h=>h) (aU (aO (by rw [lH,List.map_append]; rfl)) aY)))))))))))))
       ·have hyn : y = 2 * js.length := by simp only [decide_eq_false_iff_not] at hd2; omega
        rw [hyn]
        refine gW rfl (gV (i:=4) (tt:=18) rfl rfl eR (sN (E':=[(2,_),(4,_),(6,_),(8,_),(9,_),(12,_),(13,_),(16,_),(17,_),(18,_),(113,_),(114,_),(120,_),(121,_),(122,_),(123,_)]) (aQ rfl (aQ rfl (aQ rfl (aQ rfl (aQ rfl (aQ rfl (aQ rfl (aQ rfl (aQ rfl (aZ rfl (kB (Us:=(jnV s js i).map aF) rfl) (zS rfl))))))))))) (ts (rm rfl (rm rfl (ro rfl (cZ Tryz.call126 (hslv i) ⟨(Ht rfl),(Ht rfl),trivial⟩) ?_))))))
        refine rm rfl (ro rfl (dK (Ht rfl) rfl) (ro rfl (dK (Ht rfl) rfl) (ra rfl (ra rfl (eX (cK (ts (rm rfl (ro rfl (kM (Ht rfl) cV) (eX (nO (Ht rfl) (by rfl) ?_)))))))))))
        refine cU (ts (rm rfl (ro rfl (dG U_26 (Ht rfl) (by rw [List.length_map,hsl])) ?_)))
        refine iN Tryz.call146 (Et (r:=1) (n:=z.length) (by decide) zo zo) ⟨(cJ 1),(Ht rfl),trivial⟩ rfl (fun B149 _=>?_)
        refine Pd 5 0 (Ts:=(tab z.length fun _=>Qi.zero).map aF) rfl rfl (fun v0=>(ro rfl (fY U_26 Z_25 (Ht rfl) (cJ 0) rfl (by decide) (by rw [Nat.mul_one,Nat.zero_add])) ?_))
        refine ro rfl (iC A_25 Z_25 (Ht rfl) (j:=5) rfl) (ra rfl (eX (ts (rm rfl (rm rfl (ro rfl (cZ K_52 (mK (n:=1) (by decide) (by decide)) ⟨(cJ 1),trivial⟩) (ro rfl (cZ K_147 Bx ⟨(Ht rfl),trivial⟩) (ro rfl (cL U_25 Z_60 (Ht rfl) (Ht rfl) rfl (i:=6) rfl (by rw [List.length_map,aD]; omega) rfl) ?_))))))))
        refine kX Z_60 (Ht rfl) (Ht rfl) (El.ag rfl) (i:=6) rfl rfl (by rw [List.length_map,aD]; omega) rfl ?_
        refine eX (cK (cK (mU 6 rfl (aO (e:=60) (s:=5) (by rw [dO,Ok hin]:_ = (tF s js z.length i 0).map aF)) ?_)))
        refine cY (rm rfl (ro rfl (dG U_103 (Ht rfl) (by rw [List.length_map,hOl])) ?_))
        refine ro rfl (cX (cJ 0)) (eX (eG (bS [0,1,2,3,6] rfl (by decide) ?_)))
        refine cA (fun (y : Nat) => y ≤ (2 * js.length)) (fun (y : Nat) => (2 * js.length) - y) (fun (y : Nat) => [(2, bO B2 0), (4, bO B4 0), (6, bO B6 0), (8, fF (Vw js)), (9, fF (vP js)), (12, aR s), (13, aR (Ui s js)), (16, Is vR), (17, NT .i64 i), (21, aM (jnQ s js i)), (23, Is v0), (113, NT .i64 z.length), (114, NT .i64 i), (157, fF (vP js)), (158, NT .i64 (2 * js.length)), (159, NT .i64 y)]) (fun (y : Nat) => [box B2 80 [aM z, aR s, aR c], box B4 80 [Is (.slice none 0 0), Is (.slice none 0 0), Is (.slice none 0 0)], box B6 28 [aM (Hu z s js), aR (Mc z s js)], bF 25 1 vR (((lU (qB js) i).map (fun i => tab z.length fun k => Kl s js i k)).map aM), bF 60 5 v0 ((tF s js z.length i y).map aF)]) 0 (Nat.zero_le _)
         (zS rfl) (aU (aA rfl) (aU (aA rfl) (aU (aA rfl) (aU (fun _ _ _ h=>h) (aU (fun _ _ _ h=>h) aY))))) (fun y hy2=>?_)
        refine ts (ro rfl (gX (Ht rfl) (Ht rfl)) (eX (cK (dQ (Ht rfl) (fun hd3=>?_) (fun hd3=>?_)))))
        ·have hyn : y < 2 * js.length := by simp only [decide_eq_true_eq] at hd3; omega
         have hb1:=hj.lt (kW y) (sI hyn)
         have hQl:(jnQ s js i).length = 2 * js.length:=yC _ _ _
         have hrl:=a0v s js z.length i y
         have hst:=a0w (S:=s) (N:=z.length) (i:=i) hj hyn
         rw [a62 hj hk hmem hyn] at hst
         refine cU (cK (eG (ts (rm rfl (ro rfl (dZ U_103 Z_3 (Ht rfl) (Ht rfl) rfl (dY (show (vP js)[y]? = some (gq (dB js) (kW y)) from cH hyn))) (ro rfl (dJ A_3 Z_3 (Ht rfl)) (ra rfl (ra rfl (eX (cY (rm rfl (rm rfl (rm rfl (rm rfl (ro rfl (dZ U_25 Z_60 (Ht rfl) (Ht rfl) rfl (dY (dU (d:=Qi.zero) zo))) (ro rfl (dJ A_60 Z_60 (Ht rfl)) (ro rfl (cL U_25 Z_60 (Ht rfl) (Ht rfl) rfl (i:=4) rfl (by rw [List.length_map,hrl]; exact hb1) rfl) ?_)))))))))))))))))
         refine kX Z_60 (Ht rfl) (Ht rfl) (El.ag rfl) (i:=4) rfl rfl (by rw [List.length_map,hrl]; exact hb1) rfl ?_
         refine eX (bL (cY (ro rfl (dV (Ht rfl) (cJ 1) z6) (rm rfl (eX (bS [0,1,2,3,4] rfl (by decide) (fU (y + 1) hyn zo (zS rfl) (aU (aA rfl) (aU (aA rfl) (aU (aA rfl) (aU (fun _ _ _ h=>h) (aU (aO (by rw [dO]; exact congrArg _ hst)) aY))))))))))))
        ·have hyn : y = 2 * js.length := by simp only [decide_eq_false_iff_not] at hd3; omega
         rw [hyn,a0u]
         refine gW rfl (gV (i:=4) (tt:=23) rfl rfl eR (cY (rm rfl (rm rfl (ro rfl (cE (xs:=[.tmp 173]) U_26 Z_25 O_25 (cW (Ht rfl) cG) rfl rfl rfl) (mT (inf:=Tryz.t25) Iw lA rfl rfl rfl (Ht rfl) (Ht rfl) (i:=3) rfl (by simp) (fun T hT=>by simp at hT; subst hT; exact El.one) (by show _ * 24 ≤ _; simp only [List.length_map,List.length_append,List.length_cons,List.length_nil,aD]; omega) (by simp only [List.length_map,List.length_append,List.length_cons,List.length_nil,aD]; omega) rfl (fun v6=>?_)))))))
         refine ra rfl (eX (bL (cY (ro rfl (dV (Ht rfl) (cJ 1) z6) (rm rfl (eX (bS [0,1,2,3] rfl (by decide) (fU (i + 1,v6) hin (by dsimp only; omega) (zS rfl) (aU (aA rfl) (aU (aA rfl) (aU (aA rfl) (aU (aO (by rw [hnx,List.map_append,List.map_append]; rfl)) aY))))))))))))
     ·have hiz : i = z.length := by simp only [decide_eq_false_iff_not] at hc; omega
      rw [hiz]
      refine gW rfl (gV (i:=3) (tt:=16) rfl rfl eR (cK (fZ (m:=5) (dp 6 rfl (eJ A_28 Z_28 (Ht rfl) (i:=2) rfl rfl rfl) (dp 16 rfl (cX (Ht rfl)) (dp 2 rfl (eZ kJ (Ht rfl) rfl) (dq 179 2 rfl (eY A_26 Z_26 (Ht rfl) (i:=0) rfl rfl) (cP 178 1 180 3 rfl (cZ Tryz.call148 hcar ⟨(Ht rfl),(Ht rfl),trivial⟩) (fV bC rfl (by kernel_rfl) (zF (aJ (aV (ro rfl (pL (Ht rfl) (Ht rfl)) (gQ Z_80 (Ht rfl) (Ht rfl) rfl (i:=1) rfl (aK rfl) rfl rfl ?_))))))))))))))
      refine ro rfl (cQ (cJ 0)) (eX (bN rfl (fX (fK A_80 Z_80 rfl (i:=1) rfl rfl) ?_) (fX (eU rfl) ?_)))
      ·exact (fun v V h=>by rw [Zy,dM,if_pos he]; exact h)
      ·exact (bE he.symm)
theorem a1n {z : List Qi} {s c : List (List Qi)} {js : List (Int × Int)} (hz : bP z 2) (hs : aN s 2) (hcf : aN c 60000) (hsh : cF s z.length z.length) (hch : cF c z.length z.length) (hl : z.length ≤ 8) (hjl : js.length ≤ 100) : bR Tryz.prog 46 [eH z s c, Vu js] (eD [eH (Hu z s js) (Mc z s js) (Zy z s c js), aP .i64 (yX z s js)]) :=
 Xj (L := 2) (G := 60000) hz hs (by decide) (by decide) hcf (by decide) (by decide) (fun he => by
  obtain ⟨hd,hj6,hk,hne⟩:=Cv he hl
  exact (Qn (L:=2) (G:=7082) hs (by decide) (fun x=>Qo hs hj6 hk x) (by decide) zo).le (by decide)) hsh hch hl hjl (hgN hl) (hxN hl)
end
section
open Go Go.RowKit
section
variable {z:List Rt} {s c m:List (List Rt)}
end
theorem Zz {z:List Qi} {s c:List (List Qi)} {js:List (Int × Int)} (hs:aN s 2) (hcf:aN c 60000) (hl:z.length ≤ 8) (hch:cF c z.length z.length):aN (Zy z s c js) 13000000:=by
 by_cases h:yX z s js = 0
 ·obtain ⟨hd, hj6, hk, hne⟩ := Cv h hl
  have hPf:aN (tI s js z.length) 60000:=(Qn (L:=2) (G:=7082) hs (by decide) (fun x=>Qo hs hj6 hk x) (by decide) zo).le (by decide)
  exact a05 ((tN hPf hcf (by decide) (by rw [hch.1]; exact hl)).le (by decide))
 ·rw [Zy,dM,if_neg h]; exact aN.nil
end
section
open Go Go.RowKit
section
variable {z w:List Qi} {s:List (List Qi)} {t g:Qi} {port:Int} {l:List Int}
theorem a3D (hz : bP z 2) (hw : bP w 2) (hs : aN s 2) (hp : z.all gU = true) (hl8 : z.length ≤ 8) (hl : w.length = z.length) (i : Nat) (_ : i < w.length) : Wg (Ae z w s) (ek w.length i) w.length (st8 28) (De 28) :=
 a6C (xM _ _ _ _) (xL (xY hz hw (by decide) (by decide) hp hl) (xX hz hw (by decide) (by decide) hp hl) hs (by decide) (by decide)) (Yn (by decide)) (by decide) (by decide) zo
theorem a32 (hz:bP z 2) (hw:bP w 2) (hs:aN s 2) (hp:z.all gU = true) (hl8:z.length ≤ 8):aN (xZ z w s) 2060000:=by
 by_cases h:Fq z w s = 0
 ·have hl := a0t h
  obtain ⟨hq,hi,-,-⟩:=yA (n:=w.length) hl.symm rfl h
  rw [xZ,dM,if_pos h]
  exact (Kv (L:=28) (M:=De 28) (xL (xX hz hw (by decide) (by decide) hp hl) (xY hz hw (by decide) (by decide) hp hl) hs (by decide) (by decide)) (Fg (a3D hz hw hs hp hl8 hl) hi) (by decide) (Iq 28) zo).le (by decide)
 ·rw [xZ,dM,if_neg h]; exact aN.nil
end
end
section
open Go Go.RowKit
theorem Nf {t y z:Qi} (h:t * y = z) (hy:¬ y = Qi.zero):z / y = t:=by
 have e:=qT (x:=z) (y:=y) hy
 have e2:(z / y - t) * y = 0:=by grind
 rcases jP e2 with k | k
 ·grind
 ·exact absurd k hy
section
variable (c x:List (List Qi)) (n:Nat)
end
section
variable {c x:List (List Qi)} {n:Nat}
end
section
variable (c x:List (List Qi)) (n:Nat)
end
section
variable {c x:List (List Qi)} {n:Nat}
end
section
variable {h:List (List Qi)} {n G V:Nat}
theorem Qa : ∀ f i, (yQ h n f i).1 = true → (yQ h n f i).2 = []
 | 0,_,_=>rfl
 | f + 1, i, k => by
  rw [yQ] at k ⊢
  by_cases c1:Md (gm (gM h n i).1 i i) = true
  ·rw [if_pos c1] at k; cases k
  ·rw [if_neg c1] at k ⊢
   by_cases c2:Ey (gM h n i).1 (gM h n i).2 n i ≠ []
   ·rw [if_pos c2] at k; cases k
   ·rw [if_neg c2] at k ⊢; exact Qa f (i + 1) k
theorem a1I (k:Tn h n = true ∨ ¬ lP h n = true):dfW h n = []:=by
 unfold dfW
 by_cases c:lP h n = true
 ·rw [if_pos c]
  have:=k.resolve_right (fun e=>e c)
  rw [Tn,if_pos c] at this
  exact Qa n 0 this
 ·rw [if_neg c]
end
end
section
open Go Go.RowKit
theorem a0n {x:Qi} (h:x.im = 0):x.b = 0:=by
 obtain ⟨_,d2⟩:=rW x
 rw [h] at d2
 have:((x.b:Int):Rat) = 0:=by grind
 exact_mod_cast this
theorem Xw {x y:Qi} (hy:y.conj = y) (hne:¬ y = Qi.zero):(x / y).conj = x.conj / y:=by
 have e:=congrArg Qi.conj (qT (x:=x) hne)
 rw [eL,hy] at e
 exact (Nf e hne).symm
end
section
open Go Go.RowKit
def Psd (n:Nat) (C:Nat → Nat → Qi):Prop:=∀ x:Nat → Qi,0 ≤ (pC n x x C).re
theorem Sj {n:Nat} {x y:Nat → Qi} {C:Nat → Nat → Qi}:sq n x y C = pC n (fun a=>(x a).conj) (fun a=>(y a).conj) C:=aB fun a _=>aB fun b _=>by rw [mL]
theorem a2U {h:List (List Qi)} {n:Nat} (hs:cF h n n):Tn h n = true ↔ lP h n = true ∧ Psd n (gm h):=by
 rw [a1D hs]
 refine and_congr Iff.rfl ⟨fun k x=>?_,fun k y=>by rw [Sj]; exact k _⟩
 have:=k fun a=>(x a).conj
 rw [Sj] at this
 simpa only [mL] using this
theorem Ry {x:Qi} (h:gU x = true):0 ≤ x.re:=by
 obtain ⟨d1,d2⟩:=rW x
 have dp:=qF x
 have ha:0 < x.a:=by simp only [gU,decide_eq_true_eq] at h; exact h.2
 have hb:(0:Rat) < ((x.a:Int):Rat):=by exact_mod_cast ha
 rcases Rat.le_total (a:=0) (b:=x.re) with k | k
 ·exact k
 ·have := Rat.mul_nonneg (show (0 : Rat) ≤ ((x.den : Int) : Rat) by grind) (show (0 : Rat) ≤ -x.re by grind)
  grind
def Wt (n:Nat) (d:Nat → Qi):Prop:=∀ i,i < n → (d i).conj = d i ∧ 0 ≤ (d i).re
theorem yZ {x y:Qi} (hx:x.conj = x) (h1:0 ≤ x.re) (h2:0 ≤ y.re):0 ≤ (x * y).re:=by
 have e:x.im = 0:=xU hx.symm
 have:(x * y).re = x.re * y.re - x.im * y.im:=rfl
 rw [this,e]
 have:=Rat.mul_nonneg h1 h2
 grind
theorem Nx (y:Qi):0 ≤ (y * y.conj).re:=by
 have:(y * y.conj).re = y.re * y.re - y.im * -y.im:=rfl
 have p1:=nB y.re
 have p2:=nB y.im
 rw [this]; grind
theorem a0N (f : Nat → Qi) : ∀ n, (∀ i, i < n → 0 ≤ (f i).re) → 0 ≤ (aI n f).re
 | 0,_=>by show (0:Rat) ≤ (0:Qi).re; decide +kernel
 | n + 1, h => by
  rw [pJ]
  have a:=a0N f n fun i hi=>h i zo
  have b:=h n zo
  show 0 ≤ (aI n f).re + (f n).re
  grind
section
variable {z:List Qi} {s:List (List Qi)}
theorem a3h (hp : z.all gU = true) : Wt z.length (gv z) := fun i hi => by
 have h:gU (gv z i) = true:=List.all_eq_true.1 hp _ (by rw [show gv z i = z[i] by simp [gv,List.getD,hi]]; exact List.getElem_mem hi)
 exact ⟨zD h,Ry h⟩
end
theorem Ii {p c : List (List Qi)} {N : Nat} (hc : c.length = N) (h : Psd N (gm c)) : Psd p.length (gm (iI p c)) := fun x => by
 rw [Cz (p':=x) (q':=x) (C':=fun a b=>pC N (gm p a) (gm p b) (gm c)) (fun _ _=>rfl) (fun _ _=>rfl) fun a b ha hb=>yO hc ha hb,Ll]
 exact h _
theorem Li {a b : List (List Qi)} {x y : Nat} (ha : Psd x (gm a)) (hb : Psd y (gm b)) : Psd (x + y) (gm (oJ a b x y)) := fun p => by
 have z0:Qi.zero = (0:Qi):=rfl
 have e : pC (x + y) p p (gm (oJ a b x y)) = pC x p p (gm a) + pC y (fun i => p (x + i)) (fun i => p (x + i)) (gm b) := by
  rw [pC,oF]
  congr 1
  ·refine aB fun i hi => ?_
   rw [oF,dT (m:=y) fun j hj=>by rw [jS zo zo,if_pos hi,if_neg zo,z0]; grind]
   rw [aB fun j hj=>by rw [jS (show i < x + y by omega) (show j < x + y by omega),if_pos hi,if_pos hj]]; grind
  ·refine aB fun i hi => ?_
   rw [oF,dT (m:=x) fun j hj=>by rw [jS zo zo,if_neg zo,if_neg zo,z0]; grind]
   rw [aB fun j hj=>by rw [jS (show x + i < x + y by omega) (show x + j < x + y by omega),if_neg zo,if_pos zo,Nat.add_sub_cancel_left,Nat.add_sub_cancel_left]]; grind
 rw [e]
 have h1:=ha p
 have h2:=hb fun i=>p (x + i)
 have:∀ A B:Qi,(A + B).re = A.re + B.re:=fun _ _=>rfl
 rw [this]; grind
section
variable {z w:List Qi} {S:List (List Qi)} {js:List (Int × Int)} {n:Nat}
end
section
variable {z fz:List Qi} {s f:List (List Qi)} {p n:Nat}
end
section
variable {z:List Qi} {s:List (List Qi)} {g:Qi} {p n:Nat}
theorem a2k (hp:z.all gU = true) (hpn:p < z.length) (hg:(g * g.conj).re ≤ 1) {t:Qi} (ht:t.conj = t) (ht0:0 ≤ t.re):0 ≤ (Fj z g t p).re:=by
 obtain ⟨c1,c2⟩:=a3h hp p hpn
 have e:Fj z g t p = t * (gv z p * (1 - g * g.conj)):=(Np (z:=z) (g:=g) (t:=t) (p:=p)).symm
 rw [e]
 refine yZ ht ht0 (yZ c1 c2 ?_)
 have:(1 - g * g.conj).re = 1 - (g * g.conj).re:=rfl
 rw [this]; grind
theorem a56 {c : List (List Qi)} {t : Qi} (hz : z.length = n) (hp : p < n) (hpz : z.all gU = true) (hc : cF c n n) (hd : ntD s g p ≠ 0) (hg : (g * g.conj).re ≤ 1) (ht : t.conj = t) (ht0 : 0 ≤ t.re)
  (h:Psd n (gm c)):Psd (n - 1) (gm (ntC z s c g t p)):=by
 rw [← a03 hz hp hc hd rfl]
 have hr:=a2k (z:=z) (p:=p) hpz zo hg ht ht0
 have a : Psd 1 (gm [[Fj z g t p]]) := fun x => by
  have e:pC 1 x x (gm [[Fj z g t p]]) = 0 + (0 + x 0 * Fj z g t p * (x 0).conj):=rfl
  have e2:0 + (0 + x 0 * Fj z g t p * (x 0).conj) = Fj z g t p * (x 0 * (x 0).conj):=by grind
  rw [e,e2]
  have hcj : (Fj z g t p).conj = Fj z g t p := by
   have e3:Fj z g t p = t * (gv z p * (1 - g * g.conj)):=(Np (z:=z) (g:=g) (t:=t) (p:=p)).symm
   rw [e3,eL,eL,Ju,eL,mL,pN,ht,(a3h hpz p zo).1]; grind
  exact yZ hcj hr (Nx _)
 have b:=Li h a
 have d:=Ii (p:=tI (lV s g n) (J1 p n) (n + 1)) (uJ _ _ _ _).1 b
 rwa [show (tI (lV s g n) (J1 p n) (n + 1)).length = n - 1 by rw [tI,List.length_map,Ax hp,uW hp]] at d
end
end
section
open Go Go.RowKit
theorem qQ.eqv {r r':List Qi} {w:Nat} (h:qQ r w) (e:∀ j,gv r' j = gv r j):qQ r' w:=by
 obtain ⟨d,d0,dg,dj⟩:=h
 exact ⟨d,d0,dg,fun j=>by rw [e]; exact dj j⟩
def Wl (G V:List (List Qi)) (r:Nat):List Qi:=dN G r ++ (V.getD r []).map Qi.conj
theorem vT {G V:List (List Qi)} {n r j:Nat} (hG:cF G n n) (hr:r < n) (hj:j < n):gv (Wl G V r) j = gm G r j:=a24 (by rw [show (dN G r).length = n from hG.row hr]; exact hj)
theorem Jd {G V:List (List Qi)} {n r j:Nat} (hG:cF G n n) (hr:r < n) (hV:(V.getD r []).length = n) (hj:j < n):gv (Wl G V r) (n + j) = (gv (V.getD r []) j).conj:=by
 have hl:(dN G r).length = n:=hG.row hr
 have e:=a25 (z:=dN G r) (zb:=(V.getD r []).map Qi.conj) (k:=j)
 rw [hl] at e
 rw [Wl,e]
 generalize V.getD r [] = v at *
 simp only [gv,List.getD,List.getElem?_map]
 rw [List.getElem?_eq_getElem (show j < v.length by omega)]
 rfl
theorem Wm {G V : List (List Qi)} {n r j : Nat} (hG : cF G n n) (hr : r < n) (hV : (V.getD r []).length = n) (hj : n + n ≤ j) : gv (Wl G V r) j = 0 := Hh (by
 have hl:(dN G r).length = n:=hG.row hr
 rw [Wl,List.length_append,List.length_map,hl,hV]; exact hj)
theorem Pf {G V:List (List Qi)} {n r:Nat} (hG:cF G n n) (hr:r < n) (hV:(V.getD r []).length = n):(Wl G V r).length = n + n:=by
 have hl:(dN G r).length = n:=hG.row hr
 rw [Wl,List.length_append,List.length_map,hl,hV]
theorem Qd {h : List (List Qi)} {n w : Nat} (hs : cF h n n) (hh : lP h n = true) (h0 : ∀ r, r < n → qQ (Wl h (rO n) r) w) : ∀ i, i ≤ n → ∀ r, r < n → qQ (Wl (gM h n i).1 (gM h n i).2 r) (Pa w i)
 | 0,_,r,hr=>h0 r hr
 | i + 1, hi, r, hr => by
  have ih:=Qd hs hh h0 i zo
  obtain ⟨sG,sV⟩:=qG hs i zo
  by_cases k:gm (gM h n i).1 i i = 0
  ·rw [xB k]; exact (ih r hr).le (by simp only [Pa]; omega)
  ·have hE1 : ∀ c, c < n → gm (To (gM h n i).1 n i) r c = if i < r ∧ i < c then gm (gM h n i).1 r c - gm (gM h n i).1 r i * (gm (gM h n i).1 i c / gm (gM h n i).1 i i) else gm (gM h n i).1 r c := fun c hc => by
    rw [To,xC,jG hr hc]
    by_cases a:i < r ∧ i < c
    ·rw [if_pos ⟨a,.inl hc⟩,if_pos a]
    ·rw [if_neg (fun b=>a b.1),if_neg a]
   have sE:cF (To (gM h n i).1 n i) n n:=qH _ _ _ _ _
   have hVr:∀ r,r < n → ((gM h n i).2.getD r []).length = n:=fun r hr=>sV.row hr
   have hV2 : (oG (gM h n i).1 (gM h n i).2 n i n).getD r [] = if i < r then Zu ((gM h n i).2.getD r []) (-(gm (gM h n i).1 i r / gm (gM h n i).1 i i)) ((gM h n i).2.getD i []) else (gM h n i).2.getD r [] := by
    rw [oG,nC hr]
    by_cases a:i < r
    ·rw [if_pos ⟨a,hr⟩,if_pos a]
    ·rw [if_neg (fun b=>a b.1),if_neg a]
   have hl2 : ((oG (gM h n i).1 (gM h n i).2 n i n).getD r []).length = n := by
    rw [hV2]; split
    ·rw [Az]; exact hVr r hr
    ·exact hVr r hr
   rw [Gw k]
   by_cases c:i < r
   ·have hrd := qQ.red (P := fun j => i < j) (ih r hr) (ih i zo) (c := i) (by rw [vT sG zo zo]; exact k)
    refine hrd.eqv fun j=>?_
    have hal:=Pf sG hr (hVr r hr)
    by_cases hj:j < n + n
    ·rw [kK (by rw [hal]; exact hj)]
     by_cases hjn:j < n
     ·rw [vT sE hr hjn, hE1 j hjn, vT sG hr hjn, vT sG hr zo, vT sG zo zo, vT sG zo hjn]
      by_cases a:i < j
      ·rw [if_pos ⟨c,a⟩,if_pos a,Qi.div_def,Qi.div_def]; grind
      ·rw [if_neg (fun b=>a b.2),if_neg a]
     ·obtain ⟨j', rfl⟩ : ∃ j', j = n + j' := ⟨j - n, by omega⟩
      have hj':j' < n:=by omega
      rw [if_pos (show i < n + j' by omega),Jd sE hr hl2 hj',Jd sG hr (hVr r hr) hj',vT sG hr zo,vT sG zo zo,Jd sG zo (hVr i zo) hj',hV2,if_pos c]
      rw [Zu,kK (by rw [hVr r hr]; exact hj'),rD,eL]
      have e1 : (-(gm (gM h n i).1 i r / gm (gM h n i).1 i i)).conj = -(gm (gM h n i).1 r i / gm (gM h n i).1 i i) := by
       have a1:=tR hs hh (i:=i) (r:=r) (c:=i) zo zo hr (Nat.le_refl i) zo
       have a2:=tR hs hh (i:=i) (r:=i) (c:=i) zo (Nat.le_refl i) zo (Nat.le_refl i) zo
       have a3:=Xw (x:=gm (gM h n i).1 i r) a2.symm k
       have a4:∀ x:Qi,(-x).conj = -x.conj:=fun x=>Qi.ext' rfl rfl
       rw [a4,a3,← a1]
      rw [e1]; grind
    ·rw [Wm sE hr hl2 zo,Hh (by rw [aD,hal]; omega)]
   ·refine ((ih r hr).le (by simp only [Pa]; omega)).eqv fun j => ?_
    by_cases hjn:j < n
    ·rw [vT sE hr hjn,hE1 j hjn,vT sG hr hjn,if_neg (fun b=>c b.1)]
    ·by_cases hj : j < n + n
     ·obtain ⟨j', rfl⟩ : ∃ j', j = n + j' := ⟨j - n, by omega⟩
      rw [Jd sE hr hl2 zo,Jd sG hr (hVr r hr) zo,hV2,if_neg c]
     ·rw [Wm sE hr hl2 zo,Wm sG hr (hVr r hr) zo]
theorem a6m {h:List (List Qi)} {n L:Nat} (hs:cF h n n) (hh:lP h n = true) (hf:aN h L) (hL:1 ≤ L) (hLb:L ≤ 40000000) (hn:n ≤ 8):SzD h n (16384 * L + 1026) (16384 * L + 1026):=by
 have hi:aN (rO n) 1:=Qs (Nat.le_refl 1)
 have hb : ∀ r, r < n → qQ (Wl h (rO n) r) (16 * L) := fun r hr => by
  have hl:=Pf hs hr (V:=rO n) ((nR n).row hr)
  refine (Sf hl (L:=L) (fun x hx=>?_) hL).le (Nat.mul_le_mul_right _ zo)
  rcases List.mem_append.1 hx with k | k
  ·exact hf.row r x k
  ·obtain ⟨y, hy, rfl⟩ := List.mem_map.1 k
   haveI:aE y 1:=hi.row r y hy
   exact (fitConj:aE y.conj 1).le hL
 have ha:=Qd hs hh hb
 have key : ∀ i, i ≤ n → ∀ r, r < n → bP (Wl (gM h n i).1 (gM h n i).2 r) (16384 * L + 1026) := fun i hi r hr x hx => by
  refine ((((ha i hi r hr).le (Nat.le_trans (uL _ hi) (uL _ hn))).fit x hx)).le ?_
  simp only [Pa]; omega
 refine ⟨fun i hi r hr x hx=>?_,fun i hi r hr x hx=>?_,by omega,by omega,by omega⟩
 ·obtain ⟨j, hj, e⟩ := List.getElem_of_mem hr
  have hl:=(qG hs i hi).1.1
  refine key i hi j zo x (List.mem_append_left _ ?_)
  rw [show dN (gM h n i).1 j = r by rw [← e]; simp [dN,List.getD,hj]]; exact hx
 ·obtain ⟨j, hj, e⟩ := List.getElem_of_mem hr
  have hl:=(qG hs i hi).2.1
  have:=key i hi j zo x.conj (List.mem_append_right _ (List.mem_map.2 ⟨x,by rw [show (gM h n i).2.getD j [] = r by rw [← e]; simp [List.getD,hj]]; exact hx,rfl⟩))
  rw [← mL x]; exact fitConj
theorem a2g {A B S:List (List Qi)} {n L:Nat} (hB:cF B n n) (hE:sP B n = 0) (hS:∀ i,i < n → ∀ j,j < n → (aI n fun u=>gm S i u * gm B u j) = gm A i j) (hfB:aN B L) (hfA:aN A L) (hL:1 ≤ L) (hn:n ≤ 8) {i k:Nat} (hi:i < n) (hk:k < n):aE (gm S i k) (De L):=by
 have hT:cF (tab n fun i=>tab n fun j=>gm B j i) n n:=cF.tab
 have hfT:aN (tab n fun i=>tab n fun j=>gm B j i) L:=aN.tab fun i j _ _=>hfB.get hL j i
 have hfb:bP (tab n fun j=>gm A i j) L:=bP.tab fun j _=>hfA.get hL i j
 have r:=Zg hB hE
 have ker : ∀ y : Nat → Qi, (∀ j, j < n → aI n (fun u => gm (tab n fun i => tab n fun j => gm B j i) j u * y u) = 0) → ∀ k, k < n → y k = 0 := fun y hy k hk => by
  have e1 : ∀ j, j < n → (aI n fun u => y u * gm B u j) = 0 := fun j hj => by
   rw [← hy j hj]; exact aB fun u hu=>by rw [jG hj hu]; grind
  have e2:(aI n fun j=>(aI n fun u=>y u * gm B u j) * gm (qA B n) j k) = 0:=dT fun j hj=>by rw [e1 j hj]; grind
  have e3 : (aI n fun j => (aI n fun u => y u * gm B u j) * gm (qA B n) j k) = aI n fun u => y u * gm (rO n) u k := by
   rw [aB fun j _=>(iM n _ _).symm,jJ]
   refine aB fun u hu=>?_
   rw [← r,mZ hu hk,← kC]
   exact aB fun j _=>by grind
  rw [e3,eA hk fun u hu hne=>by rw [vX hu hk,if_neg hne]; grind,vX hk hk,if_pos rfl] at e2
  grind
 have hs : jF (tab n fun i => tab n fun j => gm B j i) (tab n fun j => gm A i j) n = 0 := by
  apply Classical.byContradiction; intro e
  obtain ⟨y,hy,k,hk,hne⟩:=Df hT e
  exact hne (ker y hy k hk)
 obtain ⟨h1,h2⟩:=pS hT hs
 have e : gm S i k - gv (iY (tab n fun i => tab n fun j => gm B j i) (tab n fun j => gm A i j) n) k = 0 := ker (fun k => gm S i k - gv (iY (tab n fun i => tab n fun j => gm B j i) (tab n fun j => gm A i j) n) k) (fun j hj => by
  have a:=h1 j hj
  rw [kK hj] at a
  have b:=hS i hi j hj
  have c : (aI n fun u => gm (tab n fun i => tab n fun j => gm B j i) j u * gm S i u) = gm A i j := by
   rw [← b]; exact aB fun u hu=>by rw [jG hj hu]; grind
  have d : (aI n fun u => gm (tab n fun i => tab n fun j => gm B j i) j u * (gm S i u - gv (iY (tab n fun i => tab n fun j => gm B j i) (tab n fun j => gm A i j) n) u)) = (aI n fun u => gm (tab n fun i => tab n fun j => gm B j i) j u * gm S i u) - aI n fun u => gm (tab n fun i => tab n fun j => gm B j i) j u * gv (iY (tab n fun i => tab n fun j => gm B j i) (tab n fun j => gm A i j) n) u := by
   rw [Vn]; exact aB fun u _=>by grind
  rw [d,c,a]; grind) k hk
 have f:=(Lt hT hfT hfb hL hn hs).get (Iq L) k
 have e2:gm S i k = gv (iY (tab n fun i=>tab n fun j=>gm B j i) (tab n fun j=>gm A i j) n) k:=by grind
 rw [e2]; exact f
end
section
open Go Go.RowKit
def Hm (n:Nat) (C:Nat → Nat → Qi):Prop:=∀ a,a < n → ∀ b,b < n → C a b = (C b a).conj
theorem Zb {h:List (List Qi)} {n:Nat}:lP h n = true ↔ Hm n (gm h):=by rw [lP,decide_eq_true_iff]; rfl
theorem Ux {N:Nat} {p q:Nat → Qi} {C:Nat → Nat → Qi} (h:Hm N C):pC N p q C = (pC N q p C).conj:=by
 rw [pC,pC,pO,jJ]
 refine aB fun b hb=>?_
 rw [pO]
 exact aB fun a ha=>by rw [eL,eL,mL,h a ha b hb]; grind
section
variable {p c a b:List (List Qi)} {N x y:Nat}
theorem Nk (hc : c.length = N) (h : Hm N (gm c)) : Hm p.length (gm (iI p c)) := fun i hi j hj => by
 rw [yO hc hi hj,yO hc hj hi]; exact Ux h
theorem Qr (ha : Hm x (gm a)) (hb : Hm y (gm b)) : Hm (x + y) (gm (oJ a b x y)) := fun i hi j hj => by
 have z0:Qi.zero = (0:Qi):=rfl
 rw [jS hi hj,jS hj hi,z0]
 by_cases ci:i < x
 ·by_cases cj : j < x
  ·rw [if_pos ci,if_pos cj,if_pos cj,if_pos ci]; exact ha i ci j cj
  ·rw [if_pos ci,if_neg cj,if_neg cj,if_neg zo,iX]
 ·by_cases cj : j < x
  ·rw [if_neg ci,if_neg zo,if_pos cj,if_neg ci,iX]
  ·rw [if_neg ci,if_pos zo,if_neg cj,if_pos zo]; exact hb _ zo _ zo
theorem Jr {P C : Nat} (hp : aN p P) (hc : aN c C) (hP : 1 ≤ P) (hC : 1 ≤ C) (hn : c.length ≤ 8) : aN (iI p c) (64 * (2 * P + C + 3) + 32) := aN.tab fun i k _ _ => by
 have h0 : ∀ u v, aE (pY p c i k u v) (P + C + 1 + P + 1) := fun u v => by
  haveI:=hp.get hP i u; haveI:=hp.get hP k v; haveI:=hc.get hC u v
  haveI:aE (gm p k v).conj P:=fitConj
  haveI:aE (gm p i u * gm c u v) (P + C + 1):=fitMul
  exact fitMul (L:=P + C + 1) (M:=P)
 have h1:∀ u,aE (aI c.length fun v=>pY p c i k u v) (1 + c.length * (P + C + 1 + P + 1 + 1)):=fun u=>aE.sum fun v _=>h0 u v
 have h2:aE (Ti p c c.length i k) (1 + c.length * (1 + c.length * (P + C + 1 + P + 1 + 1) + 1)):=aE.sum fun u _=>h1 u
 refine h2.le ?_
 have e1:c.length * (P + C + 1 + P + 1 + 1) ≤ 8 * (P + C + 1 + P + 1 + 1):=Nat.mul_le_mul_right _ hn
 have e2:c.length * (1 + c.length * (P + C + 1 + P + 1 + 1) + 1) ≤ 8 * (1 + 8 * (P + C + 1 + P + 1 + 1) + 1):=Nat.mul_le_mul hn zo
 omega
end
structure Bp (n:Nat) (c:List (List Qi)):Prop where
 sh:cF c n n
 ft:aN c 40000000
 hm:Hm n (gm c)
 ps:Psd n (gm c)
 n8:n ≤ 8
theorem Bp.df {n:Nat} {c:List (List Qi)} (k:Bp n c):Tn c n = true:=(a2U k.sh).2 ⟨Zb.2 k.hm,k.ps⟩
theorem Bp.szd {n:Nat} {c:List (List Qi)} (k:Bp n c):SzD c n (16384 * 40000000 + 1026) (16384 * 40000000 + 1026):=a6m k.sh (Zb.2 k.hm) k.ft (by decide) (by decide) k.n8
theorem Hg {c:List (List Qi)} {n m i k:Nat} (hi:i < n) (hk:k < n):gm (iJ c (mR c n m) n m n) i k = aI m fun j=>gm c i j * (gm c k j).conj:=by
 rw [mZ hi hk]; exact aB fun j hj=>by rw [show gm (mR c n m) j k = (gm c k j).conj from jG hj hk]
theorem a1T {c:List (List Qi)} {n m:Nat} (hf:aN c 2) (h8:n ≤ 8) (h9:m ≤ 9):Bp n (iJ c (mR c n m) n m n) ∧ aN (iJ c (mR c n m) n m n) 60:=by
 have ft : aN (iJ c (mR c n m) n m n) 60 := aN.tab fun i k _ hk => by
  have : aE (qU c (mR c n m) m i k) (1 + m * (2 + 2 + 1 + 1)) := aE.sum fun j _ => by
   haveI:=hf.get (by decide) i j
   haveI:=(Bs (n:=n) (m:=m) hf (by decide)).get (by decide) j k
   exact fitMul
  exact this.le zo
 refine ⟨⟨jO,ft.le (by decide),fun i hi k hk=>?_,fun x=>?_,h8⟩,ft⟩
 ·rw [Hg hi hk,Hg hk hi,pO]; exact aB fun j _=>by rw [eL,mL]; grind
 ·rw [Cz (p' := x) (q' := x) (C' := fun a b => pC m (gm c a) (gm c b) (fun u v => if u = v then 1 else 0)) (fun _ _ => rfl) (fun _ _ => rfl) fun a b ha hb => by rw [Hg ha hb, Fp]; exact aB fun j _ => by grind, Ll, Fp]
  exact a0N _ m fun i _ => by
   have:=Nx (aI n fun a=>x a * gm c a i)
   rwa [show (aI n fun a=>x a * gm c a i) * 1 * (aI n fun a=>x a * gm c a i).conj = (aI n fun a=>x a * gm c a i) * (aI n fun a=>x a * gm c a i).conj by grind]
theorem Yv {p c:List (List Qi)} {n:Nat} (k:Bp n c) (hp:p.length ≤ 8) (hps:aN (iI p c) 40000000):Bp p.length (iI p c):=⟨rC,hps,Nk k.sh.1 k.hm,Ii k.sh.1 k.ps,hp⟩
section
variable {z:List Qi} {s c:List (List Qi)} {g t:Qi} {p n:Nat}
theorem a01 (hz : bP z 2) (hs : aN s 2) (hc : aN c 60) (hg : aE g 2) (ht : aE t 2) (hl : c.length ≤ 8) : aN (ntC z s c g t p) 40000000 := aN.tab fun a b _ _ => by
 haveI f1:aE (gm (iI (zA s g p z.length z.length) c) a b) (64 * (2 * 28 + 60 + 3) + 32):=(Jr (P:=28) ((Rj hs hg).le (by decide)) hc (by decide) (by decide) hl).get (by decide) a b
 haveI f2:=Rl (p:=p) hz hg ht
 haveI f3:aE (gv (Ba s g p z.length) a) 27:=(Ib hs hg).get (by decide) a
 haveI f4:aE (gv (Ba s g p z.length) b) 27:=(Ib hs hg).get (by decide) b
 exact (fitAdd (x:=gm (iI (zA s g p z.length z.length) c) a b) (y:=Fj z g t p * (gv (Ba s g p z.length) a * (gv (Ba s g p z.length) b).conj))).le (by decide)
theorem a61 (k:Bp n c) (hz:z.length = n) (hp:p < n) (hpz:z.all gU = true) (hd:ntD s g p ≠ 0) (hg:(g * g.conj).re ≤ 1) (ht:t.conj = t) (ht0:0 ≤ t.re) (hf:aN (ntC z s c g t p) 40000000):Bp (n - 1) (ntC z s c g t p):=by
 have hcj : (Fj z g t p).conj = Fj z g t p := by
  have e3:Fj z g t p = t * (gv z p * (1 - g * g.conj)):=(Np (z:=z) (g:=g) (t:=t) (p:=p)).symm
  rw [e3,eL,eL,Ju,eL,mL,pN,ht,(a3h hpz p zo).1]; grind
 have hl:(tI (lV s g n) (J1 p n) (n + 1)).length = n - 1:=by rw [tI,List.length_map,Ax hp,uW hp]
 refine ⟨by rw [ntC,hz]; exact cF.tab,hf,?_,a56 hz hp hpz k.sh hd hg ht ht0 k.ps,by have:=k.n8; omega⟩
 rw [← a03 hz hp k.sh hd rfl]
 have a : Hm 1 (gm [[Fj z g t p]]) := fun i hi j hj => by
  obtain rfl:i = 0:=by omega
  obtain rfl:j = 0:=by omega
  exact hcj.symm
 have d:=Nk (p:=tI (lV s g n) (J1 p n) (n + 1)) (uJ _ _ _ _).1 (Qr k.hm a)
 rwa [hl] at d
end
theorem a5V {x:Qi} (hx:x.im = 0):(rV x (Qi.ofInt 1) ≤ 0 ↔ x.re ≤ 1) ∧ (0 ≤ rV x (Qi.ofInt 1) ↔ 1 ≤ x.re):=by
 have hb:=a0n hx
 have e1:(Qi.ofInt 1).den = 1:=by decide +kernel
 have e2:(Qi.ofInt 1).a = 1:=by decide +kernel
 have e3:(Qi.ofInt 1).b = 0:=by decide +kernel
 have ec : rV x (Qi.ofInt 1) = oT x.a x.den := by
  rw [rV,e1,e2,e3,hb]
  simp only [Int.natCast_one,Int.mul_one,Int.one_mul,Int.zero_mul]
  by_cases k:oT x.a x.den = 0
  ·rw [if_neg (fun q=>q k),k]; decide
  ·rw [if_pos k]
 obtain ⟨d1,_⟩:=rW x
 have dp:=qF x
 have key : ∀ a d : Int, ((a : Rat) = (d : Rat) * x.re) → (0 : Rat) < (d : Rat) → ((a ≤ d ↔ x.re ≤ 1) ∧ (d ≤ a ↔ 1 ≤ x.re)) := fun a d h hd => by
  have c1:(a ≤ d) ↔ (a:Rat) ≤ (d:Rat):=by exact_mod_cast Iff.rfl
  have c2:(d ≤ a) ↔ (d:Rat) ≤ (a:Rat):=by exact_mod_cast Iff.rfl
  rw [c1,c2,h]
  have m1 : ∀ u v : Rat, u ≤ v → (d : Rat) * u ≤ (d : Rat) * v := fun u v q => by
   have:=Rat.mul_nonneg (show (0:Rat) ≤ (d:Rat) by grind) (show (0:Rat) ≤ v - u by grind); grind
  have m2 : ∀ u v : Rat, (d : Rat) * u ≤ (d : Rat) * v → u ≤ v := fun u v q => by
   rcases Rat.le_total (a:=u) (b:=v) with k | k
   ·exact k
   ·have a1 := m1 v u k
    have a2:(d:Rat) * (u - v) = 0:=by grind
    rcases Rat.mul_eq_zero.1 a2 with e | e
    ·grind
    ·grind
  constructor
  ·constructor
   ·intro q; exact m2 _ _ (by grind)
   ·intro q; have:=m1 _ _ q; grind
  ·constructor
   ·intro q; exact m2 _ _ (by grind)
   ·intro q; have:=m1 _ _ q; grind
 have k1:=key x.a x.den (by grind) dp
 rw [ec,← k1.1,← k1.2]
 unfold oT
 constructor
 ·split
  ·exact ⟨fun _=>by omega,fun _=>by decide⟩
  ·split
   ·exact ⟨fun q=>absurd q (by decide),fun q=>by omega⟩
   ·exact ⟨fun _=>by omega,fun _=>by decide⟩
 ·split
  ·exact ⟨fun q=>absurd q (by decide),fun q=>by omega⟩
  ·split
   ·exact ⟨fun _=>by omega,fun _=>by decide⟩
   ·exact ⟨fun _=>by omega,fun _=>by decide⟩
theorem a2u (g:Qi):g.norm.im = 0:=rfl
theorem Ia (g:Qi):g.norm.re = (g * g.conj).re:=by rw [Qi.mul_conj_norm]
theorem a0m {x d q:Qi} (h:q * d = x) (hx:x.im = 0) (hx0:0 ≤ x.re) (hd:d.im = 0) (hd0:0 ≤ d.re) (hne:d ≠ 0):q.im = 0 ∧ 0 ≤ q.re:=by
 have e1:(q * d).re = q.re * d.re - q.im * d.im:=rfl
 have e2:(q * d).im = q.re * d.im + q.im * d.re:=rfl
 rw [h,hd] at e1 e2
 have hdr:d.re ≠ 0:=fun e=>hne (Qi.ext' e hd)
 constructor
 ·have : q.im * d.re = 0 := by grind
  rcases Rat.mul_eq_zero.1 this with k | k
  ·exact k
  ·exact absurd k hdr
 ·rcases Rat.le_total (a := 0) (b := q.re) with k | k
  ·exact k
  ·have m := Rat.mul_nonneg (show (0 : Rat) ≤ -q.re by grind) hd0
   have:q.re * d.re = 0:=by grind
   rcases Rat.mul_eq_zero.1 this with k2 | k2
   ·grind
   ·exact absurd k2 hdr
theorem a1P {z:List Qi} {s c:List (List Qi)} {g t0:Qi} (k:Bp z.length c) (hpz:z.all gU = true) (hg:(g * g.conj).re ≤ 1) (he:(pZ z s c g t0).2 = 0):(pZ z s c g t0).1.im = 0 ∧ 1 ≤ (pZ z s c g t0).1.re:=by
 unfold pZ at he ⊢
 by_cases ht:gU t0 = false
 ·rw [if_pos ht] at he; exact absurd he (by show ¬ (1:Int) = 0; decide)
 rw [if_neg ht] at he ⊢
 by_cases hl:z.length ≠ 2
 ·rw [if_pos hl] at he; exact absurd he (by show ¬ (4:Int) = 0; decide)
 rw [if_neg hl] at he ⊢
 by_cases hD:qV z s g t0 = Qi.zero
 ·rw [if_pos hD] at he; exact absurd he (by show ¬ (3:Int) = 0; decide)
 rw [if_neg hD]
 have hl2:z.length = 2:=by omega
 have htp:gU t0 = true:=by simpa using ht
 have hw:(zY s g).length = 1:=rfl
 have hps:=Ii (p:=zY s g) k.sh.1 k.ps fun _=>1
 have hhm:=Nk (p:=zY s g) k.sh.1 k.hm 0 (by rw [hw]; decide) 0 (by rw [hw]; decide)
 have hX0 : 0 ≤ (xE s c g).re := by
  have e : pC (zY s g).length (fun _ => 1) (fun _ => 1) (gm (iI (zY s g) c)) = xE s c g := by
   rw [hw]
   show (0:Qi) + ((0:Qi) + 1 * gm (iI (zY s g) c) 0 0 * (1:Qi).conj) = gm (iI (zY s g) c) 0 0
   rw [pN]; grind
  rw [e] at hps; exact hps
 have hXi:(xE s c g).im = 0:=xU hhm
 obtain ⟨c1,c2⟩:=a3h hpz 0 zo
 have hDi : (qV z s g t0).conj = qV z s g t0 ∧ 0 ≤ (qV z s g t0).re := by
  have n1:(gm s 1 0).norm.conj = (gm s 1 0).norm:=pE rfl
  have n2:0 ≤ (gm s 1 0).norm.re:=by rw [Ia]; exact Nx _
  have n3:(rJ - g.norm).conj = rJ - g.norm:=pE (by show (0:Rat) - 0 = 0; grind)
  have n4 : 0 ≤ (rJ - g.norm).re := by
   have : (rJ - g.norm).re = 1 - (g * g.conj).re := by
    rw [← Ia]; rfl
   rw [this]; grind
  have n5:(t0 * gv z 0).conj = t0 * gv z 0:=by rw [eL,zD htp,c1]
  have n6:0 ≤ (t0 * gv z 0).re:=yZ (zD htp) (Ry htp) c2
  rw [qV]
  refine ⟨by rw [eL,eL,n1,n5,n3],yZ n1 n2 (yZ n5 n6 n4)⟩
 obtain ⟨q1,q2⟩:=a0m (qT (x:=xE s c g) hD) hXi hX0 (xU hDi.1.symm) hDi.2 hD
 have o1:rJ.im = 0:=by decide +kernel
 have o2:rJ.re = 1:=by decide +kernel
 have r1:(rJ + xE s c g / qV z s g t0).im = rJ.im + (xE s c g / qV z s g t0).im:=rfl
 have r2:(rJ + xE s c g / qV z s g t0).re = rJ.re + (xE s c g / qV z s g t0).re:=rfl
 exact ⟨by rw [r1,o1,q1]; grind,by rw [r2,o2]; grind⟩
end
section
open Go Go.RowKit
theorem a1r {z:List Qi} {s c:List (List Qi)} {e:Int} (h:e = 0 → Bp z.length c):bR Tryz.prog 44 [eH z s c,aP .i64 e] (aH true):=by
 refine bR.intro Tryz.func44 rfl Tryz.ntmps44 rfl (fun cx=>(ts (rn rfl (fG (Ht rfl)) fun B2=>(ro rfl (cQ cV) (eX (cK (ts (rm rfl (ro rfl (kM (Ht rfl) cV) (eX (dQ (Ht rfl) (fun hc=>?_) (fun hc=>?_))))))))))))
 ·refine ts (ro rfl (cQ cV) (eX ?_))
  exact fW rfl (eU rfl)
 ·have he : e = 0 := by simpa using hc
  have k:=h he
  have hP:=Mu (z:=z) (s:=s) k.sh k.ft (by decide) (by decide) (fun _=>k.szd) (by have:=k.n8; omega)
  have hW:=a1I (h:=c) (n:=z.length)
  rw [k.df] at hP
  rw [show dfW c z.length = [] by simpa [k.df] using hW] at hP
  refine cU (ts (ro rfl (eJ A_80 Z_80 (Ht rfl) (i:=0) rfl rfl rfl) (ro rfl (cZ Tryz.call45 hP ⟨(Ht rfl),trivial⟩) (rm rfl (ro rfl (dK (Ht rfl) rfl) (ro rfl (dK (Ht rfl) rfl) (ra rfl (ra rfl (eX (ts (rm rfl (rm rfl (fQ rfl rfl (eK rfl rfl (Ht rfl) (fun h=>cX (Ht rfl))) (fQ rfl rfl (eK rfl rfl (Ht rfl) (fun h=>dG U_25 (fJ rfl h) (by rfl))) ?_))))))))))))))
  refine fQ rfl rfl (eK rfl rfl (Ht rfl) (fun h=>eB (fJ rfl h) (cJ 0))) (ro rfl (fC (Ht rfl) (fun h=>(fJ rfl h))) (ra rfl (eX (fW rfl (fX (eU rfl) ?_)))))
  exact (fA (by simp))
structure Wa where
 z:List Qi
 s:List (List Qi)
 c:List (List Qi)
 e:Int
 h:e = 0 → Bp z.length c
section
variable {z w:List Qi} {s c:List (List Qi)} {js:List (Int × Int)} {g t:Qi} {port:Int}
theorem Yz (hE:yX z s js = 0):(tI s js z.length).length = (Hu z s js).length:=by
 rw [Hu,dM,if_pos hE]
 by_cases h0:js.length = 0
 ·obtain rfl : js = [] := List.length_eq_zero_iff.1 h0
  rw [if_pos h0,tI,List.length_map]
  have : ∀ n, (lU [] n).length = n := fun n => by
   induction n with
   | zero=>rfl
   | succ n ih=>rw [lU,if_neg (by simp),List.length_append,ih]; rfl
  exact this _
 ·rw [if_neg h0,tI,List.length_map,a64,Dh,aD]; rfl
theorem a1U (k:Bp z.length c) (hs:aN s 2) (hc:aN c 60) (hE:yX z s js = 0):Bp (Hu z s js).length (Zy z s c js):=by
 have hf:=Zz (js:=js) hs (hc.le (by decide)) k.n8 k.sh
 have h1:=Yz hE
 have e:Zy z s c js = iI (tI s js z.length) c:=by rw [Zy,dM,if_pos hE]
 rw [← h1,e]
 rw [e] at hf
 refine Yv k ?_ (hf.le (by decide))
 rw [tI,List.length_map]
 exact Nat.le_trans (sB _ _) k.n8
theorem a31 (hz:bP z 2) (hw:bP w 2) (hs:aN s 2) (hp:z.all gU = true) (h8:z.length ≤ 8) (hl:w.length = z.length) (hE:Fq z w s = 0):aN (xZ z w s) (De 28):=by
 obtain ⟨hq,hi,hS,-⟩:=yA (n:=w.length) hl.symm rfl hE
 have hB:cF (Ae z w s) w.length w.length:=xM _ _ _ _
 have hfB:aN (Ae z w s) 28:=xL (xY hz hw (by decide) (by decide) hp hl) (xX hz hw (by decide) (by decide) hp hl) hs (by decide) (by decide)
 have hfA:aN (Vy z w s) 28:=xL (xX hz hw (by decide) (by decide) hp hl) (xY hz hw (by decide) (by decide) hp hl) hs (by decide) (by decide)
 have key:=fun i j hi' hj=>a2g (A:=Vy z w s) (S:=xZ z w s) hB hi (fun i hi j hj=>a59 (n:=w.length) hl.symm rfl hE hi hj) hfB hfA (by decide) zo (i:=i) (k:=j) hi' hj
 have sh:cF (xZ z w s) w.length w.length:=by rw [hS]; exact jO
 rw [mY sh]
 exact aN.tab fun i j hi' hj=>key i j hi' hj
theorem a4q (k:Bp z.length c) (hz:bP z 2) (hw:bP w 2) (hs:aN s 2) (hc:aN c 60) (hp:z.all gU = true) (hE:Fq z w s = 0):Bp (rnZ z w s).length (nrC z w s c):=by
 have hl:=a0t hE
 obtain ⟨hq,hi,hS,hZ⟩:=yA (n:=w.length) hl.symm rfl hE
 have h8:=k.n8
 have e:nrC z w s c = iI (nrM z w (xZ z w s) w.length) c:=by rw [nrC,dM,if_pos hE]
 have l1:=(Ri z w (xZ z w s) w.length).1
 have hP:aN (nrM z w (xZ z w s) w.length) 257200:=aN.tab fun i j _ hj=>(Rh (V:=De 28) (D:=2 + 3 * 2 + 2) (a31 hz hw hs hp h8 hl hE) (by decide) (vC hz hw (by decide) (by decide) hp zo)).le (by decide)
 have hf:=Jr (P:=257200) (C:=60) hP hc (by decide) (by decide) (by rw [k.sh.1]; exact h8)
 have d:=Yv k (p:=nrM z w (xZ z w s) w.length) zo (hf.le (by decide))
 rw [l1] at d
 rw [hZ,e]; exact d
theorem a4r (k:Bp z.length c) (hc:aN c 60) (hE:Ee z.length z.length = 0):Bp (Ef z z).length (wL z z c c):=by
 have h8 : z.length + z.length ≤ 8 := by
  apply Decidable.byContradiction; intro h
  rw [Sl zo] at hE; omega
 rw [Ef,wL,dM,dM,if_pos hE,if_pos hE,List.length_append]
 exact ⟨uJ _ _ _ _,(a0D hc hc (by decide)).le (by decide),Qr k.hm k.hm,Li k.ps k.ps,h8⟩
theorem a4s (k:Bp z.length c) (hz:bP z 2) (hs:aN s 2) (hc:aN c 60) (hg2:aE g 2) (ht2:aE t 2) (hp:z.all gU = true) (hg:(g * g.conj).re ≤ 1) (hE:Nz z s port g t = 0):Bp (ntZ z s port g t).length (ntQ z s c port g t):=by
 have hw : oL t = 0 := by
  apply Classical.byContradiction; intro h
  rw [Nz,if_neg h] at hE; exact h hE
 have hT:qY z s port g = 0:=by rw [Nz,if_pos hw] at hE; exact hE
 obtain ⟨h1,h2,hd⟩:=Ma hT
 have hb : Dp t = true := by
  apply Decidable.byContradiction; intro h
  rw [oL,if_neg h] at hw; omega
 rw [Dp,decide_eq_true_iff] at hb
 have ti:t.im = 0:=Qi.b_zero.1 hb.1
 have tr : 0 ≤ t.re := by
  obtain ⟨d1,_⟩:=rW t
  have dp:=qF t
  have ha:(0:Rat) ≤ ((t.a:Int):Rat):=by exact_mod_cast hb.2
  rcases Rat.le_total (a:=0) (b:=t.re) with q | q
  ·exact q
  ·have m := Rat.mul_nonneg (show (0 : Rat) ≤ ((t.den : Int) : Rat) by grind) (show (0 : Rat) ≤ -t.re by grind)
   have:((t.den:Int):Rat) * t.re = 0:=by grind
   rcases Rat.mul_eq_zero.1 this with e | e
   ·grind
   ·grind
 have hp2:(port - 1).toNat < z.length:=by omega
 rw [ntZ,ntQ,dM,dM,if_pos hE,if_pos hE,show (zE z (port - 1).toNat (z.length - 1)).length = z.length - 1 from aD _ _]
 exact a61 k rfl hp2 hp hd hg (pE ti) tr (a01 hz hs hc hg2 ht2 (by rw [k.sh.1]; exact k.n8))
end
theorem a23 {z : List Rt} {s c : List (List Rt)} {M : List (List Qi)} {e1 : Int} (hM : e1 = 0 → ∃ n m, cF (rq c) n m ∧ n ≤ 9 ∧ m ≤ 9 ∧ M = iJ (rq c) (mR (rq c) n m) n m (if m = 0 then 0 else n)) (h0 : eS (z.map Rt.q) (rq s) = 0) (h1 : e1 = 0) (h2 : fS (z.map Rt.q) M = 0) :
  Bp (z.map Rt.q).length M ∧ aN M 60:=by
 obtain ⟨n,m,q1,q2,q3,rfl⟩:=hM h1
 obtain ⟨g1,g2,g3,g4⟩:=uX h0
 have hl:(iJ (rq c) (mR (rq c) n m) n m (if m = 0 then 0 else n)).length = n:=jO.1
 have hn : n = (z.map Rt.q).length := by
  apply Classical.byContradiction; intro h
  rw [fS,if_pos (.inl (by rw [hl]; exact h))] at h2; exact absurd h2 (by decide)
 by_cases e:m = 0
 ·exfalso
  have hany : ((iJ (rq c) (mR (rq c) n m) n m (if m = 0 then 0 else n)).any fun r => !decide (r.length = (iJ (rq c) (mR (rq c) n m) n m (if m = 0 then 0 else n)).length)) = true := by
   rw [hl]
   refine List.any_eq_true.2 ⟨_,List.getElem_mem (show 0 < (iJ (rq c) (mR (rq c) n m) n m (if m = 0 then 0 else n)).length by rw [hl]; omega),?_⟩
   rw [(jO (a:=rq c) (b:=mR (rq c) n m) (n:=n) (k:=m) (m:=if m = 0 then 0 else n)).2 _ (List.getElem_mem _),if_pos e]
   simp; omega
  rw [fS,if_pos (.inr hany)] at h2
  exact absurd h2 (by decide)
 ·rw [if_neg e, ← hn]
  exact a1T (aN.rt:aN (rq c) 2) zo q3
theorem tM {z w:List Rt} {s c:List (List Rt)} {js:List (Int × Int)} {port:Int} {g tq:Rt}:bR Tryz.prog 6 [Wb z s c,Vu js,aP .i64 port,Mh g,Mh tq,vS w] (aH true):=by
 refine bR.intro Tryz.func6 rfl Tryz.ntmps6 rfl (fun cx=>(ts (rn rfl (fG (Ht rfl)) fun B6=>(rn rfl (fG (Ht rfl)) fun B9=>(rn rfl (fG (Ht rfl)) fun B10=>(ro rfl (cQ cV) (eX (cK (ts (ro rfl (eJ Tryz.isAgg77 Tryz.sizeOf77 (Ht rfl) (i:=0) rfl rfl rfl) (ro rfl (cZ Tryz.call41 a5S ⟨(Ht rfl),trivial⟩) (ro rfl (dH (Ht rfl)) (rm rfl (fQ rfl rfl (eK rfl rfl (Ht rfl) (fun h=>cX (Ht rfl))) (fQ rfl rfl (eK rfl rfl (Ht rfl) (fun h=>dG U_65 (fJ rfl h) aC)) (fQ rfl rfl (eK rfl rfl (Ht rfl) (fun h=>gA (fJ rfl h) (cJ 4))) ?_))))))))))))))))
 refine ro rfl (jQ (Ht rfl) (fun h=>(fJ rfl h))) (rm rfl (fQ rfl rfl (eK rfl rfl (Ht rfl) (fun h=>cX (Ht rfl))) (fQ rfl rfl (eK rfl rfl (Ht rfl) (fun h=>dG U_22 (fJ rfl h) aC)) (fQ rfl rfl (eK rfl rfl (Ht rfl) (fun h=>gA (fJ rfl h) (cJ 9))) (ro rfl (jQ (Ht rfl) (fun h=>(fJ rfl h))) (eX (dQ (Ht rfl) (fun hb=>?_) (fun hb=>?_))))))))
 ·refine ts (ro rfl (cZ Tryz.call42 Gn trivial) (ra rfl (eX ?_)))
  exact fW rfl (eU rfl)
 ·have hf : yU z s c = true := by
   apply Decidable.byContradiction; intro h
   simp [h] at hb
  have hjl : js.length ≤ 4 := by
   apply Decidable.byContradiction; intro h
   simp [hf] at hb; omega
  have hwl : w.length ≤ 9 := by
   apply Decidable.byContradiction; intro h
   simp [hf] at hb; omega
  obtain ⟨f1,f2,f3,f4,f5⟩:=xF hf
  obtain ⟨D,M,e1,e2,hA,hP,hMl,hM2⟩:=Nj (C:=rq c) aN.rt (by rw [rq,List.length_map]; exact f3) (fun r hr=>by obtain ⟨x,hx,rfl⟩:=List.mem_map.1 hr; rw [List.length_map]; exact f5 x hx)
  have hG:=a48 (z:=z) (s:=s) hf hA hP hMl
  have hgo:=fun a b d=>a23 (z:=z) (s:=s) (c:=c) (M:=M) (e1:=e1) hM2 a b d
  have hz2:bP (z.map Rt.q) 2:=bP.rt
  have hs2:aN (rq s) 2:=aN.rt
  have hno:=fun h=>uX (z:=z.map Rt.q) (s:=rq s) h
  clear hA hP hM2
  obtain ⟨E0,hE0⟩:∃ E0,E0 = eS (z.map Rt.q) (rq s):=⟨_,rfl⟩
  rw [← hE0] at hG hgo hno
  obtain ⟨X0,hX0⟩:∃ X,X = dM (fS (dM E0 (z.map Rt.q)) M) (dM E0 (z.map Rt.q)):=⟨_,rfl⟩
  obtain ⟨X1,hX1⟩:∃ X,X = dM (fS (dM E0 (z.map Rt.q)) M) (dM E0 (rq s)):=⟨_,rfl⟩
  obtain ⟨X2,hX2⟩:∃ X,X = dM (fS (dM E0 (z.map Rt.q)) M) M:=⟨_,rfl⟩
  obtain ⟨BB,hBB⟩:∃ X,X = (((decide (E0 = 0) && decide (e1 = 0)) && decide (e2 = 0)) && decide (fS (dM E0 (z.map Rt.q)) M = 0)):=⟨_,rfl⟩
  rw [← hX0,← hX1,← hX2,← hBB] at hG
  have hgd : BB = true → Bp X0.length X2 ∧ aN X2 60 ∧ bP X0 2 ∧ aN X1 2 ∧ cF X1 X0.length X0.length ∧ X0.all gU = true := fun hb => by
   rw [hBB] at hb
   simp only [Bool.and_eq_true,decide_eq_true_eq] at hb
   obtain ⟨⟨⟨b1,b2⟩,b3⟩,b4⟩:=hb
   have o1:dM E0 (z.map Rt.q) = z.map Rt.q:=by rw [dM,if_pos b1]
   have o2:dM E0 (rq s) = rq s:=by rw [dM,if_pos b1]
   rw [o1] at b4 hX0 hX1 hX2
   rw [o2] at hX1
   rw [b4,dM,if_pos rfl] at hX0 hX1 hX2
   obtain ⟨g1,g2,g3,g4⟩:=hno b1
   obtain ⟨k1,k2⟩:=hgo b1 b2 b4
   rw [hX0,hX1,hX2]
   exact ⟨k1,k2,hz2,hs2,g3,g4⟩
  clear hgo hno hX0 hX1 hX2 hBB hE0
  refine cU (ts (ro rfl (eJ Tryz.isAgg77 Tryz.sizeOf77 (Ht rfl) (i:=0) rfl rfl rfl) (ro rfl (cZ Tryz.call43 hG ⟨(Ht rfl),trivial⟩) (rm rfl (ro rfl (dK (Ht rfl) rfl) (ro rfl (dK (Ht rfl) rfl) (rn rfl (eW (Ts:=[Is (.slice none 0 0),Is (.slice none 0 0),Is (.slice none 0 0)]) O_80 rfl (fun V=>aW zd (aW zd (aW zd (aG))))) fun B13=>(gQ Z_80 (Ht rfl) (Ht rfl) rfl (i:=3) rfl (aK rfl) rfl rfl (ra rfl (eX (cK (ts (rm rfl (ro rfl (dH (Ht rfl)) ?_))))))))))))))
  refine eX (dQ (Ht rfl) (fun hok=>?_) (fun hok=>?_))
  ·refine ts (ro rfl (cZ Tryz.call42 Gn trivial) (ra rfl (eX ?_)))
   exact fW rfl (eU rfl)
  ·have hbt : BB = true := by simpa using hok
   obtain ⟨k,c60,m4,m5,m1,mp⟩:=hgd hbt
   have h8:=k.n8
   have hg2:aE g.q 2:=inferInstance
   have hh2:aE tq.q 2:=inferInstance
   have hw2:bP (w.map Rt.q) 2:=bP.rt
   have hJ:=a1n (z:=X0) (s:=X1) (c:=X2) (js:=js) m4 m5 (c60.le (by decide)) m1 k.sh h8 zo
   have gJ:=fun hE=>a1U (js:=js) k m5 c60 hE
   have hR:=Tf (w:=w.map Rt.q) (c:=X2) (V:=2060000) (W:=60) m1 k.sh m4 hw2 m5 c60 (by decide) (by decide) (by decide) (by decide) (by decide) (by decide) (by decide) (by decide) mp h8 (by rw [List.length_map]; omega) (fun hl=>a3D m4 hw2 m5 mp h8 hl) (by decide) (a32 m4 hw2 m5 mp h8) (by decide) (by decide)
   have gR:=fun hE=>a4q (w:=w.map Rt.q) k m4 hw2 m5 c60 mp hE
   have hS:=Xk (z:=X0) (zb:=X0) (a:=X1) (b:=X1) (c:=X2) (cb:=X2) m1 m1 k.sh k.sh zo zo
   have gS:=fun hE=>a4r k c60 hE
   have hT:=Xl (port:=port) (G:=60) (by decide) (by decide) m4 m5 c60 hg2 hh2 m1 k.sh h8
   have gT:=fun hg hE=>a4s (port:=port) k m4 m5 c60 hg2 hh2 mp hg hE
   have hF:=Jh (z:=X0) (s:=X1) (c:=X2) (g:=g.q) (t0:=tq.q) (L:=60) (m4.le (by decide)) (m5.le (by decide)) c60 (hg2.le (by decide)) (hh2.le (by decide)) (by decide) (by decide) m1 k.sh h8
   have hFf:=Yr (z:=X0) (s:=X1) (c:=X2) (g:=g.q) (t0:=tq.q) (L:=60) (m4.le (by decide)) (m5.le (by decide)) c60 (hg2.le (by decide)) (hh2.le (by decide)) (by decide) (by rw [k.sh.1]; exact h8)
   have hfin:=fun hg he=>a1P (s:=X1) (g:=g.q) (t0:=tq.q) k mp hg he
   obtain ⟨cm1,cm2⟩:=a5V (a2u g.q)
   rw [Ia] at cm1 cm2
   generalize Hu X0 X1 js = J0 at *
   generalize Mc X0 X1 js = J1' at *
   generalize Zy X0 X1 X2 js = J2' at *
   generalize yX X0 X1 js = JE at *
   generalize rnZ X0 (w.map Rt.q) X1 = R0 at *
   generalize nrC X0 (w.map Rt.q) X1 X2 = R2 at *
   generalize xZ X0 (w.map Rt.q) X1 = R1 at *
   generalize Fq X0 (w.map Rt.q) X1 = RE at *
   generalize Ef X0 X0 = K0 at *
   generalize wL X0 X0 X1 X1 = K1 at *
   generalize wL X0 X0 X2 X2 = K2 at *
   generalize Ee X0.length X0.length = KE at *
   generalize ntZ X0 X1 port g.q tq.q = T0 at *
   generalize ntS X0 X1 port g.q tq.q = T1 at *
   generalize ntQ X0 X1 X2 port g.q tq.q = T2 at *
   generalize Nz X0 X1 port g.q tq.q = TE at *
   generalize (pZ X0 X1 X2 g.q tq.q).1 = FV at *
   generalize (pZ X0 X1 X2 g.q tq.q).2 = FE at *
   haveI hFV:aE FV 31200:=hFf
   haveI hgn:aE g.q.norm 5:=(fitNorm:aE g.q.norm (2 + 2 + 1))
   have hfin2 : FE = 0 → ¬ 0 ≤ rV g.q.norm (Qi.ofInt 1) → FV.b = 0 ∧ 0 ≤ rV FV (Qi.ofInt 1) := fun he hn => by
    obtain ⟨i1,i2⟩:=hfin (cm1.1 zo) he
    exact ⟨a0n i1,(a5V i1).2.2 i2⟩
   haveI hone:=iP
   have hCm:=Bu (x:=g.q.norm) (y:=Qi.ofInt 1) (L:=5) (M:=1) (by decide)
   have hCf:=Bu (x:=FV) (y:=Qi.ofInt 1) (L:=31200) (M:=1) (by decide)
   have hNo:=Mt (x:=g.q) (L:=2) zo
   have gT2:decide (rV g.q.norm (Qi.ofInt 1) ≤ 0) = true → (TE = 0 → Bp T0.length T2):=fun hg=>gT (cm1.1 (of_decide_eq_true hg))
   refine cU (ts (ro rfl (cQ (bH.fn Tryz.call44 (γ:=Wa) (Ts:=fun x=>[eH x.z x.s x.c,aP .i64 x.e]) (U:=fun _=>aH true) (fun x=>a1r x.h))) (eX (cK (cK (fZ (m:=32) (dp 15 rfl (cX (Ht rfl)) (dp 13 rfl (eJ A_80 Z_80 (Ht rfl) (i:=3) rfl rfl rfl) (cP 41 0 42 1 rfl (kR (Ts:=fun x:Wa=>[eH x.z x.s x.c,aP .i64 x.e]) (U:=fun _=>aH true) (⟨X0,X1,X2,0,fun _=>k⟩:Wa) (Ht rfl) ⟨(Ht rfl),(cJ 0),trivial⟩) (dq 43 2 rfl (dH (Ht rfl)) (dq 44 3 rfl (cX (Ht rfl)) (C.D_step (Ei:=[(15,_),(45,_)]) rfl rfl (bV (bK rfl rfl) (bV (bG 4 rfl rfl) bW)) (eK rfl rfl (Ht rfl) (fun h=>cX (Ht rfl))) ?_))))))))))))
   refine C.D_step (Ei:=[(13,_),(45,_)]) rfl rfl (bV (bK rfl rfl) (bV (bG 4 rfl rfl) bW)) (eK rfl rfl (Ht rfl) (fun h=>eJ A_80 Z_80 (Ht rfl) (i:=3) rfl rfl rfl)) (C.D_step (Ei:=[(1,_),(45,_)]) rfl rfl (bV (bK rfl rfl) (bV (bG 4 rfl rfl) bW)) (eK rfl rfl (Ht rfl) (fun h=>cX (Ht rfl))) (C.D_step (Ei:=[(47,_),(48,_),(45,_)]) rfl rfl (bV (bG 6 rfl rfl) (bV (bG 7 rfl rfl) (bV (bG 4 rfl rfl) bW))) (eK rfl rfl (Ht rfl) (fun h=>cZ Tryz.call46 hJ ⟨(fJ rfl h),(fJ rfl h),trivial⟩)) ?_))
   refine C.D_step (Ei:=[(49,_),(45,_)]) rfl rfl (bV (bG 8 rfl rfl) (bV (bG 4 rfl rfl) bW)) (eK rfl rfl (Ht rfl) (fun h=>dK (fJ rfl h) rfl)) (C.D_step (Ei:=[(49,_),(45,_)]) rfl rfl (bV (bG 8 rfl rfl) (bV (bG 4 rfl rfl) bW)) (eK rfl rfl (Ht rfl) (fun h=>dK (fJ rfl h) rfl)) (C.D_step (Ei:=[(46,_),(50,_),(51,_),(45,_)]) rfl rfl (bV (bG 5 rfl rfl) (bV (bG 9 rfl rfl) (bV (bG 10 rfl rfl) (bV (bG 4 rfl rfl) bW)))) (eK rfl rfl (Ht rfl) (fun h=>kR (Ts:=fun x:Wa=>[eH x.z x.s x.c,aP .i64 x.e]) (U:=fun _=>aH true) (⟨J0,J1',J2',JE,gJ⟩:Wa) (fJ rfl h) ⟨(fJ rfl h),(fJ rfl h),trivial⟩)) ?_))
   refine C.D_step (Ei:=[(52,_),(45,_)]) rfl rfl (bV (bG 11 rfl rfl) (bV (bG 4 rfl rfl) bW)) (eK rfl rfl (Ht rfl) (fun h=>dH (fJ rfl h))) (cP 45 4 53 12 rfl (jQ (Ht rfl) (fun h=>(fJ rfl h))) (dq 54 13 rfl (cX (Ht rfl)) (C.D_step (Ei:=[(15,_),(55,_)]) rfl rfl (bV (bK rfl rfl) (bV (bG 14 rfl rfl) bW)) (eK rfl rfl (Ht rfl) (fun h=>cX (Ht rfl))) (C.D_step (Ei:=[(13,_),(55,_)]) rfl rfl (bV (bK rfl rfl) (bV (bG 14 rfl rfl) bW)) (eK rfl rfl (Ht rfl) (fun h=>eJ A_80 Z_80 (Ht rfl) (i:=3) rfl rfl rfl)) ?_))))
   refine C.D_step (Ei:=[(5,_),(55,_)]) rfl rfl (bV (bK rfl rfl) (bV (bG 14 rfl rfl) bW)) (eK rfl rfl (Ht rfl) (fun h=>cX (Ht rfl))) (C.D_step (Ei:=[(58,_),(55,_)]) rfl rfl (bV (bG 17 rfl rfl) (bV (bG 14 rfl rfl) bW)) (eK rfl rfl (Ht rfl) (fun h=>cZ Tryz.call48 (uP zo) ⟨(fJ rfl h),trivial⟩)) (C.D_step (Ei:=[(57,_),(59,_),(55,_)]) rfl rfl (bV (bG 16 rfl rfl) (bV (bG 18 rfl rfl) (bV (bG 14 rfl rfl) bW))) (eK rfl rfl (Ht rfl) (fun h=>cZ Tryz.call47 hR ⟨(fJ rfl h),(fJ rfl h),trivial⟩)) ?_))
   refine C.D_step (Ei:=[(60,_),(55,_)]) rfl rfl (bV (bG 19 rfl rfl) (bV (bG 14 rfl rfl) bW)) (eK rfl rfl (Ht rfl) (fun h=>dK (fJ rfl h) rfl)) (C.D_step (Ei:=[(60,_),(55,_)]) rfl rfl (bV (bG 19 rfl rfl) (bV (bG 14 rfl rfl) bW)) (eK rfl rfl (Ht rfl) (fun h=>dK (fJ rfl h) rfl)) (C.D_step (Ei:=[(56,_),(61,_),(62,_),(55,_)]) rfl rfl (bV (bG 15 rfl rfl) (bV (bG 20 rfl rfl) (bV (bG 21 rfl rfl) (bV (bG 14 rfl rfl) bW)))) (eK rfl rfl (Ht rfl) (fun h=>kR (Ts:=fun x:Wa=>[eH x.z x.s x.c,aP .i64 x.e]) (U:=fun _=>aH true) (⟨R0,R1,R2,RE,gR⟩:Wa) (fJ rfl h) ⟨(fJ rfl h),(fJ rfl h),trivial⟩)) ?_))
   refine C.D_step (Ei:=[(63,_),(55,_)]) rfl rfl (bV (bG 22 rfl rfl) (bV (bG 14 rfl rfl) bW)) (eK rfl rfl (Ht rfl) (fun h=>dH (fJ rfl h))) (cP 55 14 64 23 rfl (jQ (Ht rfl) (fun h=>(fJ rfl h))) (dq 65 24 rfl (cX (Ht rfl)) (C.D_step (Ei:=[(15,_),(66,_)]) rfl rfl (bV (bK rfl rfl) (bV (bG 25 rfl rfl) bW)) (eK rfl rfl (Ht rfl) (fun h=>cX (Ht rfl))) (C.D_step (Ei:=[(13,_),(66,_)]) rfl rfl (bV (bK rfl rfl) (bV (bG 25 rfl rfl) bW)) (eK rfl rfl (Ht rfl) (fun h=>eJ A_80 Z_80 (Ht rfl) (i:=3) rfl rfl rfl)) ?_))))
   refine C.D_step (Ei:=[(13,_),(66,_)]) rfl rfl (bV (bK rfl rfl) (bV (bG 25 rfl rfl) bW)) (eK rfl rfl (Ht rfl) (fun h=>eJ A_80 Z_80 (Ht rfl) (i:=3) rfl rfl rfl)) (C.D_step (Ei:=[(68,_),(69,_),(66,_)]) rfl rfl (bV (bG 27 rfl rfl) (bV (bG 28 rfl rfl) (bV (bG 25 rfl rfl) bW))) (eK rfl rfl (Ht rfl) (fun h=>cZ Tryz.call49 hS ⟨(fJ rfl h),(fJ rfl h),trivial⟩)) (C.D_step (Ei:=[(70,_),(66,_)]) rfl rfl (bV (bG 29 rfl rfl) (bV (bG 25 rfl rfl) bW)) (eK rfl rfl (Ht rfl) (fun h=>dK (fJ rfl h) rfl)) ?_))
   refine C.D_step (Ei:=[(70,_),(66,_)]) rfl rfl (bV (bG 29 rfl rfl) (bV (bG 25 rfl rfl) bW)) (eK rfl rfl (Ht rfl) (fun h=>dK (fJ rfl h) rfl)) (fV bC rfl (by kernel_rfl) (zF (zF (zF (zF (zF (zF (zF (zF (aV (fQ rfl rfl (eK rfl rfl (Ht rfl) (fun h=>kR (Ts:=fun x:Wa=>[eH x.z x.s x.c,aP .i64 x.e]) (U:=fun _=>aH true) (⟨K0,K1,K2,KE,gS⟩:Wa) (fJ rfl h) ⟨(fJ rfl h),(fJ rfl h),trivial⟩)) ?_)))))))))))
   refine fQ rfl rfl (eK rfl rfl (Ht rfl) (fun h=>dH (fJ rfl h))) (ro rfl (jQ (Ht rfl) (fun h=>(fJ rfl h))) (eX (nO (Ht rfl) (by simp) ?_)))
   refine cU (ts (ro rfl (eJ A_48 Z_48 (Ht rfl) (i:=1) rfl rfl rfl) (ro rfl (cZ Tryz.call33 (Ag (r:=g)) ⟨(Ht rfl),trivial⟩) ?_)))
   refine rn rfl (eW (Ts:=[Is (.bool false),Is (.slice none 0 0),Is (.bool false),Is (.slice none 0 0),Is (.slice none 0 0)]) O_60 rfl (fun V=>aW zd (aW zd (aW zd (aW zd (aW zd (aG))))))) fun B16=>gQ Z_60 (Ht rfl) (Ht rfl) rfl (i:=4) rfl (aK rfl) rfl rfl (eX (cK (cK (fZ (m:=15) (dp 16 rfl (eJ A_60 Z_60 (Ht rfl) (i:=4) rfl rfl rfl) (dq 78 0 rfl (cZ Tryz.call50 hNo ⟨(Ht rfl),trivial⟩) ?_))))))
   refine d0 rfl (cZ K_52 (mK (n:=1) (by decide) (by decide)) ⟨(cJ 1),trivial⟩) (cP 79 1 80 2 rfl (cZ K_51 hCm ⟨(Ht rfl),(Ht rfl),trivial⟩) (dq 81 3 rfl (If (Ht rfl) cV) (dq 82 4 rfl (cX (Ht rfl)) (C.D_step (Ei:=[(15,_),(83,_)]) rfl rfl (bV (bK rfl rfl) (bV (bG 5 rfl rfl) bW)) (eK rfl rfl (Ht rfl) (fun h=>cX (Ht rfl))) (C.D_step (Ei:=[(13,_),(83,_)]) rfl rfl (bV (bK rfl rfl) (bV (bG 5 rfl rfl) bW)) (eK rfl rfl (Ht rfl) (fun h=>eJ A_80 Z_80 (Ht rfl) (i:=3) rfl rfl rfl)) ?_)))))
   refine C.D_step (Ei:=[(2,_),(83,_)]) rfl rfl (bV (bK rfl rfl) (bV (bG 5 rfl rfl) bW)) (eK rfl rfl (Ht rfl) (fun h=>cX (Ht rfl))) (C.D_step (Ei:=[(16,_),(83,_)]) rfl rfl (bV (bK rfl rfl) (bV (bG 5 rfl rfl) bW)) (eK rfl rfl (Ht rfl) (fun h=>eJ A_60 Z_60 (Ht rfl) (i:=4) rfl rfl rfl)) (C.D_step (Ei:=[(10,_),(83,_)]) rfl rfl (bV (bK rfl rfl) (bV (bG 5 rfl rfl) bW)) (eK rfl rfl (Ht rfl) (fun h=>eJ A_48 Z_48 (Ht rfl) (i:=2) rfl rfl rfl)) ?_))
   refine C.D_step (Ei:=[(88,_),(83,_)]) rfl rfl (bV (bG 10 rfl rfl) (bV (bG 5 rfl rfl) bW)) (eK rfl rfl (Ht rfl) (fun h=>cZ Tryz.call33 (Ag (r:=tq)) ⟨(fJ rfl h),trivial⟩)) ?_
   refine C.D_step (Ei:=[(85,_),(86,_),(87,_),(89,_),(83,_)]) rfl rfl (bV (bG 7 rfl rfl) (bV (bG 8 rfl rfl) (bV (bG 9 rfl rfl) (bV (bG 11 rfl rfl) (bV (bG 5 rfl rfl) bW))))) (eK rfl rfl (Ht rfl) (fun h=>cZ Tryz.call53 hT ⟨(fJ rfl h),(fJ rfl h),(fJ rfl h),(fJ rfl h),trivial⟩)) (C.D_step (Ei:=[(90,_),(83,_)]) rfl rfl (bV (bG 12 rfl rfl) (bV (bG 5 rfl rfl) bW)) (eK rfl rfl (Ht rfl) (fun h=>dK (fJ rfl h) rfl)) (C.D_step (Ei:=[(90,_),(83,_)]) rfl rfl (bV (bG 12 rfl rfl) (bV (bG 5 rfl rfl) bW)) (eK rfl rfl (Ht rfl) (fun h=>dK (fJ rfl h) rfl)) ?_))
   refine fV bC rfl (by kernel_rfl) (zF (zF (zF (aJ (aJ (aJ (aV (fQ rfl rfl (eK rfl rfl (Ht rfl) (fun h=>kR (Ts:=fun x:Wa=>[eH x.z x.s x.c,aP .i64 x.e]) (U:=fun _=>aH true) (⟨T0,T1,T2,TE,gT2 h⟩:Wa) (fJ rfl h) ⟨(fJ rfl h),(fJ rfl h),trivial⟩)) (fQ rfl rfl (eK rfl rfl (Ht rfl) (fun h=>dH (fJ rfl h))) (ro rfl (fC (Ht rfl) (fun h=>(fJ rfl h))) (eX (nO (Ht rfl) (by simp) ?_))))))))))))
   refine cU (cK (Y.D_start (m:=10) [] (bY (Ei:=[(13,_)]) rfl rfl (bQ (bJ rfl rfl) bX) rfl rfl (dX rfl (eJ A_80 Z_80 (Ht rfl) (i:=3) rfl rfl rfl)) (bY (Ei:=[(16,_)]) rfl rfl (bQ (bJ rfl rfl) bX) rfl rfl (dX rfl (eJ A_60 Z_60 (Ht rfl) (i:=4) rfl rfl rfl)) (bY (Ei:=[(10,_)]) rfl rfl (bQ (bJ rfl rfl) bX) rfl rfl (dX rfl (eJ A_48 Z_48 (Ht rfl) (i:=2) rfl rfl rfl)) (bY (Ei:=[(99,_)]) rfl rfl (bQ (bZ 2 rfl rfl) bX) rfl rfl (dX rfl (cZ Tryz.call33 (Ag (r:=tq)) ⟨(Ht rfl),trivial⟩)) ?_))))))
   refine bY (Ei:=[(97,_),(98,_),(100,_)]) rfl rfl (bQ (bZ 0 rfl rfl) (bQ (bZ 1 rfl rfl) (bQ (bZ 3 rfl rfl) bX))) rfl rfl (dX rfl (cZ Tryz.call54 hF ⟨(Ht rfl),(Ht rfl),(Ht rfl),trivial⟩)) (bY (Ei:=[(101,_)]) rfl rfl (bQ (bZ 4 rfl rfl) bX) rfl rfl (dX rfl (cX (Ht rfl))) (bY (Ei:=[(96,_)]) rfl rfl (bQ (bZ 5 rfl rfl) bX) rfl rfl (dX rfl (dK (Ht rfl) rfl)) (bY (Ei:=[(96,_)]) rfl rfl (bQ (bZ 5 rfl rfl) bX) rfl rfl (dX rfl (dK (Ht rfl) rfl)) ?_)))
   refine Y.D_newp (Ei:=[]) (fun bb=>box bb 60 [aH (decide (FV.a < 0)),bA FV.a.natAbs,aH (decide (FV.b < 0)),bA FV.b.natAbs,bA (du FV)]) 9 rfl rfl rfl bX rfl rfl (by kernel_rfl) (eW (Ts:=[Is (.bool false),Is (.slice none 0 0),Is (.bool false),Is (.slice none 0 0),Is (.slice none 0 0)]) O_60 rfl (fun V=>aW zd (aW zd (aW zd (aW zd (aW zd (aG))))))) (Y.D_putN (Ei:=[(102,_)]) 8 rfl rfl rfl rfl rfl rfl (bQ (bZ 6 rfl rfl) bX) (fun bb=>tJ Z_60 (Ht rfl) (Ht rfl) rfl (i:=0) rfl (aK rfl) rfl rfl) ?_)
   refine Y.D_done bC rfl (by kernel_rfl) rfl (by simp [Y.okP]) rfl rfl (bU (bU (bU (bU (bU (bU (bU (bU (Y.F_newp (fun B17=>Y.F_putN (Y.F_nil ?_)))))))))))
   refine ra rfl (eX (cK (fZ (m:=15) (dp 18 rfl (cX (Ht rfl)) (dq 104 0 rfl (kM (Ht rfl) cV) (dq 105 1 rfl (cX (Ht rfl)) (C.D_step (Ei:=[(16,_),(106,_)]) rfl rfl (bV (bK rfl rfl) (bV (bG 2 rfl rfl) bW)) (kH rfl rfl (Ht rfl) (fun h=>eJ A_60 Z_60 (Ht rfl) (i:=4) rfl rfl rfl)) (C.D_step (Ei:=[(107,_),(106,_)]) rfl rfl (bV (bG 3 rfl rfl) (bV (bG 2 rfl rfl) bW)) (kH rfl rfl (Ht rfl) (fun h=>cZ Tryz.call50 hNo ⟨(bH.wu rfl h),trivial⟩)) ?_))))))))
   refine C.D_step (Ei:=[(106,_)]) rfl rfl (bV (bG 2 rfl rfl) bW) (kH rfl rfl (Ht rfl) (fun h=>cZ K_52 (mK (n:=1) (by decide) (by decide)) ⟨(cJ 1),trivial⟩)) (C.D_step (Ei:=[(108,_),(109,_),(106,_)]) rfl rfl (bV (bG 4 rfl rfl) (bV (bG 5 rfl rfl) (bV (bG 2 rfl rfl) bW))) (kH rfl rfl (Ht rfl) (fun h=>cZ K_51 hCm ⟨(bH.wu rfl h),(bH.wu rfl h),trivial⟩)) (C.D_step (Ei:=[(110,_),(106,_)]) rfl rfl (bV (bG 6 rfl rfl) (bV (bG 2 rfl rfl) bW)) (kH rfl rfl (Ht rfl) (fun h=>nA (bH.wu rfl h) cV)) ?_))
   refine cP 106 2 111 7 rfl (jQ (Ht rfl) (fun h=>(bH.wu rfl h))) (dq 112 8 rfl (cX (Ht rfl)) (C.D_step (Ei:=[(17,_),(113,_)]) rfl rfl (bV (bK rfl rfl) (bV (bG 9 rfl rfl) bW)) (kH rfl rfl (Ht rfl) (fun h=>eJ A_60 Z_60 (Ht rfl) (i:=5) rfl rfl rfl)) (C.D_step (Ei:=[(114,_),(113,_)]) rfl rfl (bV (bG 10 rfl rfl) (bV (bG 9 rfl rfl) bW)) (kH rfl rfl (Ht rfl) (fun h=>cZ Tryz.call55 Bv ⟨(bH.wu rfl h),trivial⟩)) (C.D_step (Ei:=[(115,_),(113,_)]) rfl rfl (bV (bG 11 rfl rfl) (bV (bG 9 rfl rfl) bW)) (kH rfl rfl (Ht rfl) (fun h=>cX (bH.wu rfl h))) ?_))))
   refine C.D_step (Ei:=[(17,_),(116,_)]) rfl rfl (bV (bK rfl rfl) (bV (bG 12 rfl rfl) bW)) (uN rfl rfl rfl (fun h h2=>eJ A_60 Z_60 (Ht rfl) (i:=5) rfl rfl rfl)) (C.D_step (Ei:=[(116,_)]) rfl rfl (bV (bG 12 rfl rfl) bW) (uN rfl rfl rfl (fun h h2=>cZ K_52 (mK (n:=1) (by decide) (by decide)) ⟨(cJ 1),trivial⟩)) (fV bC rfl (by kernel_rfl) (zF (zF (zF (aJ (aJ (aJ (aV ?_)))))))))
   refine fQ rfl rfl (uN rfl rfl rfl (fun h h2=>cZ K_51 hCf ⟨(bH.wu rfl ⟨h,h2⟩),(bH.wu rfl ⟨h,h2⟩),trivial⟩)) (fQ rfl rfl (uN rfl rfl rfl (fun h h2=>nA (bH.wu rfl ⟨h,h2⟩) cV)) (fQ rfl rfl (kH rfl rfl (Ht rfl) (fun h=>fC (bH.wu rfl h) (fun h2=>(bH.wu rfl ⟨h,h2⟩)))) (ro rfl (jQ (Ht rfl) (fun h=>(bH.wu rfl h))) (rm rfl (fQ rfl rfl (kH rfl rfl (Ht rfl) (fun h=>cZ Tryz.call42 Gn trivial)) (ro rfl (fC (Ht rfl) (fun h=>(bH.wu rfl h))) (ra rfl (eX (fW rfl (fX (eU rfl) ?_))))))))))
   exact (fA (by by_cases q1:FE = 0; by_cases q2:0 ≤ rV g.q.norm (Qi.ofInt 1); simp [q1,q2]; obtain ⟨r1,r2⟩:=hfin2 q1 q2; simp [q1,q2,r1,r2]; simp [q1]))
end
section
open Go Go.ChangeShapes Go.WideShapes Go.ChangeAt Go.RowKit Go.Deep
section
variable {H:Type} {enc:TypeId × Value → H} {W:World} {base:Nat} {sp:Nat → Bool} {held:Bool}
theorem a2N {n:Nat} {cs:List Value} {y:DataW H × List MemPlace} (h:DataW.trod enc Tryz.prog W base sp held n 64 cs = some y):∃ (q:Int × Int) (x:Value),x.cells.toList = cs ∧ (JT q).p x (hv W):=by
 obtain ⟨xs,m,_,_,hl,hx,he⟩:=DataW.trod_array Tryz.underlying64 h
 have hc:Tryz.prog.cellsOf 64 = 2:=by kernel_rfl
 have hi:Tryz.prog.cellsOf 3 = 1:=by kernel_rfl
 rw [hc] at hl
 match cs,hl with
 | [c0, c1], _ =>
  match xs,hx with
  | [y0, y1], _ =>
   have e0:=he 0 zo
   have e1:=he 1 zo
   rw [hi] at e0 e1
   obtain ⟨i0,q0,_,_⟩:=DataW.trod_int Tryz.underlying3 (show DataW.trod enc Tryz.prog W base sp held m 3 [c0] = some y0 from e0)
   obtain ⟨i1,q1,_,_⟩:=DataW.trod_int Tryz.underlying3 (show DataW.trod enc Tryz.prog W base sp held m 3 [c1] = some y1 from e1)
   simp only [List.cons.injEq,and_true] at q0 q1
   subst q0 q1
   exact ⟨(i0,i1),.agg #[.int .i64 i0,.int .i64 i1],rfl,[.int .i64 i0,.int .i64 i1],rfl,aW zd (aW zd aG)⟩
theorem a0d {n : Nat} {cs : List Value} {y : DataW H × List MemPlace} (h : DataW.trod enc Tryz.prog W base sp held n 65 cs = some y) : ∃ (v : Value) (l : List (Int × Int)), cs = [v] ∧ (Vu l).p v (hv W) :=
 Ig (F:=JT) Tryz.underlying65 (by kernel_rfl) (by decide) (fun n cs y h=>a2N h) h
theorem Vq {b0:Nat} {v:Value} {d:DataW H} {p:List MemPlace} (ho:Value.okWide Tryz.prog W .any b0 65 v) (h:DataW.Trod enc Tryz.prog W base sp held 65 v d p):∃ l:List (Int × Int),(Vu l).p v (hv W):=by
 obtain ⟨a,n,k,rfl⟩:=okWide_slice Tryz.underlying65 ho
 obtain ⟨m,hm⟩:=h
 obtain ⟨v,l,e,hl⟩:=a0d hm
 have:[Value.slice a n k] = [v]:=e
 simp only [List.cons.injEq,and_true] at this
 subst this
 exact ⟨l,hl⟩
end
end
end Go.Proofs.YtdlciihkiefckaaGreat
