/- What functions of the program compute, proved by walks over their code, and the plain mathematics of it; a part of the proof in the last text. -/
import Derived.Test.YteohomnhncjcnaaGreatP03
set_option linter.unusedVariables false
set_option linter.unusedSimpArgs false
set_option maxRecDepth 100000
set_option maxHeartbeats 4000000
namespace Go.Proofs.YteohomnhncjcnaaGreat
section
open Go Go.RowKit
theorem Wp {M:List (List Qi)} {n m L B:Nat} (hs:eR M n m) (hf:bT M L) (hL:1 ≤ L) (hg:6 * dD L n + 4 ≤ 17592186044415) (hnm:n ≤ m) (hm:m ≤ 1000):jG Tryz.prog 194 [Is (.slice (some ⟨B,0,none⟩) n n)] [nT B 29 51 5 (dM aD M)] (Unit) (fun _=>dO [NT .i64 (cF M n).2.1,aE .i64 (cF M n).2.2]) (fun _=>[nT B 29 51 5 (dM aD (cF M n).1)]) (fun _=>True):=by
 have hs1:=hs.1
 refine jG.intro Tryz.func194 rfl Tryz.ntmps194 rfl (fun cx Z=>(ts (ro rfl (cQ (cJ 0)) (ro rfl (cQ (cJ 0)) (eZ (ts (ro rfl (cQ (cJ 0)) (eZ (cK (ts (rm rfl (ro rfl (jV U_30 (Ht rfl)) (ro rfl (cX (cJ 0)) (eZ (eK (Lf 1 rfl (fun vs hvs=>?_)))))))))))))))))
 have hvs2:Hds vs n:=by have h:=hvs; rw [List.length_map,hs1] at h; exact h
 refine uS (fun (c : Nat) (sw : Nat) (vs : List Value) (A : List (List Qi)) => (c ≤ n ∧ sw ≤ c) ∧ cF M c = (A, sw, -1) ∧ Hds vs n) (fun (c : Nat) (sw : Nat) (vs : List Value) (A : List (List Qi)) => n - c) (fun (c : Nat) (sw : Nat) (vs : List Value) (A : List (List Qi)) => [(0, Is (.slice (some ⟨B, 0, none⟩) n n)), (4, NT .i64 sw), (12, NT .i64 n), (13, NT .i64 c)]) (fun (c : Nat) (sw : Nat) (vs : List Value) (A : List (List Qi)) => [Z, kD B 29 51 5 vs vs (dM aD A)]) 0 0 vs M ⟨⟨Nat.zero_le _, Nat.le_refl _⟩, rfl, hvs2⟩
  (zS rfl) (dL.refl _) (fun c sw vs A ⟨⟨hc,hsw⟩,hA,hvs⟩=>?_)
 refine ts (ro rfl (gV (Ht rfl) (Ht rfl)) (eZ (cK (dQ (Ht rfl) (fun hcn=>?_) (fun hcn=>?_)))))
 ·simp only [decide_eq_true_eq] at hcn
  have hvl:=hvs.len
  have hAs:eR A n m:=by have h:=pN hs hc; rw [hA] at h; exact h
  have hAf:bT A (dD L c):=by have h:=zT hs hf hL hc; rw [hA] at h; exact h
  have hAl:=hAs.1
  have hgr:dD L c ≤ dD L n:=pK L hc
  have hG1:1 ≤ dD L c:=Nat.le_trans hL (sD L c)
  refine cU (cK (eK (ts (rm rfl (ra rfl (eZ (ts (rm rfl (ra rfl (eZ (cK (eK ?_))))))))))))
  refine cM (fun (p : Nat) => (c ≤ p ∧ p ≤ n) ∧ ∀ r, c ≤ r → r < p → gm A r c = Qi.zero) (fun (p : Nat) => n - p) (fun (p : Nat) => [(0, Is (.slice (some ⟨B, 0, none⟩) n n)), (4, NT .i64 sw), (5, NT .i64 c), (6, NT .i64 p), (12, NT .i64 n), (13, NT .i64 c)]) (fun (p : Nat) => [Z, kD B 29 51 5 vs vs (dM aD A)]) c ⟨⟨Nat.le_refl _, hc⟩, fun r h1 h2 => by omega⟩
   (zS rfl) (dL.refl _) (fun p ⟨⟨hcp,hpn⟩,hz⟩=>?_)
  haveI fp:aN (gm A p c) (dD L c):=hAf.get hG1 p c
  refine cK (ts (rm rfl (rm rfl (ro rfl (jV U_30 (Ht rfl)) (ro rfl (gV (Ht rfl) (Ht rfl)) (rm rfl (fX rfl rfl (eU rfl rfl (Ht rfl) (fun h=>cX (Ht rfl))) (fX rfl rfl (eU rfl rfl (Ht rfl) (fun h=>cX (Ht rfl))) (fX rfl rfl (eU rfl rfl (Ht rfl) (fun h=>gX U_30 Z_29 (fW rfl h) (fW rfl h) rfl (by first | omega | (simp at h; omega)) (by rw [Nat.mul_one,Nat.zero_add]))) ?_)))))))))
  refine fX rfl rfl (eU rfl rfl (Ht rfl) (fun h=>lD A_29 Z_29 (fW rfl h) (j:=1) rfl (by simp at h; omega))) ?_
  refine fX rfl rfl (eU rfl rfl (Ht rfl) (fun h=>cX (Ht rfl))) (fX rfl rfl (eU rfl rfl (Ht rfl) (fun h=>nQ U_29 Z_51 (fW rfl h) (fW rfl h) rfl (j:=1) rfl zo (by simp at h; omega) (by simp at h; rw [hAs.row h]; omega))) ?_)
  refine fX rfl rfl (eU rfl rfl (Ht rfl) (fun h=>rM A_51 Z_51 (fW rfl h) (j:=1) rfl zo (by simp at h; omega) (by simp at h; rw [hAs.row h]; omega))) ?_
  refine fX rfl rfl (eU rfl rfl (Ht rfl) (fun h=>bD bN (fW rfl h))) (fX rfl rfl (eU rfl rfl (Ht rfl) (fun h=>aP pD K_27 (sA (x:=gm A p c) (L:=dD L c) zo) (fW rfl h) trivial)) (fX rfl rfl (eU rfl rfl (Ht rfl) (fun h=>eE (fW rfl h))) (ro rfl (eA (Ht rfl) (fun h=>(fW rfl h))) (eZ (dQ (Ht rfl) (fun he=>?_) (fun he=>?_))))))
  ·have he2 : p < n ∧ gm A p c = Qi.zero := by simpa using he
   refine cU (eK (cY (rm rfl (ro rfl (dW (Ht rfl) (cJ 1) z6) (ra rfl (eZ (bH ?_)))))))
   refine gQ (p + 1) ⟨⟨by omega, by omega⟩, fun r h1 h2 => by
     by_cases e:r = p
     ·rw [e]; exact he2.2
     ·exact hz r h1 zo⟩ zo (zS rfl) (dL.refl _)
  ·have hpv : pv A c n = p := a39 hcp hpn hz (fun h => by simp at he; exact he h)
   refine gK rfl (cK (ts (rm rfl (rm rfl (ro rfl (jV U_30 (Ht rfl)) (ro rfl (cB (Ht rfl) (Ht rfl)) (eZ (dQ (Ht rfl) (fun hp=>?_) (fun hp=>?_)))))))))
   ·have hp2 : p = n := by simpa using hp
    have hend:=Pt hs1 hA (by rw [hpv]; exact hp2) hcn
    refine ts (rm rfl (rm rfl (ra rfl (ra rfl (eZ ?_)))))
    exact lW () trivial [0,1] ⟨⟨_,rfl,fun _ _ _ h=>h⟩,⟨_,rfl,(fun S w V h=>eT (by rw [hend]) S w V (yQ (by rw [List.length_map]; omega) S w V h))⟩,trivial⟩ (by decide) (a1K rfl (fJ (eY rfl) (lI (by rw [hend]))) (fJ (eY rfl) (aM (by rw [hend]))))
   ·have hp2 : p < n := by simp at hp; omega
    have hpz:=(qF (M:=A) (c:=c) (n:=n) hc).2.2.2 (by rw [hpv]; exact hp2)
    rw [hpv] at hpz
    have hnx:=Pj hs1 hA hpv hp2
    refine cU (cK (Xq (fun (q:Nat) (us:List Value) (D:List (List Qi))=>(q = sw + (if p = c then 0 else 1) ∧ D = (if p = c then A else swp [] A p c)) ∧ Hds us n) (fun (q:Nat) (us:List Value) (D:List (List Qi))=>[(0,Is (.slice (some ⟨B,0,none⟩) n n)),(4,NT .i64 q),(5,NT .i64 c),(12,NT .i64 n),(13,NT .i64 c)]) (fun (q:Nat) (us:List Value) (D:List (List Qi))=>[Z,kD B 29 51 5 us us (dM aD D)]) ?_ (fun q us D ⟨⟨hq,hD⟩,hus⟩=>?_)))
    ·refine ts (rm rfl (rm rfl (ro rfl (iR (Ht rfl) (Ht rfl)) (eZ (dQ (Ht rfl) (fun hpc => ?_) (fun hpc => ?_))))))
     ·have hpc2 : ¬ p = c := by simpa using hpc
      refine cK (Y.D_start (m:=14) [(13,1,kD B 29 51 5 (vs.set p (hd vs c)) vs (dM aD A))] (Y.D_step (Ei:=[(0,_)]) rfl rfl (bQ (bJ rfl rfl) bX) rfl rfl (by kernel_rfl) (dX rfl (cX (Ht rfl))) (Y.D_step (Ei:=[(6,_)]) rfl rfl (bQ (bJ rfl rfl) bX) rfl rfl (by kernel_rfl) (dX rfl (cX (Ht rfl))) (bY (Ei:=[(0,_)]) rfl rfl (bQ (bJ rfl rfl) bX) rfl rfl (dX rfl (cX (Ht rfl))) (bY (Ei:=[(5,_)]) rfl rfl (bQ (bJ rfl rfl) bX) rfl rfl (dX rfl (cX (Ht rfl))) ?_)))))
      refine Y.D_step (Ei:=[(0,_)]) rfl rfl (bQ (bJ rfl rfl) bX) rfl rfl (by kernel_rfl) (dX rfl (cX (Ht rfl))) (Y.D_step (Ei:=[(5,_)]) rfl rfl (bQ (bJ rfl rfl) bX) rfl rfl (by kernel_rfl) (dX rfl (cX (Ht rfl))) (Y.D_step (Ei:=[(48,_),(49,_)]) rfl rfl (bQ (bZ 4 rfl rfl) (bQ (bZ 5 rfl rfl) bX)) rfl rfl (by kernel_rfl) (dX rfl (gX U_30 Z_29 (Ht rfl) (Ht rfl) rfl zo (by rw [Nat.mul_one,Nat.zero_add]))) ?_))
      refine Y.D_step (Ei:=[(50,_)]) rfl rfl (bQ (bZ 6 rfl rfl) bX) rfl rfl (by kernel_rfl) (dX rfl (lD A_29 Z_29 (Ht rfl) (j:=1) rfl zo)) (Y.D_step (Ei:=[(0,_)]) rfl rfl (bQ (bJ rfl rfl) bX) rfl rfl (by kernel_rfl) (dX rfl (cX (Ht rfl))) (Y.D_step (Ei:=[(6,_)]) rfl rfl (bQ (bJ rfl rfl) bX) rfl rfl (by kernel_rfl) (dX rfl (cX (Ht rfl))) (Y.D_step (Ei:=[(52,_),(53,_)]) rfl rfl (bQ (bZ 8 rfl rfl) (bQ (bZ 9 rfl rfl) bX)) rfl rfl (by kernel_rfl) (dX rfl (gX U_30 Z_29 (Ht rfl) (Ht rfl) rfl zo (by rw [Nat.mul_one,Nat.zero_add]))) ?_)))
      refine Y.D_step (Ei:=[(54,_)]) rfl rfl (bQ (bZ 10 rfl rfl) bX) rfl rfl (by kernel_rfl) (dX rfl (lD A_29 Z_29 (Ht rfl) (j:=1) rfl zo)) (Y.D_step (Ei:=[(44,_),(45,_)]) rfl rfl (bQ (bZ 0 rfl rfl) (bQ (bZ 1 rfl rfl) bX)) rfl rfl (by kernel_rfl) (dX rfl (gX U_30 Z_29 (Ht rfl) (Ht rfl) rfl zo (by rw [Nat.mul_one,Nat.zero_add]))) ?_)
      refine Y.D_putI (Ei:=[(56,_),(51,_)]) 1 rfl rfl rfl (bQ (bZ 12 rfl rfl) (bQ (bZ 7 rfl rfl) bX)) (.head _) rfl (Px Z_29 (Ht rfl) (Ht rfl) (hvs.pl c zo) (i:=p) (hs:=vs) zo) (Y.D_done bF rfl (by kernel_rfl) rfl (by simp [Y.okP]) rfl rfl (bU (bU (bU (bU (bU (bU (bU (bU (bU (bU (bU (bU (bU (Y.F_putI (Y.F_nil ?_))))))))))))))))
      refine ro rfl (gX U_30 Z_29 (Ht rfl) (Ht rfl) rfl zo (by rw [Nat.mul_one,Nat.zero_add])) ?_
      refine a1B Z_29 (Ht rfl) (Ht rfl) (j:=1) rfl (hvs.pl p zo) (by rw [List.length_set]; omega) rfl ?_
      refine eZ (lR 1 rfl (Ox (hs:=swp Ct vs p c) (p:=p) (c:=c) zo zo zo) (cY (rm rfl (ro rfl (dW (Ht rfl) (cJ 1) z6) (ra rfl (eZ (aT (sw + 1,swp Ct vs p c,swp [] A p c) ⟨⟨by rw [if_neg hpc2],by rw [if_neg hpc2]⟩,hvs.swp hp2 hcn⟩ (zS rfl) (dL.refl _))))))))
     ·have hpc2 : p = c := by simpa using hpc
      refine cU (aT (sw,vs,A) ⟨⟨by rw [if_pos hpc2]; rfl,by rw [if_pos hpc2]⟩,hvs⟩ (zS rfl) (dL.refl _))
    ·have hul := hus.len
     rw [← hq,← hD] at hnx
     have hDs:eR D n m:=by rw [hD]; split; exact hAs; exact xM hAs hp2 hcn
     have hDf:bT D (dD L c):=by rw [hD]; split; exact hAf; exact Nc hAf
     have hDl:=hDs.1
     have hDz : gm D c c ≠ Qi.zero := by
      rw [hD]; split
      ·rename_i e; rw [e] at hpz; exact hpz
      ·show gv (fH (swp [] A p c) c) c ≠ _
       rw [Eg zo]; exact hpz
     refine ts (rm rfl (ro rfl (dW (Ht rfl) (cJ 1) z6) (ra rfl (eZ (eK ?_)))))
     refine cM (fun (r : Nat) => c < r ∧ r ≤ n) (fun (r : Nat) => n - r) (fun (r : Nat) => [(0, Is (.slice (some ⟨B, 0, none⟩) n n)), (4, NT .i64 q), (5, NT .i64 c), (7, NT .i64 r), (12, NT .i64 n), (13, NT .i64 c)]) (fun (r : Nat) => [Z, kD B 29 51 5 us us (dM aD (mA D c r))]) (c + 1) ⟨Nat.lt_succ_self _, hcn⟩
      (zS rfl) (aU (fun _ _ _ h=>h) (aU (xX (congrArg _ Jf)) aY)) (fun r ⟨hcr,hrn⟩=>?_)
     refine cK (ts (rm rfl (rm rfl (ro rfl (jV U_30 (Ht rfl)) (ro rfl (gV (Ht rfl) (Ht rfl)) (eZ (dQ (Ht rfl) (fun hr=>?_) (fun hr=>?_))))))))
     ·simp only [decide_eq_true_eq] at hr
      obtain ⟨X,hX⟩:∃ X,X = mA D c r:=⟨_,rfl⟩
      have hXr:fH X r = fH D r:=by rw [hX]; exact uD zo zo
      have hXc:fH X c = fH D c:=by rw [hX]; exact uD zo zo
      have hXl:X.length = n:=by rw [hX,rP]; exact hDl
      have hXrl:(fH X r).length = m:=by rw [hXr]; exact hDs.row hr
      have hXcl:(fH X c).length = m:=by rw [hXc]; exact hDs.row hcn
      have hXrg:(X.getD r []).length = m:=hXrl
      have hXcg:(X.getD c []).length = m:=hXcl
      have hXfr:cC (fH X r) (dD L c):=by rw [hXr]; exact hDf.row r
      have hXfc:cC (fH X c) (dD L c):=by rw [hXc]; exact hDf.row c
      haveI g1:aN (gm X r c) (dD L c):=hXfr.get hG1 c
      haveI g2:aN (gm X c c) (dD L c):=hXfc.get hG1 c
      have hXz:gm X c c ≠ Qi.zero:=by show gv (fH X c) c ≠ _; rw [hXc]; exact hDz
      haveI g3:aN (gm X r c / gm X c c) (dD L c + 3 * dD L c + 2):=⟨g1.fit.div g2.fit hXz⟩
      have hend:=Sb (D:=D) (r:=r) (c:=c) zo hcr
      rw [← hX] at hend ⊢
      refine cU (cK (eK (cK (Y.D_start (m:=21) [] (bY (Ei:=[(0,_)]) rfl rfl (bQ (bJ rfl rfl) bX) rfl rfl (dX rfl (cX (Ht rfl))) (bY (Ei:=[(7,_)]) rfl rfl (bQ (bJ rfl rfl) bX) rfl rfl (dX rfl (cX (Ht rfl))) (bY (Ei:=[(69,_),(70,_)]) rfl rfl (bQ (bZ 0 rfl rfl) (bQ (bZ 1 rfl rfl) bX)) rfl rfl (dX rfl (gX U_30 Z_29 (Ht rfl) (Ht rfl) rfl zo (by rw [Nat.mul_one,Nat.zero_add]))) ?_)))))))
      refine bY (Ei:=[(71,_)]) rfl rfl (bQ (bZ 2 rfl rfl) bX) rfl rfl (dX rfl (lD A_29 Z_29 (Ht rfl) (j:=1) rfl zo)) (bY (Ei:=[(5,_)]) rfl rfl (bQ (bJ rfl rfl) bX) rfl rfl (dX rfl (cX (Ht rfl))) (bY (Ei:=[(72,_),(73,_)]) rfl rfl (bQ (bZ 3 rfl rfl) (bQ (bZ 4 rfl rfl) bX)) rfl rfl (dX rfl (nQ U_29 Z_51 (Ht rfl) (Ht rfl) rfl (j:=1) rfl zo zo zo)) (bY (Ei:=[(74,_)]) rfl rfl (bQ (bZ 5 rfl rfl) bX) rfl rfl (dX rfl (rM A_51 Z_51 (Ht rfl) (j:=1) rfl zo zo zo)) ?_)))
      refine bY (Ei:=[(75,_)]) rfl rfl (bQ (bZ 6 rfl rfl) bX) rfl rfl (dX rfl (bD bN (Ht rfl))) (bY (Ei:=[(0,_)]) rfl rfl (bQ (bJ rfl rfl) bX) rfl rfl (dX rfl (cX (Ht rfl))) (bY (Ei:=[(5,_)]) rfl rfl (bQ (bJ rfl rfl) bX) rfl rfl (dX rfl (cX (Ht rfl))) (bY (Ei:=[(77,_),(78,_)]) rfl rfl (bQ (bZ 8 rfl rfl) (bQ (bZ 9 rfl rfl) bX)) rfl rfl (dX rfl (gX U_30 Z_29 (Ht rfl) (Ht rfl) rfl zo (by rw [Nat.mul_one,Nat.zero_add]))) ?_)))
      refine bY (Ei:=[(79,_)]) rfl rfl (bQ (bZ 10 rfl rfl) bX) rfl rfl (dX rfl (lD A_29 Z_29 (Ht rfl) (j:=1) rfl zo)) (bY (Ei:=[(5,_)]) rfl rfl (bQ (bJ rfl rfl) bX) rfl rfl (dX rfl (cX (Ht rfl))) (bY (Ei:=[(80,_),(81,_)]) rfl rfl (bQ (bZ 11 rfl rfl) (bQ (bZ 12 rfl rfl) bX)) rfl rfl (dX rfl (nQ U_29 Z_51 (Ht rfl) (Ht rfl) rfl (j:=1) rfl zo zo zo)) (bY (Ei:=[(82,_)]) rfl rfl (bQ (bZ 13 rfl rfl) bX) rfl rfl (dX rfl (rM A_51 Z_51 (Ht rfl) (j:=1) rfl zo zo zo)) ?_)))
      refine bY (Ei:=[(76,_),(83,_)]) rfl rfl (bQ (bZ 7 rfl rfl) (bQ (bZ 14 rfl rfl) bX)) rfl rfl (dX rfl (aP jS K_40 (wV (x:=gm X r c) (y:=gm X c c) (L:=dD L c) (M:=dD L c) zo) (Ht rfl) ⟨(Ht rfl),trivial⟩)) (bY (Ei:=[(84,_)]) rfl rfl (bQ (bZ 15 rfl rfl) bX) rfl rfl (dX rfl (cX (Ht rfl))) (bY (Ei:=[(68,_)]) rfl rfl (bQ (bZ 16 rfl rfl) bX) rfl rfl (dX rfl (dU (Ht rfl) rfl)) (bY (Ei:=[(68,_)]) rfl rfl (bQ (bZ 16 rfl rfl) bX) rfl rfl (dX rfl (dU (Ht rfl) rfl)) ?_)))
      refine Y.D_newp (Ei:=[]) (fun bb=>box bb 51 [aC (decide ((gm X r c / gm X c c).a < 0)),aH (gm X r c / gm X c c).a.natAbs,aC (decide ((gm X r c / gm X c c).b < 0)),aH (gm X r c / gm X c c).b.natAbs,aH (du (gm X r c / gm X c c))]) 20 rfl rfl rfl bX rfl rfl (by kernel_rfl) (eG (Ts:=[Is (.bool false),Is (.slice none 0 0),Is (.bool false),Is (.slice none 0 0),Is (.slice none 0 0)]) O_51 rfl (fun V=>aW zd (aW zd (aW zd (aW zd (aW zd (aG))))))) ?_
      refine Y.D_putN (Ei:=[(85,_)]) 19 rfl rfl rfl rfl rfl rfl (bQ (bZ 17 rfl rfl) bX) (fun bb=>lP Z_51 (Ht rfl) (Ht rfl) rfl (i:=0) rfl (aK rfl) rfl rfl) (Y.D_done bF rfl (by kernel_rfl) rfl (by simp [Y.okP]) rfl rfl (bU (bU (bU (bU (bU (bU (bU (bU (bU (bU (bU (bU (bU (bU (bU (bU (bU (bU (bU (Y.F_newp (fun B8=>Y.F_putN (Y.F_nil ?_)))))))))))))))))))))))
      refine ra rfl (eZ (ts (rm rfl (ro rfl (dW (Ht rfl) (cJ 1) z6) (ra rfl (eZ (eK ?_)))))))
      refine cM (fun (k : Nat) => c < k ∧ k ≤ m) (fun (k : Nat) => m - k) (fun (k : Nat) => [(0, Is (.slice (some ⟨B, 0, none⟩) n n)), (4, NT .i64 q), (5, NT .i64 c), (7, NT .i64 r), (8, bP B8 0), (10, NT .i64 k), (12, NT .i64 n), (13, NT .i64 c)]) (fun (k : Nat) => [Z, kD B 29 51 5 us us (dM aD (X.set r (kV (fH X r) (fH X c) c k))), box B8 51 [aC (decide ((gm X r c / gm X c c).a < 0)), aH (gm X r c / gm X c c).a.natAbs, aC (decide ((gm X r c / gm X c c).b < 0)), aH (gm X r c / gm X c c).b.natAbs, aH (du (gm X r c / gm X c c))]]) (c + 1) ⟨Nat.lt_succ_self _, by omega⟩
       (zS rfl) (aU (fun _ _ _ h=>h) (aU (xX (by rw [← Jo,a1R zo])) (aU (aB rfl) aY))) (fun k ⟨hck,hkm⟩=>?_)
      obtain ⟨Y,hY⟩:∃ Y,Y = (X.set r (kV (fH X r) (fH X c) c k)):=⟨_,rfl⟩
      have hYl:Y.length = n:=by rw [hY,List.length_set]; exact hXl
      have hYrl:(fH Y r).length = m:=by rw [hY,Dm zo,vE]; exact hXrl
      have hYcl:(fH Y c).length = m:=by rw [hY,wK zo]; exact hXcl
      have hYrg:(Y.getD r []).length = m:=hYrl
      have hYcg:(Y.getD c []).length = m:=hYcl
      rw [← hY]
      refine cK (ts (rm rfl (rm rfl (rm rfl (ro rfl (gX U_30 Z_29 (Ht rfl) (Ht rfl) rfl zo (by rw [Nat.mul_one,Nat.zero_add])) ?_)))))
      refine ro rfl (lD A_29 Z_29 (Ht rfl) (j:=1) rfl zo) (ro rfl (a01 U_29 (Ht rfl) (j:=1) rfl zo zo) (ro rfl (gV (Ht rfl) (Ht rfl)) (eZ (dQ (Ht rfl) (fun hk=>?_) (fun hk=>?_)))))
      ·have hk2 : k < m := by simp only [decide_eq_true_eq] at hk; omega
       have e1:gm Y r k = gv (fH X r) k:=by rw [hY]; exact a2R zo zo hck
       have e2:gm Y c k = gv (fH X c) k:=by rw [hY]; exact a2D zo
       haveI y1:aN (gm Y r k) (dD L c):=by rw [e1]; exact hXfr.get hG1 k
       haveI y2:aN (gm Y c k) (dD L c):=by rw [e2]; exact hXfc.get hG1 k
       have hst:=Un (X:=X) (r:=r) (c:=c) (k:=k) zo zo zo hck
       rw [← hY] at hst
       refine cU (cK (eK (fV (m:=24) (dp 0 rfl (cX (Ht rfl)) (dp 7 rfl (cX (Ht rfl)) (dS 98 0 99 1 rfl (gX U_30 Z_29 (Ht rfl) (Ht rfl) rfl zo (by rw [Nat.mul_one,Nat.zero_add])) ?_))))))
       refine dq 100 2 rfl (lD A_29 Z_29 (Ht rfl) (j:=1) rfl zo) (dp 10 rfl (cX (Ht rfl)) (dp 0 rfl (cX (Ht rfl)) (dp 7 rfl (cX (Ht rfl)) (dS 103 5 104 6 rfl (gX U_30 Z_29 (Ht rfl) (Ht rfl) rfl zo (by rw [Nat.mul_one,Nat.zero_add])) ?_))))
       refine dq 105 7 rfl (lD A_29 Z_29 (Ht rfl) (j:=1) rfl zo) (dp 10 rfl (cX (Ht rfl)) (dS 106 8 107 9 rfl (nQ U_29 Z_51 (Ht rfl) (Ht rfl) rfl (j:=1) rfl zo zo zo) (dq 108 10 rfl (rM A_51 Z_51 (Ht rfl) (j:=1) rfl zo zo zo) (dq 109 11 rfl (bD bN (Ht rfl)) (dp 8 rfl (eW A_51 Z_51 (Ht rfl) (i:=2) rfl rfl rfl) (dq 111 13 rfl (bD bN (Ht rfl)) (dp 0 rfl (cX (Ht rfl)) (dp 5 rfl (cX (Ht rfl)) (dS 113 15 114 16 rfl (gX U_30 Z_29 (Ht rfl) (Ht rfl) rfl zo (by rw [Nat.mul_one,Nat.zero_add])) ?_)))))))))
       refine dq 115 17 rfl (lD A_29 Z_29 (Ht rfl) (j:=1) rfl zo) (dp 10 rfl (cX (Ht rfl)) (dS 116 18 117 19 rfl (nQ U_29 Z_51 (Ht rfl) (Ht rfl) rfl (j:=1) rfl zo zo zo) (dq 118 20 rfl (rM A_51 Z_51 (Ht rfl) (j:=1) rfl zo zo zo) (dS 112 14 119 21 rfl (aP cI K_45 (kU (x:=gm X r c / gm X c c) (y:=gm Y c k) (L:=dD L c + 3 * dD L c + 2) (M:=dD L c) zo) (Ht rfl) ⟨(Ht rfl),trivial⟩) (dS 110 12 120 22 rfl (aP jB K_44 (uZ (x:=gm Y r k) (y:=gm X r c / gm X c c * gm Y c k) (L:=dD L c) (M:=dD L c + 3 * dD L c + 2 + dD L c + 1) zo) (Ht rfl) ⟨(Ht rfl),trivial⟩) ?_)))))
       refine fG bF rfl (by kernel_rfl) (zF (zF (zF (zF (zF (zF (aV (ro rfl (nQ U_29 Z_51 (Ht rfl) (Ht rfl) rfl (j:=1) rfl zo zo zo) (a2Z Z_51 (Ht rfl) (Ht rfl) (j:=1) rfl (El.ag rfl) (F:=aD) (z:=gm Y r k - gm X r c / gm X c c * gm Y c k) zo zo zo rfl (eZ (bH (cY ?_))))))))))))
       refine rm rfl (ro rfl (dW (Ht rfl) (cJ 1) z6) (ra rfl (eZ (gQ (k + 1) ⟨by omega,hk2⟩ zo (zS rfl) (aU (fun _ _ _ h=>h) (aU (xX (congrArg _ hst)) (aU (aB rfl) aY)))))))
      ·have hk3 : k = m := by simp only [decide_eq_false_iff_not] at hk; omega
       subst hk3
       refine gK rfl (bH (cY (rm rfl (ro rfl (dW (Ht rfl) (cJ 1) z6) (ra rfl (eZ (bL [0,1] rfl (by decide) (gQ (r + 1) ⟨by omega,hr⟩ zo (zS rfl) (aU (fun _ _ _ h=>h) (aU (xX (by rw [hY,← hend,hDs.row hr])) aY))))))))))
     ·simp only [decide_eq_false_iff_not] at hr
      obtain rfl:r = n:=Nat.le_antisymm hrn zo
      refine gK rfl (bH (cY (ro rfl (dW (Ht rfl) (cJ 1) z6) (rm rfl (eZ (gQ (c + 1,q,us,mA D c r) ⟨⟨hcn,by show q ≤ c + 1; rw [hq]; split <;> omega⟩,hnx,hus⟩ (by dsimp only; omega) (zS rfl) (dL.refl _)))))))
 ·simp only [decide_eq_false_iff_not] at hcn
  obtain rfl:c = n:=Nat.le_antisymm hc zo
  have hvl:=hvs.len
  have hAs:eR A c m:=by have h:=pN hs hc; rw [hA] at h; exact h
  refine gK rfl (ts (rm rfl (ra rfl (ro rfl (cQ cV) (eZ ?_)))))
  exact lW () trivial [0,1] ⟨⟨_,rfl,fun _ _ _ h=>h⟩,⟨_,rfl,(fun S w V h=>eT (by rw [hA]) S w V (yQ (by rw [List.length_map,hAs.1]; exact hvl) S w V h))⟩,trivial⟩ (by decide) (a1K rfl (fJ (eY rfl) (lI (by rw [hA]))) (fJ (eY rfl) (aM (by rw [hA]))))
end
section
open Go Go.RowKit
abbrev Fx (M bs:List (List Qi)) (i:Nat):List Qi:=fH M i ++ bs.map fun b=>gv b i
def lL (M bs:List (List Qi)) (n:Nat):List (List Qi):=tab n (Fx M bs)
theorem Zv {r:List Qi} {bs:List (List Qi)} {i j:Nat} (h:j < bs.length):(r ++ (bs.take j).map fun b=>gv b i) ++ [gv (bs.getD j []) i] = r ++ (bs.take (j + 1)).map fun b=>gv b i:=by
 rw [List.append_assoc,List.take_add_one,List.map_append]
 simp [List.getD,h]
theorem nW {M bs:List (List Qi)} {n m:Nat} (h:eR M n m):eR (lL M bs n) n (m + bs.length):=by
 refine ⟨aO _ _,fun r hr=>?_⟩
 obtain ⟨i,hi,rfl⟩:=jE.1 hr
 rw [List.length_append,List.length_map,h.row hi]
theorem Bo {M bs : List (List Qi)} {n L : Nat} (h : bT M L) (hb : bT bs L) (hL : 1 ≤ L) : bT (lL M bs n) L := fun r hr x hx => by
 obtain ⟨i,hi,rfl⟩:=jE.1 hr
 rcases List.mem_append.1 hx with h1 | h1
 ·exact h.row i x h1
 ·obtain ⟨b, hb1, rfl⟩ := List.mem_map.1 h1
  exact cC.get (hb b hb1) hL i
theorem Pb {M:List (List Qi)} {n m:Nat} (h:eR M n m):lL M [] n = M:=by
 have:lL M [] n = tab n (fH M):=cP fun i _=>by simp [Fx]
 rw [this]; exact (zN (h:=h.1)).symm
def nD (U : List (List Qi)) (x : List Qi) (n c : Nat) : Nat → Qi
 | 0=>gm U c n
 | k + 1=>nD U x n c k - gm U c (c + 1 + k) * gv x (c + 1 + k)
def oP (U : List (List Qi)) (n : Nat) : Nat → List Qi
 | 0=>tab n fun _=>Qi.zero
 | j + 1=>(oP U n j).set (n - (j + 1)) (nD U (oP U n j) n (n - (j + 1)) j / gm U (n - (j + 1)) (n - (j + 1)))
theorem uJ (U : List (List Qi)) (n : Nat) : ∀ j, (oP U n j).length = n
 | 0=>aO _ _
 | j + 1=>by rw [oP,List.length_set,uJ U n j]
def sR (M:List (List Qi)) (b:List Qi) (n:Nat):List (List Qi) × Nat × Int:=cF (lL M [b] n) n
def lZ (M:List (List Qi)) (b:List Qi) (n:Nat):Int:=if 0 ≤ (sR M b n).2.2 then 6 else 0
def mC (M:List (List Qi)) (b:List Qi) (n:Nat):List Qi:=oP (sR M b n).1 n n
def pE (G : Nat) : Nat → Nat
 | 0=>G
 | j + 1=>j * (pE G j + G + 2) + 4 * G + 2
theorem uK (G j:Nat):pE G j ≤ pE G (j + 1):=by
 cases j with
 | zero=>simp only [pE]; omega
 | succ j =>
  have:pE G (j + 1) + G + 2 ≤ (j + 1) * (pE G (j + 1) + G + 2):=Nat.le_mul_of_pos_left _ zo
  rw [show pE G (j + 1 + 1) = (j + 1) * (pE G (j + 1) + G + 2) + 4 * G + 2 from rfl]
  omega
theorem Do (G : Nat) : ∀ j, G ≤ pE G j
 | 0=>Nat.le_refl _
 | j + 1=>Nat.le_trans (Do G j) (uK G j)
theorem yX (G : Nat) : ∀ {i j : Nat}, i ≤ j → pE G i ≤ pE G j
 | i,0,h=>by rw [show i = 0 by omega]; exact Nat.le_refl _
 | i, j + 1, h => by
  by_cases e:i = j + 1
  ·rw [e]; exact Nat.le_refl _
  ·exact Nat.le_trans (yX G (show i ≤ j by omega)) (uK G j)
theorem pI {M : List (List Qi)} {n m : Nat} (hs : eR M n m) : ∀ {c : Nat}, c ≤ n → (cF M c).2.2 < 0 → ∀ i, i < c → gm (cF M c).1 i i ≠ Qi.zero
 | 0,_,_,i,hi=>by omega
 | c + 1, hc, hst, i, hi => by
  have sh:=pN hs (c:=c) zo
  obtain ⟨_,i2,i3,i4⟩:=qF (M:=(cF M c).1) (c:=c) (n:=M.length) (by rw [hs.1]; omega)
  simp only [cF] at hst ⊢
  split at hst
  ·rename_i h0; omega
  ·rename_i h0
   rw [if_neg h0]
   split at hst
   ·simp at hst; omega
   ·rename_i h1
    rw [if_neg h1]
    have ih:=pI hs (c:=c) zo zo
    have hl : ∀ X : List (List Qi), X.length = n → gm (mA X c M.length) i i = gm X i i := fun X hX => by
     show gv (fH (mA X c M.length) i) i = _
     rw [uD zo zo]
    by_cases e:pv (cF M c).1 c M.length = c
    ·rw [if_pos e, hl _ sh.1]
     by_cases e2:i = c
     ·rw [e2]; have:=i4 (by have:=hs.1; omega); rw [e] at this; exact this
     ·exact ih i zo
    ·have hpl : pv (cF M c).1 c M.length < n := by rw [← hs.1]; omega
     rw [if_neg e,hl _ ((Dt _ _ _ _).trans sh.1)]
     by_cases e2:i = c
     ·rw [e2]
      show gv (fH (swp [] _ _ c) c) c ≠ _
      rw [Eg (by rw [sh.1]; omega)]
      exact i4 (by have:=hs.1; omega)
     ·have : fH (swp [] (cF M c).1 (pv (cF M c).1 c M.length) c) i = fH (cF M c).1 i := by
       simp only [fH,swp,List.getD]
       rw [List.getElem?_set_ne (Ne.symm e2),List.getElem?_set_ne zo]
      show gv (fH (swp [] _ _ c) i) i ≠ _
      rw [this]; exact ih i zo
theorem yA {U : List (List Qi)} {x : List Qi} {n c G X : Nat} (hU : bT U G) (hx : cC x X) (hG : 1 ≤ G) (hX : 1 ≤ X) : ∀ k, aN (nD U x n c k) (G + k * (G + X + 2))
 | 0=>(hU.get hG c n).le zo
 | k + 1 => by
  haveI f1:=yA (n:=n) (c:=c) hU hx hG hX k
  haveI f2:=hU.get hG c (c + 1 + k)
  haveI f3:=hx.get hX (c + 1 + k)
  have:aN (nD U x n c (k + 1)) (G + k * (G + X + 2) + (G + X + 1) + 1):=by unfold nD; infer_instance
  exact this.le (by rw [Nat.add_mul]; omega)
theorem a1D {U:List (List Qi)} {x:List Qi} {n c G X j:Nat} (hU:bT U G) (hx:cC x X) (hG:1 ≤ G) (hX:1 ≤ X) (hz:gm U c c ≠ Qi.zero):aN (nD U x n c j / gm U c c) (j * (X + G + 2) + 4 * G + 2):=by
 have f1:=yA (n:=n) (c:=c) hU hx hG hX j
 have f2:=hU.get hG c c
 have:aN (nD U x n c j / gm U c c) (G + j * (G + X + 2) + 3 * G + 2):=⟨f1.fit.div f2.fit hz⟩
 exact this.le (by rw [Nat.add_comm X G]; omega)
theorem Jd {U : List (List Qi)} {n G : Nat} (hU : bT U G) (hG : 1 ≤ G) (hz : ∀ i, i < n → gm U i i ≠ Qi.zero) : ∀ j, j ≤ n → cC (oP U n j) (pE G j)
 | 0,_=>cC.tab fun _ _=>aN.zero hG
 | j + 1, hj => fun y hy => by
  have ih:=Jd hU hG hz j zo
  rcases List.mem_or_eq_of_mem_set hy with h1 | h1
  ·exact (ih y h1).le (uK G j)
  ·rw [h1]; exact a1D hU ih hG (Nat.le_trans hG (Do G j)) (hz _ zo)
theorem Sh {M:List (List Qi)} {b:List Qi} {n:Nat} (h:eR M n n):eR (sR M b n).1 n (n + 1):=pN (nW h) (Nat.le_refl n)
theorem Ft {M:List (List Qi)} {b:List Qi} {n L:Nat} (h:eR M n n) (hM:bT M L) (hb:cC b L) (hL:1 ≤ L):bT (sR M b n).1 (dD L n):=zT (nW h) (Bo hM (fun r hr=>by simp at hr; subst hr; exact hb) hL) hL (Nat.le_refl n)
theorem Ud {M : List (List Qi)} {b : List Qi} {n L : Nat} (h : eR M n n) (hM : bT M L) (hb : cC b L) (hL : 1 ≤ L) (hE : (sR M b n).2.2 < 0) : cC (mC M b n) (pE (dD L n) n) :=
 Jd (Ft h hM hb hL) (Nat.le_trans hL (sD L n)) (pI (nW h) (Nat.le_refl n) hE) n (Nat.le_refl n)
def Bq (n i:Nat):List Qi:=(tab n fun _=>Qi.zero).set i (Qi.ofInt 1)
def Pq (n:Nat):List (List Qi):=tab n (Bq n)
theorem tZ (n:Nat):eR (Pq n) n n:=⟨aO _ _,fun r hr=>by obtain ⟨i,_,rfl⟩:=jE.1 hr; rw [Bq,List.length_set,aO]⟩
theorem nK:aN (Qi.ofInt 1) 1:=⟨Qi.Fit.int (L:=1) (by decide) (by decide)⟩
theorem Pe {n i L : Nat} (h : 1 ≤ L) : cC (Bq n i) L := fun x hx => by
 rcases List.mem_or_eq_of_mem_set hx with h1 | h1
 ·obtain ⟨_,_,rfl⟩:=jE.1 h1; exact aN.zero h
 ·rw [h1]; exact nK.le h
theorem Na {n L:Nat} (h:1 ≤ L):bT (Pq n) L:=fun r hr=>by obtain ⟨i,_,rfl⟩:=jE.1 hr; exact Pe h
theorem Xd {M:List (List Qi)} {b:List Qi} {n:Nat} (h:¬ 0 ≤ (sR M b n).2.2):(sR M b n).2.2 < 0:=by omega
theorem nO (F:Qi → Ty) (n:Nat):List.replicate n (F Qi.zero) = (tab n fun _=>Qi.zero).map F:=by rw [mM,uI]
theorem a2W {n j:Nat} (h:(0:Int) ≤ (n:Int) - 1 - (j:Int)):j < n:=by omega
theorem a2l {n j:Nat} (h:(n:Int) - 1 - (j:Int) < 0):n ≤ j:=by omega
theorem Uu {G X k j:Nat} (h:k < j):k * (G + X + 2) + (G + X + 2) ≤ j * (X + G + 2):=by
 rw [Nat.add_comm X G,← Nat.succ_mul]; exact Nat.mul_le_mul_right _ h
end
section
open Go Go.RowKit
theorem Fr {M:List (List Qi)} {n:Nat} (h:eR M n n) (h1:1 ≤ n) (hn:n ≤ 32):bB Tryz.prog 174 [dN M] (aC true):=by
 have hl:=h.1
 refine bB.intro Tryz.func174 rfl Tryz.ntmps174 rfl (fun cx=>(ts (ro rfl (cQ cV) (eZ (ts (rm rfl (ro rfl (cZ Tryz.call240 (Ot h h1 hn hn) ⟨(Ht rfl),trivial⟩) (rm rfl (ro rfl (dU (Ht rfl) rfl) (ro rfl (dU (Ht rfl) rfl) (ra rfl (ra rfl (eZ (ts (rm rfl (rm rfl (fX rfl rfl (eU rfl rfl (Ht rfl) (fun h=>cX (Ht rfl))) (fX rfl rfl (eU rfl rfl (Ht rfl) (fun h=>cX (Ht rfl))) (fX rfl rfl (eU rfl rfl (Ht rfl) (fun h=>dK U_30 (fW rfl h) aA)) (fX rfl rfl (eU rfl rfl (Ht rfl) (fun h=>cB (fW rfl h) (fW rfl h))) ?_))))))))))))))))))))
 refine ro rfl (eA (Ht rfl) (fun h=>(fW rfl h))) (ra rfl (eZ (fK rfl (fJ (eY rfl) ?_))))
 exact (eN (by simp [hl]))
theorem Ci {M bs:List (List Qi)} {n m:Nat} (hM:eR M n m) (hb:∀ b,b ∈ bs → n ≤ b.length) (hn:n ≤ 1000) (hm:m ≤ 1000) (hbl:bs.length ≤ 1000):jG Tryz.prog 193 [dN M,dN bs] [] (Nat) (fun B=>Is (.slice (some ⟨B,0,none⟩) n n)) (fun B=>[nT B 29 51 5 (dM aD (lL M bs n))]) (fun _=>True):=by
 have hMl:=hM.1
 refine jG.intro Tryz.func193 rfl Tryz.ntmps193 rfl (fun cx Z=>(ts (ro rfl (cQ cV) (eZ (ts (rm rfl (ro rfl (dK U_30 (Ht rfl) aA) (rn rfl (fS (T:=Is (.slice none 0 0)) (i:=Tryz.t29) V_30 sP rfl rfl (Ht rfl) rfl (fun _=>rfl) trivial (by show 24 * _ ≤ _; omega) zo) fun B12=>(ra rfl (eZ (cK (ts (rm rfl (ro rfl (dK U_30 (Ht rfl) aA) (ro rfl (cX (cJ 0)) (eZ (eK (lR 1 rfl (uC (e:=51) (s:=5)) ?_))))))))))))))))))
 refine cM (fun (i : Nat) => i ≤ M.length) (fun (i : Nat) => M.length - i) (fun (i : Nat) => [(0, dN M), (1, dN bs), (5, Is (.slice (some ⟨B12, 0, none⟩) M.length M.length)), (13, dN M), (14, NT .i64 M.length), (15, NT .i64 i)]) (fun (i : Nat) => [Z, nT B12 29 51 5 (dM aD (jR (Fx M bs) [] M.length i))]) 0 (Nat.zero_le _)
  (zS rfl) (aU (fun _ _ _ h=>h) (aU (eT (by rw [← iI,pS]; exact rV aD M.length)) aY)) (fun i hi=>?_)
 refine ts (ro rfl (gV (Ht rfl) (Ht rfl)) (eZ (cK (dQ (Ht rfl) (fun hd0=>?_) (fun hd0=>?_)))))
 ·simp only [decide_eq_true_eq] at hd0
  have hrl:(fH M i).length = m:=hM.row zo
  have hrl2:(M.getD i []).length = m:=hrl
  refine oR 1 (i) rfl (uA hd0) (fun v0=>(cU (cK (eK (ts (rm rfl (ro rfl (dZ U_30 Z_29 (Ht rfl) (Ht rfl) rfl (eQ (dY (d:=[]) hd0))) (ro rfl (dV A_29 Z_29 (Ht rfl)) (ra rfl (ra rfl (eZ (ts (rm rfl (rm rfl (rm rfl (nP Tryz.call158 (Hq (l:=M.getD i []) zo) ⟨(Ht rfl),trivial⟩ rfl (fun v1 _=>(ro rfl (gX U_30 Z_29 (Ht rfl) (Ht rfl) rfl zo (by rw [Nat.mul_one,Nat.zero_add])) ?_))))))))))))))))))
  refine zE Z_29 (Ht rfl) (Ht rfl) (by simp only [dM,List.length_map,cO]; omega) (j:=1) (l:=3) rfl rfl rfl ?_
  refine eZ (ts (rm rfl (ro rfl (dK U_30 (Ht rfl) aA) (ro rfl (cX (cJ 0)) (eZ (eK (bL [0,1,3] rfl (by decide) ?_)))))))
  refine fT (fun (j : Nat) (v : Value) => j ≤ bs.length) (fun (j : Nat) (v : Value) => bs.length - j) (fun (j : Nat) (v : Value) => [(0, dN M), (1, dN bs), (5, Is (.slice (some ⟨B12, 0, none⟩) M.length M.length)), (6, NT .i64 i), (13, dN M), (14, NT .i64 M.length), (15, NT .i64 i), (25, dN bs), (26, NT .i64 bs.length), (27, NT .i64 j)]) (fun (j : Nat) (v : Value) => [Z, Hj B12 29 51 5 (dM aD (jR (Fx M bs) [] M.length i)) i v, bM 51 5 v ((fH M i ++ (bs.take j).map fun b => gv b i).map aD)]) 0 v1 (Nat.zero_le _)
   (zS rfl) (aU (fun _ _ _ h=>h) (aU (fun _ _ _ h=>h) (aU (aR (by simp)) aY))) (fun j v hj=>?_)
  refine ts (ro rfl (gV (Ht rfl) (Ht rfl)) (eZ (cK (dQ (Ht rfl) (fun he=>?_) (fun he=>?_)))))
  ·simp only [decide_eq_true_eq] at he
   have hbj:i < (bs.getD j []).length:=by have h1:=hb (bs.getD j []) (by rw [Eu he]; exact List.getElem_mem _); omega
   refine cU (cK (eK (ts (ro rfl (dZ U_30 Z_29 (Ht rfl) (Ht rfl) rfl (eQ (dY (d:=[]) he))) (ro rfl (dV A_29 Z_29 (Ht rfl)) (ra rfl (eZ (Y.D_startA (m:=12) [] 11 2 rfl rfl (bY (Ei:=[(5,_)]) rfl rfl (bQ (bJ rfl rfl) bX) rfl rfl (dX rfl (cX (Ht rfl))) (bY (Ei:=[(6,_)]) rfl rfl (bQ (bJ rfl rfl) bX) rfl rfl (dX rfl (cX (Ht rfl))) (bY (Ei:=[(5,_)]) rfl rfl (bQ (bJ rfl rfl) bX) rfl rfl (dX rfl (cX (Ht rfl))) ?_)))))))))))
   refine bY (Ei:=[(6,_)]) rfl rfl (bQ (bJ rfl rfl) bX) rfl rfl (dX rfl (cX (Ht rfl))) (bY (Ei:=[(33,_),(34,_)]) rfl rfl (bQ (bZ 2 rfl rfl) (bQ (bZ 3 rfl rfl) bX)) rfl rfl (dX rfl (gX U_30 Z_29 (Ht rfl) (Ht rfl) rfl zo (by rw [Nat.mul_one,Nat.zero_add]))) ?_)
   refine bY (Ei:=[(35,_)]) rfl rfl (bQ (bZ 4 rfl rfl) bX) rfl rfl (dX rfl (mL A_29 Z_29 (Ht rfl) (j:=1) rfl)) (bY (Ei:=[(9,_)]) rfl rfl (bQ (bJ rfl rfl) bX) rfl rfl (dX rfl (cX (Ht rfl))) (bY (Ei:=[(6,_)]) rfl rfl (bQ (bJ rfl rfl) bX) rfl rfl (dX rfl (cX (Ht rfl))) (bY (Ei:=[(37,_),(38,_)]) rfl rfl (bQ (bZ 6 rfl rfl) (bQ (bZ 7 rfl rfl) bX)) rfl rfl (dX rfl (dZ U_29 Z_51 (Ht rfl) (Ht rfl) rfl (eQ (dY (d:=Qi.zero) hbj)))) ?_)))
   refine bY (Ei:=[(39,_)]) rfl rfl (bQ (bZ 8 rfl rfl) bX) rfl rfl (dX rfl (dV A_51 Z_51 (Ht rfl))) (bY (Ei:=[(40,_)]) rfl rfl (bQ (bZ 9 rfl rfl) bX) rfl rfl (dX rfl (dH (xs:=[.tmp 40]) U_29 Z_51 O_51 (cW (Ht rfl) cG) rfl rfl rfl)) (Y.D_app (Ei:=[(36,_),(41,_)]) rfl rfl rfl rfl (bQ (bZ 5 rfl rfl) (bQ (bZ 10 rfl rfl) bX)) rfl (Hc (inf:=Tryz.t51) kC iV rfl rfl rfl (Ht rfl) (Ht rfl) (by simp) (fun T hT=>by simp at hT; subst hT; exact El.ag rfl) (by show _ * 88 ≤ _; simp only [List.length_map,List.length_append,List.length_take,List.length_cons,List.length_nil]; omega) (by simp only [List.length_map,List.length_append,List.length_take,List.length_cons,List.length_nil]; omega)) ?_))
   refine Y.D_done bF rfl (by kernel_rfl) rfl (by simp [Y.okP]) rfl rfl (bU (bU (bU (bU (bU (bU (bU (bU (bU (bU (bU (Y.F_app (fun v2=>Y.F_nil ?_)))))))))))))
   refine ro rfl (gX U_30 Z_29 (Ht rfl) (Ht rfl) rfl zo (by rw [Nat.mul_one,Nat.zero_add])) ?_
   refine zE Z_29 (Ht rfl) (Ht rfl) (by simp only [dM,List.length_map,cO]; omega) (j:=1) (l:=3) rfl rfl rfl ?_
   refine eZ (bH (cY (ro rfl (dW (Ht rfl) (cJ 1) z6) (rm rfl (eZ (bL [0,1,3] rfl (by decide) (gQ (j + 1,v2) he (by dsimp only; omega) (zS rfl) (aU (fun _ _ _ h=>h) (aU (fun _ _ _ h=>h) (aU (aR ((So aD _ (gv (bs.getD j []) i)).trans (congrArg _ (Zv he)))) aY))))))))))
  ·simp only [decide_eq_false_iff_not] at he
   obtain rfl:bs.length = j:=Nat.le_antisymm zo hj
   refine gK rfl (bH (kR 1 2 rfl rfl (by decide) (by simp only [dM,List.length_map,cO]; omega) ?_))
   refine cY (ro rfl (dW (Ht rfl) (cJ 1) z6) (rm rfl (eZ (bL [0,1] rfl (by decide) (gQ (i + 1) hd0 zo (zS rfl) (aU (fun _ _ _ h=>h) (aU (eT (by rw [List.take_length,kY,← jK (f:=Fx M bs)])) aY)))))))
 ·simp only [decide_eq_false_iff_not] at hd0
  obtain rfl:i = M.length:=Nat.le_antisymm hi zo
  subst hMl
  refine gK rfl (ts (rm rfl (ra rfl (eZ ?_))))
  exact lW B12 trivial [0,1] ⟨⟨_,rfl,fun _ _ _ h=>h⟩,⟨_,rfl,(eT (by rw [jJ]; rfl))⟩,trivial⟩ (by decide) (yN rfl (eY rfl))
end
section
open Go Go.RowKit
theorem a2M {n:Nat} (hn:n ≤ 32):jG Tryz.prog 94 [NT .i64 n] [] (Nat) (fun B=>Is (.slice (some ⟨B,0,none⟩) n n)) (fun B=>[sV wG B 29 51 5 (dM aD (Pq n))]) (fun _=>True):=by
 refine jG.intro Tryz.func94 rfl Tryz.ntmps94 rfl (fun cx Z=>(ts (ro rfl (cQ cV) (eZ (ts (rn rfl (eG (Ts:=[Is (.bool false),Is (.slice none 0 0),Is (.bool false),Is (.slice none 0 0),Is (.slice none 0 0)]) O_51 rfl (fun V=>aW zd (aW zd (aW zd (aW zd (aW zd (aG))))))) fun B3=>(eZ (ts (rm rfl (ro rfl (aF.nat (Xz (Ht rfl) (cJ 0)) (show max n 0 = n by omega)) (ro rfl (aF.nat (Lw (Ht rfl) (cJ 32)) (show min n 32 = n by omega)) ?_)))))))))))
 refine rn rfl (fS (T:=Is (.slice none 0 0)) (i:=Tryz.t29) V_30 sP rfl rfl (Ht rfl) rfl (fun _=>rfl) trivial (by show 24 * _ ≤ _; omega) zo) fun B9=>ra rfl (eZ (cK (ts (rm rfl (ro rfl (jV U_30 (Ht rfl)) (ro rfl (cX (cJ 0)) (eZ (eK (lR 2 rfl (Fu wG ⟨none,0,rfl⟩ (e:=51) (s:=5)) ?_)))))))))
 refine cM (fun (k : Nat) => k ≤ n) (fun (k : Nat) => n - k) (fun (k : Nat) => [(3, bP B3 0), (4, Is (.slice (some ⟨B9, 0, none⟩) n n)), (11, NT .i64 n), (12, NT .i64 k)]) (fun (k : Nat) => [Z, box B3 51 [Is (.bool false), Is (.slice none 0 0), Is (.bool false), Is (.slice none 0 0), Is (.slice none 0 0)], sV wG B9 29 51 5 (dM aD (jR (Bq n) [] n k))]) 0 (Nat.zero_le _)
  (zS rfl) (aU (fun _ _ _ h=>h) (aU (fun _ _ _ h=>h) (aU (eT (by rw [← iI,pS]; exact rV aD n)) aY))) (fun k hk=>?_)
 refine ts (ro rfl (gV (Ht rfl) (Ht rfl)) (eZ (cK (dQ (Ht rfl) (fun hd=>?_) (fun hd=>?_)))))
 ·simp only [decide_eq_true_eq] at hd
  refine Uz 2 (k) rfl (uA hd) (fun v hv=>(cU (cK (eK (ts (rm rfl (ra rfl (eZ (cK (fV (m:=10) (dp 4 rfl (cX (Ht rfl)) (dp 5 rfl (cX (Ht rfl)) (dp 3 rfl (eW A_51 Z_51 (Ht rfl) (i:=1) rfl rfl rfl) (dq 17 2 rfl (bD bN (Ht rfl)) (d0 rfl (cZ Tryz.call77 (Kx (n:=0) (by decide) (by decide)) ⟨(cJ 0),trivial⟩) (dS 18 3 19 4 rfl (aP tT Tryz.call302 Ui (Ht rfl) ⟨(Ht rfl),trivial⟩) (dq 20 5 rfl (dH (xs:=[.tmp 20]) U_29 Z_51 O_51 (cW (Ht rfl) cG) rfl rfl rfl) ?_)))))))))))))))))
  refine dp 4 rfl (cX (Ht rfl)) (dq 22 7 rfl (jV U_30 (Ht rfl)) (C.D_new (Ei:=[(21,_),(23,_)]) rfl rfl rfl (bV (bG 6 rfl rfl) (bV (bG 8 rfl rfl) bW)) (Bb Tryz.call191 (a0Q (m:=n) zo zo) ⟨(Ht rfl),(Ht rfl),trivial⟩) (fG bF rfl (by kernel_rfl) (zF (zF (aJ (C.F_new (fun B24=>aV (ro rfl (gX U_30 Z_29 (Ht rfl) (Ht rfl) rfl zo (by rw [Nat.mul_one,Nat.zero_add])) ?_)))))))))
  refine zE Z_29 (Ht rfl) (Ht rfl) (by simp only [dM,List.length_map,cO]; omega) (j:=2) (l:=4) rfl rfl rfl ?_
  refine eZ ?_
  have hB24:=B24.1.2
  refine fV (m:=9) (dp 4 rfl (cX (Ht rfl)) (dp 5 rfl (cX (Ht rfl)) (dS 26 0 27 1 rfl (gX U_30 Z_29 (Ht rfl) (Ht rfl) rfl zo (by rw [Nat.mul_one,Nat.zero_add])) ?_)))
  refine dq 28 2 rfl (mL A_29 Z_29 (Ht rfl) (j:=2) rfl) (dp 5 rfl (cX (Ht rfl)) (dp 3 rfl (eW A_51 Z_51 (Ht rfl) (i:=1) rfl rfl rfl) (dq 31 5 rfl (bD bN (Ht rfl)) (d0 rfl (cZ Tryz.call77 (Kx (n:=1) (by decide) (by decide)) ⟨(cJ 1),trivial⟩) (dS 32 6 33 7 rfl (aP tT Tryz.call302 Ui (Ht rfl) ⟨(Ht rfl),trivial⟩) (fG bF rfl (by kernel_rfl) (zF (zF (aJ (aV (ro rfl (dE U_29 Z_51 (Ht rfl) (Ht rfl) rfl (i:=4) rfl (by simp only [List.length_map,aO]; omega) rfl) ?_)))))))))))
  refine kS Z_51 (Ht rfl) (Ht rfl) (El.ag rfl) (i:=4) rfl rfl (by simp only [List.length_map,aO]; omega) rfl ?_
  refine eZ (bH (kR 2 4 rfl rfl (by decide) (by simp only [dM,List.length_map,cO]; omega) ?_))
  refine cY (ro rfl (dW (Ht rfl) (cJ 1) z6) (rm rfl (eZ (bL [0,1,2] rfl (by decide) (gQ (k + 1) hd zo (zS rfl) (aU (fun _ _ _ h=>h) (aU (fun _ _ _ h=>h) (aU (eT (by rw [← jK (f:=Bq n),← kY,Bq,← fL])) aY))))))))
 ·simp only [decide_eq_false_iff_not] at hd
  obtain rfl:n = k:=Nat.le_antisymm zo hk
  refine gK rfl (ts (rm rfl (ra rfl (eZ ?_))))
  exact lW B9 trivial [0,2] ⟨⟨_,rfl,fun _ _ _ h=>h⟩,⟨_,rfl,(eT (by rw [jJ]; rfl))⟩,trivial⟩ (by decide) (yN rfl (eY rfl))
theorem a2e {n:Nat} (hn:n ≤ 32):bB Tryz.prog 94 [NT .i64 n] (dN (Pq n)):=(a2M hn).fun fun B _ v S V h1 h2=>rJ (s:=5) (M:=Pq n) (tZ n).1.symm v S V h1 h2
theorem Lz {M:List (List Qi)} {b:List Qi} {n L:Nat} (hM:eR M n n) (hb:b.length = n) (hf:bT M L) (hfb:cC b L) (hL:1 ≤ L) (h1:1 ≤ n) (hn:n ≤ 32) (hg:6 * dD L n + 4 ≤ 17592186044415) (hx:pE (dD L n) (n + 1) ≤ 17592186044415):bB Tryz.prog 96 [dN M,bA b] (dO [bA (iH (lZ M b n) (mC M b n)),aE .i64 (lZ M b n)]):=by
 have hMl:=hM.1
 have hcs:eR (lL M [b] n) n (n + 1):=nW hM
 have hcf:bT (lL M [b] n) L:=Bo hf (fun r hr=>by simp at hr; subst hr; exact hfb) hL
 obtain ⟨U,hU⟩:∃ U,U = (sR M b n).1:=⟨_,rfl⟩
 have hUs:eR U n (n + 1):=by rw [hU]; exact Sh hM
 have hUl:=hUs.1
 have hUf:bT U (dD L n):=by rw [hU]; exact Ft hM hf hfb hL
 have hG1:1 ≤ dD L n:=Nat.le_trans hL (sD L n)
 refine bB.intro Tryz.func96 rfl Tryz.ntmps96 rfl (fun cx=>(ts (ro rfl (cQ cV) (ro rfl (cQ (cJ 0)) (eZ (cK (ts (rm rfl (ro rfl (cZ Tryz.call174 (Fr hM h1 hn) ⟨(Ht rfl),trivial⟩) (ro rfl (eE (Ht rfl)) (rm rfl (fX rfl rfl (eU rfl rfl (Ht rfl) (fun h=>cX (Ht rfl))) (fX rfl rfl (eU rfl rfl (Ht rfl) (fun h=>dK U_29 (fW rfl h) aA)) (fX rfl rfl (eU rfl rfl (Ht rfl) (fun h=>cX (Ht rfl))) (fX rfl rfl (eU rfl rfl (Ht rfl) (fun h=>dK U_30 (fW rfl h) aA)) ?_)))))))))))))))
 refine fX rfl rfl (eU rfl rfl (Ht rfl) (fun h=>iR (fW rfl h) (fW rfl h))) (ro rfl (kZ (Ht rfl) (fun h=>(fW rfl h))) (eZ (fN (Ht rfl) (by simp [hMl,hb]) ?_)))
 refine cU (ts (rm rfl (ro rfl (dK U_30 (Ht rfl) (by rw [List.length_map,hMl])) ?_)))
 refine ra rfl (eZ (ts (rm rfl (rm rfl (ro rfl (dH (xs:=[.tmp 26]) U_30 Z_29 O_29 (cW (Ht rfl) cG) rfl rfl rfl) (nP Tryz.call193 (Ci (M:=M) (bs:=[b]) (n:=n) (m:=n) hM (fun r hr=>by simp at hr; subst hr; omega) zo zo (by simp)) ⟨(Ht rfl),(Ht rfl),trivial⟩ rfl (fun B28 _=>?_)))))))
 refine ra rfl (eZ (cK (ts (rm rfl (Ex Tryz.call194 (Wp (n:=n) (m:=n + 1) (L:=L) hcs hcf hL hg zo zo) (i:=0) rfl ⟨(Ht rfl),trivial⟩ rfl (fun uu _=>(rm rfl (ro rfl (dU (Ht rfl) rfl) (ro rfl (dU (Ht rfl) rfl) (ra rfl (ra rfl (eZ (ts (rm rfl (ro rfl (lT (Ht rfl) cV) (eZ (dQ (Ht rfl) (fun hs=>?_) (fun hs=>?_))))))))))))))))))
 ·have he : lZ M b n = 6 := by rw [lZ, if_pos (show 0 ≤ (sR M b n).2.2 from of_decide_eq_true hs)]
  refine ts (ro rfl (cQ cV) (ro rfl (cQ (cJ 6)) (eZ (bI rfl (fJ (eY rfl) ?_) (fJ (eY rfl) ?_)))))
  ·exact (fun v V k=>by rw [he]; exact iT v V k)
  ·exact (aM he.symm)
 ·have hst : ¬ 0 ≤ (sR M b n).2.2 := of_decide_eq_false hs
  have he:lZ M b n = 0:=by rw [lZ,if_neg hst]
  have hdz:∀ i,i < n → gm U i i ≠ Qi.zero:=by rw [hU]; exact pI hcs (Nat.le_refl n) (Xd hst)
  refine cU (ts (rm rfl (rn rfl (gR (T:=aD Qi.zero) (i:=Tryz.t51) kC iV rfl rfl (Ht rfl) rfl gS (El.ag rfl) (by show 88 * _ ≤ _; omega) zo) fun B37=>(ra rfl (eZ (cK (ts (rm rfl (ro rfl (dG (Ht rfl) (cJ 1) zo z6) (ra rfl (eZ (eK (lR 0 rfl (eT (show dM aD (cF (lL M [b] n) n).1 = dM aD U by rw [hU]; rfl)) (Lf 0 rfl (fun vs hvs=>?_)))))))))))))))
  have hvl:vs.length = n:=by have h:=hvs.len; rw [List.length_map,hUl] at h; exact h
  refine cM (fun (j : Nat) => j ≤ n) (fun (j : Nat) => n - j) (fun (j : Nat) => [(0, Is (.slice (some ⟨B28, 0, none⟩) n n)), (6, NT .i64 n), (9, Is B37), (10, aE .i64 ((n : Int) - 1 - (j : Int)))]) (fun (j : Nat) => [kD B28 29 51 5 vs vs (dM aD U), bM 51 5 B37 ((oP U n j).map aD)]) 0 (Nat.zero_le _)
   (aQ rfl (aQ rfl (aQ rfl (aZ rfl (aM zo) aX)))) (aU (fun _ _ _ h=>h) (aU (aR (by rw [oP]; exact nO aD n)) aY)) (fun j hj=>?_)
  refine cK (ts (rm rfl (ro rfl (lT (Ht rfl) cV) (eZ (dQ (Ht rfl) (fun hc=>?_) (fun hc=>?_))))))
  ·have hjn : j < n := a2W (of_decide_eq_true hc)
   obtain ⟨q,hq⟩:∃ q,q = n - (j + 1):=⟨_,rfl⟩
   have hqi:(n:Int) - 1 - (j:Int) = (q:Int):=by omega
   have hqr:(U.getD q []).length = n + 1:=hUs.row zo
   have hXf:=Jd hUf hG1 hdz j hj
   have hXl:=uJ U n j
   have hX1:1 ≤ pE (dD L n) j:=Nat.le_trans hG1 (Do _ _)
   have hxm:=yX (dD L n) (show j + 1 ≤ n + 1 by omega)
   refine cU (cK (eK (ts (rm rfl (rm rfl (ro rfl (gX U_30 Z_29 (Ht rfl) (Ht rfl) hqi zo (by rw [Nat.mul_one,Nat.zero_add])) ?_))))))
   refine ro rfl (lD A_29 Z_29 (Ht rfl) (j:=0) rfl zo) (rm rfl (ro rfl (nQ U_29 Z_51 (Ht rfl) (Ht rfl) rfl (j:=0) rfl zo zo zo) (ro rfl (rM A_51 Z_51 (Ht rfl) (j:=0) rfl zo zo zo) (rn rfl (eG (Ts:=[Is (.bool false),Is (.slice none 0 0),Is (.bool false),Is (.slice none 0 0),Is (.slice none 0 0)]) O_51 rfl (fun V=>aW zd (aW zd (aW zd (aW zd (aW zd (aG))))))) fun B11=>?_))))
   refine gJ Z_51 (Ht rfl) (Ht rfl) rfl (i:=2) rfl (aK rfl) rfl rfl (eZ (cK (ts (rm rfl (ro rfl (zR (Ht rfl) cV (r:=((q + 1:Nat):Int)) ((tD (z:=(n:Int) - 1 - (j:Int) + 1) zo).trans zo)) ?_)))))
   refine ra rfl (eZ (eK ?_))
   refine cM (fun (k : Nat) => k ≤ j) (fun (k : Nat) => j - k) (fun (k : Nat) => [(0, Is (.slice (some ⟨B28, 0, none⟩) n n)), (6, NT .i64 n), (9, Is B37), (10, aE .i64 ((n : Int) - 1 - (j : Int))), (11, bP B11 0), (12, NT .i64 (q + 1 + k))]) (fun (k : Nat) => [kD B28 29 51 5 vs vs (dM aD U), bM 51 5 B37 ((oP U n j).map aD), box B11 51 [aC (decide ((nD U (oP U n j) n q k).a < 0)), aH (nD U (oP U n j) n q k).a.natAbs, aC (decide ((nD U (oP U n j) n q k).b < 0)), aH (nD U (oP U n j) n q k).b.natAbs, aH (du (nD U (oP U n j) n q k))]]) 0 (Nat.zero_le _)
    (zS rfl) (aU (fun _ _ _ h=>h) (aU (fun _ _ _ h=>h) (aU (aB rfl) aY))) (fun k hk=>?_)
   refine cK (ts (rm rfl (rm rfl (ro rfl (gV (Ht rfl) (Ht rfl)) (eZ (dQ (Ht rfl) (fun hf=>?_) (fun hf=>?_)))))))
   ·have hkj : k < j := by simp only [decide_eq_true_eq] at hf; omega
    haveI f1:aN (nD U (oP U n j) n q k) (dD L n + k * (dD L n + pE (dD L n) j + 2)):=yA hUf hXf hG1 hX1 k
    haveI f2:aN (gm U q (q + 1 + k)) (dD L n):=hUf.get hG1 _ _
    haveI f3:aN (gv (oP U n j) (q + 1 + k)) (pE (dD L n) j):=hXf.get hX1 _
    have hb1:=Uu (G:=dD L n) (X:=pE (dD L n) j) hkj
    have hb2:pE (dD L n) (j + 1) = j * (pE (dD L n) j + dD L n + 2) + 4 * dD L n + 2:=rfl
    refine cU (cK (eK (fV (m:=15) (dp 11 rfl (eW A_51 Z_51 (Ht rfl) (i:=2) rfl rfl rfl) (dq 58 0 rfl (bD bN (Ht rfl)) (dp 0 rfl (cX (Ht rfl)) (dp 10 rfl (cX (Ht rfl)) (dS 60 2 61 3 rfl (gX U_30 Z_29 (Ht rfl) (Ht rfl) hqi zo (by rw [Nat.mul_one,Nat.zero_add])) ?_))))))))
    refine dq 62 4 rfl (lD A_29 Z_29 (Ht rfl) (j:=0) rfl zo) (dp 12 rfl (cX (Ht rfl)) (dS 63 5 64 6 rfl (nQ U_29 Z_51 (Ht rfl) (Ht rfl) rfl (j:=0) rfl zo zo zo) (dq 65 7 rfl (rM A_51 Z_51 (Ht rfl) (j:=0) rfl zo zo zo) (dq 66 8 rfl (bD bN (Ht rfl)) (dp 9 rfl (cX (Ht rfl)) (dp 12 rfl (cX (Ht rfl)) (dS 68 10 69 11 rfl (dE U_29 Z_51 (Ht rfl) (Ht rfl) rfl (i:=1) rfl (by rw [List.length_map]; omega) rfl) ?_)))))))
    refine dq 70 12 rfl (tH A_51 Z_51 (Ht rfl) (i:=1) rfl rfl (eQ (dY (d:=Qi.zero) zo))) (dS 67 9 71 13 rfl (aP cI K_45 (kU (x:=gm U q (q + 1 + k)) (y:=gv (oP U n j) (q + 1 + k)) (L:=dD L n) (M:=pE (dD L n) j) zo) (Ht rfl) ⟨(Ht rfl),trivial⟩) (fG bF rfl (by kernel_rfl) (zF (zF (zF (aJ (aJ (aJ (aV (ro rfl (aP jB K_44 (uZ (x:=(nD U (oP U n j) n q k)) (y:=gm U q (q + 1 + k) * gv (oP U n j) (q + 1 + k)) (L:=dD L n + k * (dD L n + pE (dD L n) j + 2)) (M:=dD L n + pE (dD L n) j + 1) zo) (Ht rfl) ⟨(Ht rfl),trivial⟩) ?_))))))))))
    refine gJ Z_51 (Ht rfl) (Ht rfl) rfl (i:=2) rfl (aK rfl) rfl rfl (eZ (bH (cY (rm rfl (ro rfl (dW (Ht rfl) (cJ 1) z6) (ra rfl (eZ (gQ (k + 1) hkj zo (zS rfl) (aU (fun _ _ _ h=>h) (aU (fun _ _ _ h=>h) (aU (aB rfl) aY)))))))))))
   ·obtain rfl : k = j := Nat.le_antisymm hk (by simp only [decide_eq_false_iff_not] at hf; omega)
    haveI f1:aN (nD U (oP U n k) n q k) (dD L n + k * (dD L n + pE (dD L n) k + 2)):=yA hUf hXf hG1 hX1 k
    haveI f2:aN (gm U q q) (dD L n):=hUf.get hG1 _ _
    have hb3:k * (pE (dD L n) k + dD L n + 2) = k * (dD L n + pE (dD L n) k + 2):=by rw [Nat.add_comm (pE _ _)]
    have hb2:pE (dD L n) (k + 1) = k * (pE (dD L n) k + dD L n + 2) + 4 * dD L n + 2:=rfl
    refine gK rfl (Y.D_start (m:=17) [(16,1,bM 51 5 B37 (((oP U n k).map aD).set q (aD ((nD U (oP U n k) n q k) / gm U q q))))] (Y.D_step (Ei:=[(9,_)]) rfl rfl (bQ (bJ rfl rfl) bX) rfl rfl (by kernel_rfl) (dX rfl (cX (Ht rfl))) (Y.D_step (Ei:=[(10,_)]) rfl rfl (bQ (bJ rfl rfl) bX) rfl rfl (by kernel_rfl) (dX rfl (cX (Ht rfl))) (Y.D_step (Ei:=[(11,_)]) rfl rfl (bQ (bJ rfl rfl) bX) rfl rfl (by kernel_rfl) (dX rfl (eW A_51 Z_51 (Ht rfl) (i:=2) rfl rfl rfl)) ?_))))
    refine Y.D_step (Ei:=[(77,_)]) rfl rfl (bQ (bZ 2 rfl rfl) bX) rfl rfl (by kernel_rfl) (dX rfl (bD bN (Ht rfl))) (Y.D_step (Ei:=[(0,_)]) rfl rfl (bQ (bJ rfl rfl) bX) rfl rfl (by kernel_rfl) (dX rfl (cX (Ht rfl))) (Y.D_step (Ei:=[(10,_)]) rfl rfl (bQ (bJ rfl rfl) bX) rfl rfl (by kernel_rfl) (dX rfl (cX (Ht rfl))) (Y.D_step (Ei:=[(79,_),(80,_)]) rfl rfl (bQ (bZ 4 rfl rfl) (bQ (bZ 5 rfl rfl) bX)) rfl rfl (by kernel_rfl) (dX rfl (gX U_30 Z_29 (Ht rfl) (Ht rfl) hqi zo (by rw [Nat.mul_one,Nat.zero_add]))) ?_)))
    refine Y.D_step (Ei:=[(81,_)]) rfl rfl (bQ (bZ 6 rfl rfl) bX) rfl rfl (by kernel_rfl) (dX rfl (lD A_29 Z_29 (Ht rfl) (j:=0) rfl zo)) (Y.D_step (Ei:=[(10,_)]) rfl rfl (bQ (bJ rfl rfl) bX) rfl rfl (by kernel_rfl) (dX rfl (cX (Ht rfl))) (Y.D_step (Ei:=[(82,_),(83,_)]) rfl rfl (bQ (bZ 7 rfl rfl) (bQ (bZ 8 rfl rfl) bX)) rfl rfl (by kernel_rfl) (dX rfl (nQ U_29 Z_51 (Ht rfl) (Ht rfl) hqi (j:=0) rfl zo zo zo)) ?_))
    refine Y.D_step (Ei:=[(84,_)]) rfl rfl (bQ (bZ 9 rfl rfl) bX) rfl rfl (by kernel_rfl) (dX rfl (rM A_51 Z_51 (Ht rfl) (j:=0) rfl zo zo zo)) (Y.D_step (Ei:=[(78,_),(85,_)]) rfl rfl (bQ (bZ 3 rfl rfl) (bQ (bZ 10 rfl rfl) bX)) rfl rfl (by kernel_rfl) (dX rfl (aP jS K_40 (wV (x:=(nD U (oP U n k) n q k)) (y:=gm U q q) (L:=dD L n + k * (dD L n + pE (dD L n) k + 2)) (M:=dD L n) zo) (Ht rfl) ⟨(Ht rfl),trivial⟩)) (Y.D_step (Ei:=[(86,_)]) rfl rfl (bQ (bZ 11 rfl rfl) bX) rfl rfl (by kernel_rfl) (dX rfl (cX (Ht rfl))) ?_))
    refine Y.D_step (Ei:=[(74,_)]) rfl rfl (bQ (bZ 12 rfl rfl) bX) rfl rfl (by kernel_rfl) (dX rfl (dU (Ht rfl) rfl)) (bY (Ei:=[(74,_)]) rfl rfl (bQ (bZ 12 rfl rfl) bX) rfl rfl (dX rfl (dU (Ht rfl) rfl)) (Y.D_step (Ei:=[(75,_),(76,_)]) rfl rfl (bQ (bZ 0 rfl rfl) (bQ (bZ 1 rfl rfl) bX)) rfl rfl (by kernel_rfl) (dX rfl (dE U_29 Z_51 (Ht rfl) (Ht rfl) hqi (i:=1) rfl (by rw [List.length_map]; omega) rfl)) ?_))
    refine Y.D_putI (Ei:=[(89,_),(87,_)]) 1 rfl rfl rfl (bQ (bZ 15 rfl rfl) (bQ (bZ 13 rfl rfl) bX)) (.head _) rfl (Bj Z_51 (Ht rfl) (Ht rfl) (El.ag rfl) (i:=0) rfl rfl (by rw [List.length_map]; omega)) ?_
    refine Y.D_done bF rfl (by kernel_rfl) rfl (by simp [Y.okP]) rfl rfl (bU (bU (bU (bU (bU (bU (bU (bU (bU (bU (bU (bU (bU (bU (bU (bU (Y.F_putI (Y.F_nil ?_))))))))))))))))))
    refine eZ (bH (cY (rm rfl (ro rfl (gM (Ht rfl) cV (tD zo)) (ra rfl (eZ (bL [0,1] rfl (by decide) (gQ (k + 1) hjn zo (aQ rfl (aQ rfl (aQ rfl (aZ rfl (aM zo) aX)))) (aU (fun _ _ _ h=>h) (aU (aR (by rw [fL,oP,← hq])) aY))))))))))
  ·obtain rfl : j = n := Nat.le_antisymm hj (a2l (by have h := of_decide_eq_false hc; omega))
   refine gG (i:=1) (tt:=9) rfl rfl gD (gK rfl (ts (rm rfl (ra rfl (ro rfl (cQ (cJ 0)) (eZ (bI rfl (fJ (eY rfl) ?_) (fJ (eY rfl) ?_))))))))
   ·exact (kB (by rw [he,mC,← hU]; rfl))
   ·exact (aM he.symm)
end
section
open Go Go.RowKit
abbrev ek (n k:Nat):List Qi:=(Pq n).getD k []
theorem a1u {n k:Nat} (h:k < n):(ek n k).length = n:=(tZ n).row h
theorem a28 {n k L:Nat} (h:1 ≤ L):cC (ek n k) L:=(Na h).row k
def Ir (M:List (List Qi)) (n:Nat):Int:=jL (fun k=>lZ M (ek n k) n) n
def a2c (M:List (List Qi)) (n:Nat):List (List Qi):=tab n fun r=>tab n fun j=>gv (mC M (ek n j) n) r
theorem pO {α:Type} {n i:Nat} {f:Nat → α} {d:α} (h:i < n):(tab n f).getD i d = f i:=by simp [List.getD,cE h]
def rI (M:List (List Qi)) (n k i:Nat):List (List Qi):=tab n fun r=>tab n fun j=>if j < k ∨ j = k ∧ r < i then gv (mC M (ek n j) n) r else gm M r j
theorem pW (M:List (List Qi)) (n k i:Nat):eR (rI M n k i) n n:=eR.tab
theorem Nw {M:List (List Qi)} {n:Nat} (h:eR M n n):M = rI M n 0 0:=by
 rw [rI]
 conv=>lhs; rw [qI h]
 exact cP fun r _=>cP fun j _=>by rw [if_neg zo]
theorem Vb (M : List (List Qi)) (n k : Nat) : rI M n k n = rI M n (k + 1) 0 := cP fun r hr => cP fun j _ => by
 by_cases h:j < k ∨ j = k ∧ r < n
 ·rw [if_pos h,if_pos zo]
 ·rw [if_neg h,if_neg zo]
theorem Uv (M:List (List Qi)) (n:Nat):rI M n n 0 = a2c M n:=cP fun r _=>cP fun j hj=>by rw [if_pos zo]
theorem Oh {M:List (List Qi)} {n k i:Nat} (hi:i < n) (hk:k < n):(rI M n k i).set i (((rI M n k i).getD i []).set k (gv (mC M (ek n k) n) i)) = rI M n k (i + 1):=by
 apply List.ext_getElem?
 intro r
 by_cases hr:r < n
 ·by_cases e : r = i
  ·subst e
   rw [List.getElem?_set_self (by rw [(pW _ _ _ _).1]; exact hr),rI,rI,cE (f:=fun r=>tab n fun j=>if j < k ∨ j = k ∧ r < _ + 1 then gv (mC M (ek n j) n) r else gm M r j) hr]
   congr 1
   have:(tab n fun x=>tab n fun j=>if j < k ∨ j = k ∧ x < r then gv (mC M (ek n j) n) x else gm M x j).getD r [] = tab n fun j=>if j < k ∨ j = k ∧ r < r then gv (mC M (ek n j) n) r else gm M r j:=pO hr
   rw [this]
   apply List.ext_getElem?
   intro j
   by_cases hj:j < n
   ·by_cases e2 : j = k
    ·subst e2
     rw [List.getElem?_set_self (by rw [aO]; exact hj),cE hj,if_pos zo]
    ·rw [List.getElem?_set_ne (Ne.symm e2), cE hj, cE hj]
     by_cases e3:j < k
     ·rw [if_pos (.inl e3),if_pos (.inl e3)]
     ·rw [if_neg zo,if_neg zo]
   ·rw [List.getElem?_eq_none (by rw [List.length_set,aO]; omega),List.getElem?_eq_none (by rw [aO]; omega)]
  ·rw [List.getElem?_set_ne (Ne.symm e), rI, rI, cE hr, cE hr]
   congr 1
   refine cP fun j _=>?_
   by_cases e3:j < k ∨ j = k ∧ r < i
   ·rw [if_pos e3,if_pos zo]
   ·rw [if_neg e3,if_neg zo]
 ·rw [List.getElem?_eq_none (by rw [List.length_set,(pW _ _ _ _).1]; omega),List.getElem?_eq_none (by rw [(pW _ _ _ _).1]; omega)]
theorem Xv {M:List (List Qi)} {n k:Nat} (h:∀ i,i < k → lZ M (ek n i) n = 0) (hk:k < n) (hx:lZ M (ek n k) n ≠ 0):Ir M n = lZ M (ek n k) n:=pR h hx hk
theorem Od {M:List (List Qi)} {n:Nat} (h:∀ i,i < n → lZ M (ek n i) n = 0):Ir M n = 0:=iP h
def pmM (m:Bool) (a b:List (List Qi)) (n:Nat):List (List Qi):=tab n fun i=>tab n fun j=>if m = true then gm a i j - gm b i j else gm a i j + gm b i j
theorem Xr {m:Bool} {a b:List (List Qi)} {n:Nat}:eR (pmM m a b n) n n:=eR.tab
theorem Zf {m : Bool} {a b : List (List Qi)} {n L M : Nat} (ha : bT a L) (hb : bT b M) (h1 : 1 ≤ L) (h2 : 1 ≤ M) : bT (pmM m a b n) (L + M + 1) := bT.tab fun i j _ _ => by
 haveI:=ha.get h1 i j; haveI:=hb.get h2 i j
 split
 ·infer_instance
 ·infer_instance
theorem Vd {T : Ty} {s : Nat} : ∀ vs V, gI [T, Is (.slice none 0 0)] vs V → gI [T, jT s []] vs V
 | [_,_],_,⟨h1,h2,h3⟩=>⟨h1,iT _ _ h2,h3⟩
 | [],_,h=>h.elim
 | [_],_,h=>h.2.elim
 | _ :: _ :: _ :: _,_,h=>h.2.2.elim
theorem jG.arg {P : Program} {f : FuncId} {Ts Ts' : List Ty} {As : Hp} {γ : Type} {U : γ → Ty} {As' : γ → Hp} {Q : γ → Prop} (h : jG P f Ts As γ U As' Q) (i : ∀ vs V, gI Ts' vs V → gI Ts vs V) : jG P f Ts' As γ U As' Q :=
 fun cx Z vs V w h1 h2=>h cx Z vs V w h1 (i _ _ h2)
end
section
open Go Go.RowKit
theorem Ou {M:List (List Qi)} {n m:Nat} (hM:eR M n m) (hn:n ≤ 1000) (hm:m ≤ 1000):jG Tryz.prog 193 [dN M,Is (.slice none 0 0)] [] Nat (fun B=>Is (.slice (some ⟨B,0,none⟩) n n)) (fun B=>[nT B 29 51 5 (dM aD M)]) (fun _=>True):=by
 have h:=Ci (M:=M) (bs:=[]) hM (fun b hb=>by cases hb) hn hm (by simp)
 rw [Pb hM] at h
 exact h.arg Vd
theorem a2J {M:List (List Qi)} {n L:Nat} (hM:eR M n n) (hf:bT M L) (hL:1 ≤ L) (h1:1 ≤ n) (hn:n ≤ 32) (hg:6 * dD L n + 4 ≤ 17592186044415) (hx:pE (dD L n) (n + 1) ≤ 17592186044415):bB Tryz.prog 248 [dN M] (dO [dN (iH (Ir M n) (a2c M n)),aE .i64 (Ir M n)]):=by
 have hMl:=hM.1
 refine bB.intro Tryz.func248 rfl Tryz.ntmps248 rfl (fun cx=>(ts (ro rfl (cQ cV) (ro rfl (cQ (cJ 0)) (eZ (cK (ts (rm rfl (ro rfl (cZ Tryz.call174 (Fr hM h1 hn) ⟨(Ht rfl),trivial⟩) (ro rfl (eE (Ht rfl)) (eZ (fN (Ht rfl) (by rfl) ?_))))))))))))
 refine cU (ts (rm rfl (nP Tryz.call193 (Ou hM zo zo) ⟨(Ht rfl),cV,trivial⟩ rfl (fun B14 _=>(ra rfl (eZ (cK (ts (rm rfl (ro rfl (dK U_30 (Ht rfl) (by rw [List.length_map,hMl])) ?_))))))))))
 refine ro rfl (cZ Tryz.call94 (a2e (n:=n) hn) ⟨(Ht rfl),trivial⟩) (ro rfl (dK U_30 (Ht rfl) aA) (ro rfl (cX (cJ 0)) (eZ (eK ?_))))
 refine cM (fun (k : Nat) => k ≤ n ∧ ∀ i, i < k → lZ M (ek n i) n = 0) (fun (k : Nat) => n - k) (fun (k : Nat) => [(0, dN M), (4, Is (.slice (some ⟨B14, 0, none⟩) n n)), (17, dN (Pq n)), (18, NT .i64 n), (19, NT .i64 k)]) (fun (k : Nat) => [nT B14 29 51 5 (dM aD (rI M n k 0))]) 0 ⟨Nat.zero_le _, fun i h => by omega⟩
  (aQ rfl (aQ rfl (aQ rfl (aZ rfl (lI (tZ n).1) (zS rfl))))) (aU (eT (congrArg _ (Nw hM))) aY) (fun k ⟨hk,h0⟩=>?_)
 refine ts (ro rfl (gV (Ht rfl) (Ht rfl)) (eZ (cK (dQ (Ht rfl) (fun hd0=>?_) (fun hd0=>?_)))))
 ·simp only [decide_eq_true_eq] at hd0
  have hel:=a1u hd0
  refine cU (cK (eK (ts (rm rfl (ro rfl (dZ U_30 Z_29 (Ht rfl) (Ht rfl) rfl (eQ (dY (d:=[]) (by rw [(tZ n).1]; exact hd0)))) ?_)))))
  refine ro rfl (dV A_29 Z_29 (Ht rfl)) (ra rfl (ra rfl (eZ (ts (rm rfl (rm rfl (ro rfl (cZ Tryz.call96 (Lz (M:=M) (b:=ek n k) (n:=n) (L:=L) hM hel hf (a28 hL) hL h1 hn hg hx) ⟨(Ht rfl),(Ht rfl),trivial⟩) (rm rfl (ro rfl (dU (Ht rfl) rfl) (ro rfl (dU (Ht rfl) rfl) (ra rfl (ra rfl (eZ (cK (ts (rm rfl (ro rfl (fB (Ht rfl) cV) (eZ (dQ (Ht rfl) (fun he=>?_) (fun he=>?_))))))))))))))))))))
  ·have he2 : ¬ lZ M (ek n k) n = 0 := by simpa using he
   have hi:=Xv h0 hd0 he2
   refine ts (rm rfl (ro rfl (cQ cV) (ra rfl (eZ (bI rfl (fJ (eY rfl) ?_) (fJ (eY rfl) ?_))))))
   ·exact (fun v V h=>by rw [hi,iH,if_neg he2]; exact iT v V h)
   ·exact (aM hi.symm)
  ·have he2 : lZ M (ek n k) n = 0 := by simpa using he
   have hxl:(mC M (ek n k) n).length = n:=uJ _ _ _
   refine yI (E':=[(0,_),(4,_),(5,_),(7,_),(17,_),(18,_),(19,_)]) (aQ rfl (aQ rfl (aQ rfl (aZ rfl (kB (Us:=(mC M (ek n k) n).map aD) (by rw [he2]; rfl)) (zS rfl))))) ?_
   refine cU (ts (rm rfl (ro rfl (dK U_29 (Ht rfl) aA) (ro rfl (cX (cJ 0)) (eZ (eK ?_))))))
   refine cM (fun (i : Nat) => i ≤ n) (fun (i : Nat) => n - i) (fun (i : Nat) => [(0, dN M), (4, Is (.slice (some ⟨B14, 0, none⟩) n n)), (5, NT .i64 k), (7, bA (mC M (ek n k) n)), (17, dN (Pq n)), (18, NT .i64 n), (19, NT .i64 k), (34, NT .i64 n), (35, NT .i64 i)]) (fun (i : Nat) => [nT B14 29 51 5 (dM aD (rI M n k i))]) 0 (Nat.zero_le _)
    (aQ rfl (aQ rfl (aQ rfl (aQ rfl (aQ rfl (aQ rfl (aQ rfl (aZ rfl (lI hxl) (zS rfl))))))))) (dL.refl _) (fun i hi=>?_)
   refine ts (ro rfl (gV (Ht rfl) (Ht rfl)) (eZ (cK (dQ (Ht rfl) (fun hf2=>?_) (fun hf2=>?_)))))
   ·simp only [decide_eq_true_eq] at hf2
    have hpl:=(pW M n k i).1
    have hpr:((rI M n k i).getD i []).length = n:=(pW M n k i).row hf2
    refine oR 0 (i) rfl (mZ zo) (fun v=>(cU (cK (eK (ts (rm rfl (ra rfl (eZ (fV (m:=9) (dp 4 rfl (cX (Ht rfl)) (dp 9 rfl (cX (Ht rfl)) (dS 38 0 39 1 rfl (gX U_30 Z_29 (Ht rfl) (Ht rfl) rfl zo (by rw [Nat.mul_one,Nat.zero_add])) ?_))))))))))))
    refine dq 40 2 rfl (mL A_29 Z_29 (Ht rfl) (j:=0) rfl) (dp 5 rfl (cX (Ht rfl)) (dp 7 rfl (cX (Ht rfl)) (dp 9 rfl (cX (Ht rfl)) (dS 43 5 44 6 rfl (dZ U_29 Z_51 (Ht rfl) (Ht rfl) rfl (eQ (dY (d:=Qi.zero) zo))) (dq 45 7 rfl (dV A_51 Z_51 (Ht rfl)) (fG bF rfl (by kernel_rfl) (zF (zF (aJ (aV (ro rfl (dE U_29 Z_51 (Ht rfl) (Ht rfl) rfl (i:=1) rfl (by rw [List.length_map]; omega) rfl) ?_)))))))))))
    refine kS Z_51 (Ht rfl) (Ht rfl) (El.ag rfl) (i:=1) rfl rfl (by rw [List.length_map]; omega) rfl ?_
    refine eZ (bH (kR 0 1 rfl rfl (by decide) (by simp only [dM,List.length_map]; omega) ?_))
    refine cY (ro rfl (dW (Ht rfl) (cJ 1) z6) (rm rfl (eZ (bL [0] rfl (by decide) (gQ (i + 1) hf2 zo (zS rfl) (aU (eT (by rw [fL,kY,Oh hf2 hd0])) aY))))))
   ·simp only [decide_eq_false_iff_not] at hf2
    obtain rfl:n = i:=Nat.le_antisymm zo hi
    refine gK rfl (bH (cY (ro rfl (dW (Ht rfl) (cJ 1) z6) (rm rfl (eZ ?_)))))
    refine gQ (k + 1) ⟨hd0, fun j h => by
     by_cases e:j = k
     ·rw [e]; exact he2
     ·exact h0 j zo⟩ zo (zS rfl) (aU (eT (by rw [Vb])) aY)
 ·simp only [decide_eq_false_iff_not] at hd0
  obtain rfl:n = k:=Nat.le_antisymm zo hk
  have hi:=Od h0
  refine gG (i:=0) (tt:=4) rfl rfl (rJ (s:=5) (M:=rI M n n 0) (pW M n n 0).1.symm) (gK rfl (ts (rm rfl (ra rfl (ro rfl (cQ (cJ 0)) (eZ (bI rfl (fJ (eY rfl) ?_) (fJ (eY rfl) ?_))))))))
  ·exact (kB (by rw [hi,Uv]; rfl))
  ·exact (aM hi.symm)
theorem a0X {m:Bool} {a b:List (List Qi)} {n i j L M:Nat} (ha:eR a n n) (hb:eR b n n) (hfa:bT a L) (hfb:bT b M) (h1:1 ≤ L) (h2:1 ≤ M) (hg:L + M + 1 ≤ 17592186044415) (hi:i < n) (hj:j < n):bB Tryz.prog 252 [NT .i64 i,NT .i64 j,PT (aC m),PT (dN a),PT (dN b)] (aD (if m = true then gm a i j - gm b i j else gm a i j + gm b i j)):=by
 have hal:=ha.1
 have hbl:=hb.1
 have har:=ha.row hi
 have hbr:=hb.row hi
 haveI f1:aN (gm a i j) L:=hfa.get h1 i j
 haveI f2:aN (gm b i j) M:=hfb.get h2 i j
 refine bB.intro Tryz.func252 rfl Tryz.ntmps252 rfl (fun cx=>(ts (rn rfl (eG (Ts:=[Is (.bool false),Is (.slice none 0 0),Is (.bool false),Is (.slice none 0 0),Is (.slice none 0 0)]) O_51 rfl (fun V=>aW zd (aW zd (aW zd (aW zd (aW zd (aG))))))) fun B7=>(eZ (cK (ts (ro rfl (dV A_4 Z_4 (Ht rfl)) (eZ (dQ (Ht rfl) (fun hm=>?_) (fun hm=>?_))))))))))
 ·refine cK (fV (m := 15) (dp 3 rfl (dV A_30 Z_30 (Ht rfl)) (dp 0 rfl (cX (Ht rfl)) (dS 9 0 10 1 rfl (dZ U_30 Z_29 (Ht rfl) (Ht rfl) rfl (eQ (dY (d := []) zo))) (dq 11 2 rfl (dV A_29 Z_29 (Ht rfl)) (dp 1 rfl (cX (Ht rfl)) (dS 12 3 13 4 rfl (dZ U_29 Z_51 (Ht rfl) (Ht rfl) rfl (eQ (dY (d := Qi.zero) zo))) (dq 14 5 rfl (dV A_51 Z_51 (Ht rfl)) (dq 15 6 rfl (bD bN (Ht rfl)) (dp 4 rfl (dV A_30 Z_30 (Ht rfl)) ?_))))))))))
  refine dp 0 rfl (cX (Ht rfl)) (dS 17 8 18 9 rfl (dZ U_30 Z_29 (Ht rfl) (Ht rfl) rfl (eQ (dY (d:=[]) zo))) (dq 19 10 rfl (dV A_29 Z_29 (Ht rfl)) (dp 1 rfl (cX (Ht rfl)) (dS 20 11 21 12 rfl (dZ U_29 Z_51 (Ht rfl) (Ht rfl) rfl (eQ (dY (d:=Qi.zero) zo))) (dq 22 13 rfl (dV A_51 Z_51 (Ht rfl)) (fG bF rfl (by kernel_rfl) (zF (zF (zF (aJ (aJ (aJ (aV ?_)))))))))))))
  refine ro rfl (aP jB K_44 (uZ (x:=gm a i j) (y:=gm b i j) (L:=L) (M:=M) hg) (Ht rfl) ⟨(Ht rfl),trivial⟩) (gJ Z_51 (Ht rfl) (Ht rfl) rfl (i:=0) rfl (aK rfl) rfl rfl (eZ (fK rfl (fJ (fY A_51 Z_51 rfl (i:=0) rfl rfl) ?_))))
  exact (gP (by rw [if_pos hm]))
 ·refine cU (cK (fV (m := 15) (dp 3 rfl (dV A_30 Z_30 (Ht rfl)) (dp 0 rfl (cX (Ht rfl)) (dS 25 0 26 1 rfl (dZ U_30 Z_29 (Ht rfl) (Ht rfl) rfl (eQ (dY (d := []) zo))) (dq 27 2 rfl (dV A_29 Z_29 (Ht rfl)) (dp 1 rfl (cX (Ht rfl)) (dS 28 3 29 4 rfl (dZ U_29 Z_51 (Ht rfl) (Ht rfl) rfl (eQ (dY (d := Qi.zero) zo))) (dq 30 5 rfl (dV A_51 Z_51 (Ht rfl)) (dq 31 6 rfl (bD bN (Ht rfl)) (dp 4 rfl (dV A_30 Z_30 (Ht rfl)) ?_)))))))))))
  refine dp 0 rfl (cX (Ht rfl)) (dS 33 8 34 9 rfl (dZ U_30 Z_29 (Ht rfl) (Ht rfl) rfl (eQ (dY (d:=[]) zo))) (dq 35 10 rfl (dV A_29 Z_29 (Ht rfl)) (dp 1 rfl (cX (Ht rfl)) (dS 36 11 37 12 rfl (dZ U_29 Z_51 (Ht rfl) (Ht rfl) rfl (eQ (dY (d:=Qi.zero) zo))) (dq 38 13 rfl (dV A_51 Z_51 (Ht rfl)) (fG bF rfl (by kernel_rfl) (zF (zF (zF (aJ (aJ (aJ (aV ?_)))))))))))))
  refine ro rfl (aP lG K_46 (yG (x:=gm a i j) (y:=gm b i j) (L:=L) (M:=M) hg) (Ht rfl) ⟨(Ht rfl),trivial⟩) (gJ Z_51 (Ht rfl) (Ht rfl) rfl (i:=0) rfl (aK rfl) rfl rfl (eZ (fK rfl (fJ (fY A_51 Z_51 rfl (i:=0) rfl rfl) ?_))))
  exact (gP (by rw [if_neg (by rw [hm]; decide)]))
theorem a0n {m:Bool} {a b:List (List Qi)} {n L M:Nat} (ha:eR a n n) (hb:eR b n n) (hfa:bT a L) (hfb:bT b M) (h1:1 ≤ L) (h2:1 ≤ M) (hg:L + M + 1 ≤ 17592186044415) (hn:n ≤ 1000):bB Tryz.prog 207 [dN a,dN b,aC m] (dN (pmM m a b n)):=by
 have hal:=ha.1
 refine bB.intro Tryz.func207 rfl Tryz.ntmps207 rfl (fun cx=>(ts (rn rfl (pV (Ht rfl)) fun B3=>(rn rfl (pV (Ht rfl)) fun B4=>(rn rfl (pV (Ht rfl)) fun B5=>(ro rfl (cQ cV) (eZ (cK (gG (i:=0) (tt:=3) rfl rfl iB (gG (i:=1) (tt:=4) rfl rfl iB (gG (i:=2) (tt:=5) rfl rfl iB (cY (ro rfl (dV A_30 Z_30 (Ht rfl)) (ro rfl (dK U_30 (Ht rfl) (by rw [List.length_map,hal])) ?_))))))))))))))
 refine ro rfl (lS (γ:=Fin n × Fin n) (Ts:=fun x=>[NT .i64 x.1.1,NT .i64 x.2.1]) (U:=fun x=>aD (if m = true then gm a x.1.1 x.2.1 - gm b x.1.1 x.2.1 else gm a x.1.1 x.2.1 + gm b x.1.1 x.2.1)) Tryz.call252 (fun x=>a0X ha hb hfa hfb h1 h2 hg x.1.2 x.2.2) ⟨(Ht rfl),(Ht rfl),(Ht rfl),trivial⟩) (ro rfl (cZ K_114 (yY (n:=n) (f:=fun i j=>if m = true then gm a i j - gm b i j else gm a i j + gm b i j) hn) ⟨(Ht rfl),(Ht rfl),trivial⟩) (ra rfl (eZ ?_)))
 exact fK rfl (eY rfl)
theorem Zq {Y M:List (List Qi)} {n L:Nat} (hM:eR M n n) (hf:bT M L) (hL:1 ≤ L) (h1:1 ≤ n) (hn:n ≤ 32) (hg:6 * dD L n + 4 ≤ 17592186044415) (hx:pE (dD L n) (n + 1) ≤ 17592186044415) (hE:Ir M n ≠ 0):bB Tryz.prog 186 [dN Y,dN M] (dO [dN [],aE .i64 5]):=by
 refine bB.intro Tryz.func186 rfl Tryz.ntmps186 rfl (fun cx=>(ts (ro rfl (cQ cV) (ro rfl (cQ (cJ 0)) (eZ (ts (rm rfl (ro rfl (cZ Tryz.call248 (a2J hM hf hL h1 hn hg hx) ⟨(Ht rfl),trivial⟩) (rm rfl (ro rfl (dU (Ht rfl) rfl) (ro rfl (dU (Ht rfl) rfl) (ra rfl (ra rfl (eZ (cK (ts (rm rfl (ro rfl (fB (Ht rfl) cV) (eZ (nG (Ht rfl) (by simp [hE]) ?_))))))))))))))))))))
 refine ts (ro rfl (cQ cV) (ro rfl (cQ (cJ 5)) (eZ (bI rfl (fJ (eY rfl) ?_) (eY rfl)))))
 exact (fun v V h=>iT v V h)
theorem a1q {z:List Qi} {s:List (List Qi)} {L:Nat} (hs:eR s z.length z.length) (hf:bT s L) (hL:1 ≤ L) (h1:1 ≤ z.length) (hn:z.length ≤ 8) (hg:6 * dD (L + 2) z.length + 4 ≤ 17592186044415) (hx:pE (dD (L + 2) z.length) (z.length + 1) ≤ 17592186044415) (hE:Ir (pmM true (Pq z.length) s z.length) z.length ≠ 0):bB Tryz.prog 124 [bR z s] (dO [dN [],aE .i64 5]):=by
 have hgl:=sD (L + 2) z.length
 have hid:=tZ z.length
 have hif:bT (Pq z.length) 1:=Na (Nat.le_refl 1)
 have hpf:bT (pmM true (Pq z.length) s z.length) (L + 2):=by have h:=Zf (m:=true) (n:=z.length) hif hf (Nat.le_refl 1) hL; rw [show L + 2 = 1 + L + 1 by omega]; exact h
 refine bB.intro Tryz.func124 rfl Tryz.ntmps124 rfl (fun cx=>(ts (rn rfl (fU (Ht rfl)) fun B1=>(ro rfl (cQ cV) (ro rfl (cQ (cJ 0)) (eZ (ts (ro rfl (eJ eO (Ht rfl) rfl) (ro rfl (fQ A_29 Z_29 (Ht rfl) (i:=0) rfl rfl) (ro rfl (dK U_29 (Ht rfl) aA) (ro rfl (cZ Tryz.call94 (a2e (n:=z.length) zo) ⟨(Ht rfl),trivial⟩) (ra rfl (eZ (cK (fV (m:=13) (dp 4 rfl (cX (Ht rfl)) (dp 1 rfl (eJ dI (Ht rfl) rfl) (dq 13 1 rfl (fQ A_30 Z_30 (Ht rfl) (i:=0) rfl rfl) ?_))))))))))))))))))
 refine dS 12 0 14 2 rfl (cZ Tryz.call207 (a0n (m:=false) (n:=z.length) (L:=1) (M:=L) hid hs hif hf (Nat.le_refl 1) hL zo zo) ⟨(Ht rfl),(Ht rfl),cV,trivial⟩) (dp 4 rfl (cX (Ht rfl)) (dp 1 rfl (eJ dI (Ht rfl) rfl) (dq 17 5 rfl (fQ A_30 Z_30 (Ht rfl) (i:=0) rfl rfl) (dS 16 4 18 6 rfl (cZ Tryz.call207 (a0n (m:=true) (n:=z.length) (L:=1) (M:=L) hid hs hif hf (Nat.le_refl 1) hL zo zo) ⟨(Ht rfl),(Ht rfl),cV,trivial⟩) (dS 15 3 19 7 rfl (cZ Tryz.call186 (Zq (n:=z.length) (L:=L + 2) Xr hpf zo h1 zo hg hx hE) ⟨(Ht rfl),(Ht rfl),trivial⟩) ?_)))))
 refine dq 20 8 rfl (cX (Ht rfl)) (dq 11 9 rfl (dU (Ht rfl) rfl) (dq 11 9 rfl (dU (Ht rfl) rfl) (dq 21 10 rfl (cQ (Ht rfl)) (fG bF rfl (by kernel_rfl) (zF (zF (zF (aJ (aV (ra rfl (eZ (cK (ts (rm rfl (ro rfl (fB (Ht rfl) cV) (eZ (nG (Ht rfl) (by rfl) ?_)))))))))))))))))
 refine ts (rm rfl (ro rfl (cQ cV) (ra rfl (eZ (bI rfl (fJ (eY rfl) ?_) (eY rfl))))))
 exact (fun v V h=>iT v V h)
end
section
open Go Go.RowKit
section
variable {P:Program} {R:iG} {cx:Cx} {n:Nat} {k:List It} {E:cH} {H:Hp}
theorem tG (i l off : Nat) {B : Nat} {BT : TypeId} {Us : List Ty} {v : Value} {A : SA} {T : Ty} (hB : H[i]? = some (box B BT Us)) (hU : Us[off]? = some (Is v)) (hL : H[l]? = some A) (hne : i ≠ l) (hT : ∀ S V, A.h S V V → T.p v V)
  (h:Tr P R cx n k E ((H.set l SA.emp).set i (box B BT (Us.set off T)))):Tr P R cx n k E H:=fun a w ⟨V,hi,hs⟩=>by
 obtain ⟨V',S,hle,hi',hA⟩:=hi.freeze hL
 have hT:=hT S V' hA
 refine h a w ⟨V',hi'.withHH ?_,hs.mono hle⟩
 obtain ⟨F,h1,h2⟩:=hi'.hp
 have hB':(H.set l SA.emp)[i]? = some (box B BT Us):=by rw [List.getElem?_set_ne (Ne.symm hne)]; exact hB
 have hil:=(List.getElem?_eq_some_iff.1 hB').1
 refine ⟨F,fun q A hq=>?_,fun q r b hq hr=>h2 q r b (by simpa using hq) (by simpa using hr)⟩
 by_cases c:i = q
 ·subst c
  rw [List.getElem?_set_self hil] at hq
  obtain rfl:=Option.some.inj hq
  obtain ⟨⟨k1,cs,k2,k3⟩,k4⟩:=h1 i _ hB'
  obtain ⟨u,u1,u2⟩:=k3.get hU
  obtain rfl:u = v:=u2
  have hset : cs.set off u = cs := by
   apply List.ext_getElem?
   intro j
   by_cases cj:off = j
   ·subst cj; rw [List.getElem?_set_self (List.getElem?_eq_some_iff.1 u1).1,u1]
   ·rw [List.getElem?_set_ne cj]
  refine ⟨⟨k1,cs,k2,?_⟩,k4⟩
  have:=k3.set off (v:=u) hT (k3.pl u (List.mem_of_getElem? u1))
  rwa [hset] at this
 ·rw [List.getElem?_set_ne c] at hq
  exact h1 q A hq
theorem a29 {B e l : Nat} {BT : TypeId} {F : Qi → Ty} {q : Value → Prop} {M : List (List Qi)} (hl : l = M.length) : ∀ S V, (sV q B BT e 5 (dM F M)).h S V V → (jT 1 (M.map fun r => jT 5 (r.map F))).p (.slice (some ⟨B, 0, none⟩) l l) V := fun S V h =>
 rJ (s:=5) (M:=M) hl _ S V rfl h
end
def mE (p i:Nat):Nat:=if i < p then i else i + 1
abbrev gY (l:List Nat):Ty:=jT 1 (l.map (NT .i64))
def yK (p n:Nat):List Nat:=tab n fun j=>mE p j + 1
def Po (p i:Nat):Nat:=if i ≤ p then i else i - 1
theorem Ng {p n:Nat} (h:p < n):Po p n = n - 1:=by unfold Po; split <;> omega
theorem Jm {p i n:Nat} (h:i < n - 1) (hp:p < n):mE p i < n:=by unfold mE; split <;> omega
theorem Lo {p n j:Nat} (h:j < n):(yK p n)[j]? = some (mE p j + 1):=cE h
def Ny (z:List Qi) (p m:Nat):List Qi:=tab m fun i=>gv z (mE p i)
def a2P (s:List (List Qi)) (p m:Nat):List (List Qi):=tab m fun i=>tab m fun j=>gm s (mE p i) (mE p j)
def Jv (s:List (List Qi)) (p:Nat) (f:Qi) (i j:Nat):Qi:=gm s (mE p i) (mE p j) + gm s (mE p i) p * (f * gm s p (mE p j))
def a23 (s:List (List Qi)) (p m:Nat) (f:Qi):List (List Qi):=tab m fun i=>tab m fun j=>Jv s p f i j
def lM (s:List (List Qi)) (p:Nat) (g:Qi):Qi:=g / (Qi.ofInt 1 - gm s p p * g)
def qV (z : List Qi) (s : List (List Qi)) (port : Int) (g : Qi) : Int :=
 if ¬ (1 ≤ port ∧ port ≤ z.length) then 1 else if z.length = 1 then 4 else if Qi.ofInt 1 - gm s (port - 1).toNat (port - 1).toNat * g = Qi.zero then 6 else 0
def zB (z:List Qi) (s:List (List Qi)) (port:Int) (g:Qi):List Qi:=iH (qV z s port g) (Ny z (port - 1).toNat (z.length - 1))
def zA (z:List Qi) (s:List (List Qi)) (port:Int) (g:Qi):List (List Qi):=iH (qV z s port g) (a23 s (port - 1).toNat (z.length - 1) (lM s (port - 1).toNat g))
theorem Cw {z:List Qi} {s:List (List Qi)} {port:Int} {g:Qi} {e:Int} (h:qV z s port g = e) (he:e ≠ 0):∀ v V,(bR [] []).p v V → (bR (zB z s port g) (zA z s port g)).p v V:=by
 rw [zB,zA,iH,iH,h,if_neg he,if_neg he]; exact fun _ _ k=>k
theorem a0f (p:Nat):((p:Int) + 1 - 1).toNat = p:=by omega
theorem Va {z:List Qi} {s:List (List Qi)} {p:Nat} {g:Qi} (h:qV z s ((p:Int) + 1) g = 0):∀ v V,(bR (Ny z p (z.length - 1)) (a23 s p (z.length - 1) (lM s p g))).p v V → (bR (zB z s ((p:Int) + 1) g) (zA z s ((p:Int) + 1) g)).p v V:=by
 rw [zB,zA,iH,iH,h,if_pos rfl,if_pos rfl,a0f]; exact fun _ _ k=>k
theorem a1I {z:List Qi} {s:List (List Qi)} {port:Int} {g:Qi} (h:¬ (1 ≤ port ∧ port ≤ z.length)):qV z s port g = 1:=by rw [qV,if_pos h]
theorem a0Y {z:List Qi} {s:List (List Qi)} {port:Int} {g:Qi} (h:1 ≤ port ∧ port ≤ z.length) (h1:z.length = 1):qV z s port g = 4:=by rw [qV,if_neg (fun k=>k h),if_pos h1]
theorem a11 {z:List Qi} {s:List (List Qi)} {p:Nat} {g:Qi} (h:p < z.length) (h1:¬ z.length = 1):qV z s ((p:Int) + 1) g = if Qi.ofInt 1 - gm s p p * g = Qi.zero then 6 else 0:=by
 rw [qV,if_neg (fun k=>k zo),if_neg h1,a0f]
theorem Tu {s:List (List Qi)} {p L:Nat} {g:Qi} (hs:bT s L) (hg:aN g L) (hL:1 ≤ L) (hd:Qi.ofInt 1 - gm s p p * g ≠ Qi.zero):aN (lM s p g) (7 * L + 11):=by
 haveI f0:=nK
 haveI f1:=hs.get hL p p
 haveI f2:=hg
 have f3:aN (Qi.ofInt 1 - gm s p p * g) (1 + (L + L + 1) + 1):=@fitSub _ _ _ _ f0 inferInstance
 have:aN (lM s p g) (L + 3 * (1 + (L + L + 1) + 1) + 2):=⟨f2.fit.div f3.fit hd⟩
 exact this.le zo
end
section
open Go Go.RowKit
abbrev gnI (G:List Nat):List Int:=G.map fun (q:Nat)=>(q:Int) + 1
def nL (G : List Nat) : Nat → List Nat
 | 0=>[]
 | k + 1=>nL G k ++ (if k ∈ G then [] else [k])
theorem xS (G : List Nat) : ∀ k, (nL G k).length ≤ k
 | 0=>Nat.le_refl _
 | k + 1 => by
  have:=xS G k
  simp only [nL,List.length_append]
  split
  ·simp; omega
  ·simp; omega
theorem Dj {G : List Nat} : ∀ {k x : Nat}, x ∈ nL G k → x < k
 | 0,x,h=>by cases h
 | k + 1, x, h => by
  rcases List.mem_append.1 h with h1 | h1
  ·have:=Dj h1; omega
  ·split at h1
   ·cases h1
   ·have:=List.mem_singleton.1 h1; omega
theorem Cz {p : Nat} : ∀ {k : Nat}, nL [p] k = tab (Po p k) (mE p)
 | 0=>by rw [nL,show Po p 0 = 0 by unfold Po; split <;> omega]; rfl
 | k + 1 => by
  rw [nL,Cz]
  by_cases c:k = p
  ·subst c
   rw [if_pos (by simp),List.append_nil,show Po k (k + 1) = Po k k by unfold Po; split <;> split <;> omega]
  ·rw [if_neg (by simpa using c)]
   have e1:mE p (Po p k) = k:=by unfold mE Po; split <;> split <;> omega
   have e2:Po p (k + 1) = Po p k + 1:=by unfold Po; split <;> split <;> omega
   rw [e2,jZ,e1]
theorem a0e {p n:Nat} (h:p < n):(nL [p] n).map Nat.succ = yK p (n - 1):=by rw [Cz,Ng h,mM]; rfl
theorem Si {G:List Nat} {i:Nat}:((gnI G).any fun x=>decide (((i + 1:Nat):Int) = x)) = decide (i ∈ G):=by
 rw [Bool.eq_iff_iff]
 simp only [gnI,List.any_map,List.any_eq_true,Function.comp,decide_eq_true_eq]
 constructor
 ·rintro ⟨q, h1, h2⟩
  obtain rfl:i = q:=by omega
  exact h1
 ·intro h; exact ⟨i,h,by omega⟩
abbrev fC (Q:List Nat) (i:Nat):Nat:=Q.getD i 0
def nN (z:List Qi) (Q:List Nat):List Qi:=tab Q.length fun i=>gv z (fC Q i)
def tO (s:List (List Qi)) (Q:List Nat):List (List Qi):=tab Q.length fun i=>tab Q.length fun j=>gm s (fC Q i) (fC Q j)
theorem Ev {Q:List Nat} {n i:Nat} (h:∀ x,x ∈ Q → x < n) (hi:i < Q.length):fC Q i < n:=h _ (by rw [show fC Q i = Q[i] by simp [fC,List.getD,hi]]; exact List.getElem_mem hi)
theorem nU {Q:List Nat} {i:Nat} (h:i < Q.length):(Q.map Nat.succ)[i]? = some (fC Q i + 1):=by simp [fC,List.getD,h]
theorem Ab {m i:Nat} {p:Nat} (h:i < m):fC (tab m (mE p)) i = mE p i:=pO h
theorem Um (z:List Qi) (p m:Nat):nN z (tab m (mE p)) = Ny z p m:=by
 rw [nN,aO]; exact cP fun i hi=>by rw [Ab hi]
theorem Sr (s:List (List Qi)) (p m:Nat):tO s (tab m (mE p)) = a2P s p m:=by
 rw [tO,aO]; exact cP fun i hi=>cP fun j hj=>by rw [Ab hi,Ab hj]
theorem Wt {p m n : Nat} (hp : p < n) (hm : m = n - 1) : ∀ x, x ∈ tab m (mE p) → x < n := fun x hx => by
 obtain ⟨i,hi,rfl⟩:=jE.1 hx; exact Jm zo hp
theorem Yz (p m:Nat):(tab m (mE p)).map Nat.succ = yK p m:=by rw [mM]; rfl
end
section
open Go Go.RowKit
theorem yJ:Tryz.prog.info? 3 = some Tryz.t3:=by kernel_rfl
theorem Af:Tryz.prog.underlying 72 = some (.slice 3):=by kernel_rfl
end
section
open Go Go.RowKit
theorem Jy {l:List Int} {v:Int} (hl:l.length ≤ 1000000):bB Tryz.prog 192 [jT 1 (l.map (aE .i64)),aE .i64 v] (aE .i64 (Eb (fun x=>decide (v = x)) l)):=by
 refine bB.intro Tryz.func192 rfl Tryz.ntmps192 rfl (fun cx=>(ts (ro rfl (cQ (cJ 0)) (eZ (cK (ts (rm rfl (ro rfl (dK U_72 (Ht rfl) aA) (ro rfl (cX (cJ 0)) (eZ (eK ?_)))))))))))
 refine cM (fun (k : Nat) => k ≤ l.length ∧ ∀ (i : Nat) (x : Int), i < k → l[i]? = some x → decide (v = x) = false) (fun (k : Nat) => l.length - k) (fun (k : Nat) => [(0, jT 1 (l.map (aE .i64))), (1, aE .i64 v), (7, NT .i64 l.length), (8, NT .i64 k)]) (fun (k : Nat) => []) 0 ⟨Nat.zero_le _, fun i x h => by omega⟩
  (zS rfl) aY (fun k ⟨hk,hn⟩=>?_)
 refine ts (ro rfl (gV (Ht rfl) (Ht rfl)) (eZ (cK (dQ (Ht rfl) (fun hb=>?_) (fun hb=>?_)))))
 ·simp only [decide_eq_true_eq] at hb
  refine cU (cK (eK (ts (rm rfl (ra rfl (eZ (ts (rm rfl (rm rfl (rm rfl (ro rfl (dZ U_72 Z_3 (Ht rfl) (Ht rfl) rfl (eQ (qU hb))) (ro rfl (dV A_3 Z_3 (Ht rfl)) (ro rfl (iY (Ht rfl) (Ht rfl)) (eZ (dQ (Ht rfl) (fun hc=>?_) (fun hc=>?_))))))))))))))))
  ·refine ts (rm rfl (ra rfl (eZ (fK rfl (fJ (eY rfl) ?_)))))
   exact (aM (Ey (p:=fun x=>decide (v = x)) (qU hb) hc hn).symm)
  ·refine cU (bH (cY (ro rfl (dW (Ht rfl) (cJ 1) z6) (rm rfl (eZ ?_)))))
   refine gQ (k + 1) ⟨hb, fun i x h1 h2 => by
    by_cases e:i = k
    ·subst e; rw [qU hb] at h2; obtain rfl:=Option.some.inj h2; exact hc
    ·exact hn i x zo h2⟩ zo (zS rfl) aY
 ·simp only [decide_eq_false_iff_not] at hb
  refine gK rfl (ts (ro rfl (cQ cV) (eZ (fK rfl (fJ (eY rfl) ?_)))))
  exact (aM (vN (p:=fun x=>decide (v = x)) (fun i x h=>hn i x (by have:=(List.getElem?_eq_some_iff.1 h).1; omega) h)).symm)
theorem sZ {l:List Int} {v:Int} (hl:l.length ≤ 1000000):bB Tryz.prog 95 [jT 1 (l.map (aE .i64)),aE .i64 v] (aC (l.any fun x=>decide (v = x))):=by
 refine bB.intro Tryz.func95 rfl Tryz.ntmps95 rfl (fun cx=>(ts (ro rfl (cQ cV) (eZ (ts (rm rfl (rm rfl (ro rfl (cZ Tryz.call192 (Jy zo) ⟨(Ht rfl),(Ht rfl),trivial⟩) (ro rfl (lT (Ht rfl) cV) (ra rfl (eZ (fK rfl (fJ (eY rfl) ?_)))))))))))))
 exact (eN (yC _ l))
theorem Ee {z:List Qi} {s:List (List Qi)} {G:List Nat} (hl:z.length ≤ 1000) (hG:G.length ≤ 1000):bB Tryz.prog 121 [bR z s,jT 1 ((gnI G).map (aE .i64))] (gY ((nL G z.length).map Nat.succ)):=by
 refine bB.intro Tryz.func121 rfl Tryz.ntmps121 rfl (fun cx=>(ts (rn rfl (fU (Ht rfl)) fun B2=>(ro rfl (cQ cV) (eZ (ts (ro rfl (cQ cV) (eZ (cK (ts (ro rfl (cQ (cJ 1)) (eZ (eK (rA 3 1 ?_))))))))))))))
 refine fT (fun (i : Nat) (v : Value) => i ≤ z.length) (fun (i : Nat) (v : Value) => z.length - i) (fun (i : Nat) (v : Value) => [(1, jT 1 ((gnI G).map (aE .i64))), (2, bP B2 0), (5, Is v), (6, NT .i64 (i + 1))]) (fun (i : Nat) (v : Value) => [box B2 32 [bA z, dN s], bM 3 1 v (((nL G i).map Nat.succ).map (NT .i64))]) 0 (.slice none 0 0) (Nat.zero_le _)
  (zS rfl) (aU (aB rfl) (aU (aR rfl) aY)) (fun i v hi=>?_)
 refine cK (ts (rm rfl (ro rfl (eJ eO (Ht rfl) rfl) (ro rfl (fQ A_29 Z_29 (Ht rfl) (i:=0) rfl rfl) (ro rfl (dK U_29 (Ht rfl) aA) (ro rfl (uE (Ht rfl) (Ht rfl)) (eZ (dQ (Ht rfl) (fun hd=>?_) (fun hd=>?_)))))))))
 ·simp only [decide_eq_true_eq] at hd
  have hcl:=xS G i
  refine cU (cK (eK (jF (fun (v2:Value)=>True) (fun (v2:Value)=>[(1,jT 1 ((gnI G).map (aE .i64))),(2,bP B2 0),(5,Is v2),(6,NT .i64 (i + 1))]) (fun (v2:Value)=>[box B2 32 [bA z,dN s],bM 3 1 v2 (((nL G (i + 1)).map Nat.succ).map (NT .i64))]) ?_ (fun v2 _=>?_))))
  ·refine ts (rm rfl (rm rfl (ro rfl (cZ Tryz.call95 (sZ (l := gnI G) (v := ((i + 1 : Nat) : Int)) (by rw [List.length_map]; omega)) ⟨(Ht rfl), (Ht rfl), trivial⟩) ?_)))
   refine ro rfl (eE (Ht rfl)) (eZ (dQ (Ht rfl) (fun he=>?_) (fun he=>?_)))
   ·rw [Si] at he
    have he2:i ∉ G:=by simpa using he
    have hnx:nL G (i + 1) = nL G i ++ [i]:=by rw [nL,if_neg he2]
    refine cY (rm rfl (rm rfl (ro rfl (dH (xs:=[.tmp 19]) U_72 Z_3 O_3 (cW (Ht rfl) cG) rfl rfl rfl) (mX (inf:=Tryz.t3) Af yJ rfl rfl rfl (Ht rfl) (Ht rfl) (i:=1) rfl (by simp) (fun T hT=>by simp at hT; subst hT; exact El.one) (by show _ * 8 ≤ _; simp only [List.length_map,List.length_cons,List.length_nil]; omega) (by simp only [List.length_map,List.length_cons,List.length_nil]; omega) rfl (fun v3=>?_)))))
    refine ra rfl (eZ (aT v3 trivial (zS rfl) (aU (aB rfl) (aU (aR (by rw [hnx,List.map_append,List.map_append]; rfl)) aY))))
   ·rw [Si] at he
    have he2:i ∈ G:=by simpa using he
    have hnx:nL G (i + 1) = nL G i:=by rw [nL,if_pos he2,List.append_nil]
    refine cU (aT v trivial (zS rfl) (aU (aB rfl) (aU (aR (by rw [hnx])) aY)))
  ·refine bH (cY (rm rfl (ro rfl (dW (Ht rfl) (cJ 1) z6) (ra rfl (eZ (gQ (i + 1,v2) hd (by dsimp only; omega) (zS rfl) (dL.refl _)))))))
 ·simp only [decide_eq_false_iff_not] at hd
  obtain rfl:z.length = i:=Nat.le_antisymm zo hi
  refine gK rfl (gG (i:=1) (tt:=5) rfl rfl gD (ts (rm rfl (ra rfl (eZ ?_)))))
  exact fK rfl (eY rfl)
theorem a1a {z:List Qi} {s:List (List Qi)} {p:Nat} (hp:p < z.length) (hl:z.length ≤ 1000):bB Tryz.prog 121 [bR z s,jT 1 [aE .i64 ((p:Int) + 1)]] (gY (yK p (z.length - 1))):=by
 rw [← a0e hp]; exact Ee (G:=[p]) hl (by simp)
theorem Ml {z:List Qi} {s:List (List Qi)} {Q:List Nat} {m:Nat} (hs:eR s z.length z.length) (hQ:∀ x,x ∈ Q → x < z.length) (hm:Q.length = m) (hm2:m ≤ 1000) (hl:z.length ≤ 1000) {i j:Nat} (hi:i < m) (hj:j < m):bB Tryz.prog 206 [NT .i64 i,NT .i64 j,PT (bR z s),PT (gY (Q.map Nat.succ))] (aD (gm s (fC Q i) (fC Q j))):=by
 have hki:fC Q i < z.length:=Ev hQ zo
 have hkj:fC Q j < z.length:=Ev hQ zo
 have hsl:=hs.1
 have hsr:=hs.row hki
 refine bB.intro Tryz.func206 rfl Tryz.ntmps206 rfl (fun cx=>(ts (rn rfl (eG (Ts:=[Is (.bool false),Is (.slice none 0 0),Is (.bool false),Is (.slice none 0 0),Is (.slice none 0 0)]) O_51 rfl (fun V=>aW zd (aW zd (aW zd (aW zd (aW zd (aG))))))) fun B6=>(eZ (cK (fV (m:=14) (dp 2 rfl (jI dI (Ht rfl) rfl) (dq 7 0 rfl (dV A_30 Z_30 (Ht rfl)) (dp 3 rfl (dV A_72 Z_72 (Ht rfl)) (dp 0 rfl (cX (Ht rfl)) ?_))))))))))
 refine dS 9 2 10 3 rfl (dZ U_72 Z_3 (Ht rfl) (Ht rfl) rfl (eQ (nU zo))) (dq 11 4 rfl (dV A_3 Z_3 (Ht rfl)) (dq 12 5 rfl (aF.nat (dG (Ht rfl) (cJ 1) zo z6) (show fC Q i + 1 - 1 = fC Q i by omega)) (dS 8 1 13 6 rfl (dZ U_30 Z_29 (Ht rfl) (Ht rfl) rfl (eQ (dY (d:=[]) zo))) (dq 14 7 rfl (dV A_29 Z_29 (Ht rfl)) (dp 3 rfl (dV A_72 Z_72 (Ht rfl)) ?_)))))
 refine dp 1 rfl (cX (Ht rfl)) (dS 16 9 17 10 rfl (dZ U_72 Z_3 (Ht rfl) (Ht rfl) rfl (eQ (nU zo))) (dq 18 11 rfl (dV A_3 Z_3 (Ht rfl)) (dq 19 12 rfl (aF.nat (dG (Ht rfl) (cJ 1) zo z6) (show fC Q j + 1 - 1 = fC Q j by omega)) (fG bF rfl (by kernel_rfl) (zF (zF (zF (aJ (aJ (aV (ro rfl (dZ U_29 Z_51 (Ht rfl) (Ht rfl) rfl (eQ (dY (d:=Qi.zero) zo))) ?_)))))))))))
 refine ro rfl (dV A_51 Z_51 (Ht rfl)) (gJ Z_51 (Ht rfl) (Ht rfl) rfl (i:=0) rfl (aK rfl) rfl rfl (eZ ?_))
 exact fK rfl (fY A_51 Z_51 rfl (i:=0) rfl rfl)
theorem Ek {z:List Qi} {s:List (List Qi)} {Q:List Nat} {m:Nat} (hs:eR s z.length z.length) (hQ:∀ x,x ∈ Q → x < z.length) (hm:Q.length = m) (hm2:m ≤ 1000) (hl:z.length ≤ 1000):jG Tryz.prog 122 [bR z s,gY (Q.map Nat.succ)] [] (Nat) (fun B=>eD [bA (nN z Q),Is (.slice (some ⟨B,0,none⟩) m m)]) (fun B=>[nT B 29 51 5 (dM aD (tO s Q))]) (fun _=>True):=by
 have hll:(Q.map Nat.succ).length = m:=by rw [List.length_map]; exact hm
 refine jG.intro Tryz.func122 rfl Tryz.ntmps122 rfl (fun cx Z=>(ts (rn rfl (fU (Ht rfl)) fun B2=>(rn rfl (pV (Ht rfl)) fun B3=>(rn rfl (eG (Ts:=[Is (.slice none 0 0),Is (.slice none 0 0)]) O_32 rfl (fun V=>aW zd (aW zd (aG)))) fun B4=>(eZ (cK (gG (i:=1) (tt:=2) rfl rfl fR (gG (i:=2) (tt:=3) rfl rfl iB (cY (ro rfl (dV A_72 Z_72 (Ht rfl)) (ro rfl (dK U_72 (Ht rfl) (by rw [List.length_map,hll])) ?_))))))))))))
 refine rn rfl (gR (T:=aD Qi.zero) (i:=Tryz.t51) kC iV rfl rfl (Ht rfl) rfl gS (El.ag rfl) (by show 88 * _ ≤ _; omega) zo) fun B10=>ra rfl (eZ (cK (ts (ro rfl (dV A_72 Z_72 (Ht rfl)) (ro rfl (dK U_72 (Ht rfl) (by rw [List.length_map,hll])) ?_)))))
 refine ro rfl (cX (cJ 0)) (eZ (eK (bL [0,3,4] rfl (by decide) ?_)))
 refine cM (fun (i : Nat) => i ≤ m) (fun (i : Nat) => m - i) (fun (i : Nat) => [(2, PT (bR z s)), (3, PT (gY (Q.map Nat.succ))), (4, bP B4 0), (5, Is B10), (11, gY (Q.map Nat.succ)), (12, NT .i64 m), (13, NT .i64 i)]) (fun (i : Nat) => [Z, box B4 32 [Is (.slice none 0 0), Is (.slice none 0 0)], bM 51 5 B10 ((jR (fun i => gv z (fC Q i)) Qi.zero m i).map aD)]) 0 (Nat.zero_le _)
  (zS rfl) (aU (fun _ _ _ h=>h) (aU (fun _ _ _ h=>h) (aU (aR (by rw [← iI]; exact nO aD m)) aY))) (fun i hi=>?_)
 refine ts (ro rfl (gV (Ht rfl) (Ht rfl)) (eZ (cK (dQ (Ht rfl) (fun hd=>?_) (fun hd=>?_)))))
 ·simp only [decide_eq_true_eq] at hd
  have hki:fC Q i < z.length:=Ev hQ zo
  refine cU (cK (eK (ts (rm rfl (ro rfl (dZ U_72 Z_3 (Ht rfl) (Ht rfl) rfl (eQ (nU zo))) (ro rfl (dV A_3 Z_3 (Ht rfl)) (ra rfl (ra rfl (eZ (cY (rm rfl (rm rfl (ro rfl (jI eO (Ht rfl) rfl) (ro rfl (dV A_29 Z_29 (Ht rfl)) (rm rfl (ro rfl (aF.nat (dG (Ht rfl) (cJ 1) zo z6) (show fC Q i + 1 - 1 = fC Q i by omega)) (ro rfl (dZ U_29 Z_51 (Ht rfl) (Ht rfl) rfl (eQ (dY (d:=Qi.zero) hki))) ?_)))))))))))))))))
  refine ro rfl (dV A_51 Z_51 (Ht rfl)) (ro rfl (dE U_29 Z_51 (Ht rfl) (Ht rfl) rfl (i:=2) rfl (by rw [List.length_map,cO]; omega) rfl) ?_)
  refine kS Z_51 (Ht rfl) (Ht rfl) (El.ag rfl) (i:=2) rfl rfl (by rw [List.length_map,cO]; omega) rfl ?_
  refine eZ (bH (cY (ro rfl (dW (Ht rfl) (cJ 1) z6) (rm rfl (eZ (gQ (i + 1) hd zo (zS rfl) (aU (fun _ _ _ h=>h) (aU (fun _ _ _ h=>h) (aU (aR (by rw [fL,← jK (f:=(fun i=>gv z (fC Q i)))])) aY)))))))))
 ·simp only [decide_eq_false_iff_not] at hd
  obtain rfl:m = i:=Nat.le_antisymm zo hi
  rw [jJ]
  refine gK rfl (gG (i:=2) (tt:=5) rfl rfl gD ?_)
  rw [show nN z Q = tab m fun i=>gv z (fC Q i) from by rw [nN,hm],show tO s Q = tab m fun i=>tab m fun j=>gm s (fC Q i) (fC Q j) from by rw [tO,hm]]
  refine ts (rm rfl (ro rfl (dV A_72 Z_72 (Ht rfl)) (ro rfl (dK U_72 (Ht rfl) (by rw [List.length_map,hll])) ?_)))
  refine ro rfl (lS (γ:=Fin m × Fin m) (Ts:=fun x=>[NT .i64 x.1.1,NT .i64 x.2.1]) (U:=fun x=>aD (gm s (fC Q x.1.1) (fC Q x.2.1))) Tryz.call206 (fun x=>Ml hs hQ hm hm2 hl x.1.2 x.2.2) ⟨(Ht rfl),(Ht rfl),trivial⟩) (nP K_114 (Er (n:=m) (f:=fun i j=>gm s (fC Q i) (fC Q j)) zo) ⟨(Ht rfl),(Ht rfl),trivial⟩ rfl (fun B32 _=>(ro rfl (qL (Ht rfl) (Ht rfl)) (gJ Z_32 (Ht rfl) (Ht rfl) rfl (i:=1) rfl (aK rfl) rfl rfl (eZ ?_)))))
  exact lW B32 trivial [0,3] ⟨⟨_,rfl,fun _ _ _ h=>h⟩,⟨_,rfl,fun _ _ _ h=>h⟩,trivial⟩ (by decide) (yN rfl (fY A_32 Z_32 rfl (i:=1) rfl rfl))
theorem Wh {z:List Qi} {s:List (List Qi)} {p m:Nat} (hs:eR s z.length z.length) (hp:p < z.length) (hm:m = z.length - 1) (hl:z.length ≤ 1000):jG Tryz.prog 122 [bR z s,gY (yK p m)] [] Nat (fun B=>eD [bA (Ny z p m),Is (.slice (some ⟨B,0,none⟩) m m)]) (fun B=>[nT B 29 51 5 (dM aD (a2P s p m))]) (fun _=>True):=by
 have h:=Ek (Q:=tab m (mE p)) hs (Wt hp hm) (aO _ _) zo hl
 rw [Um,Sr,Yz] at h
 exact h
theorem sH {n:Int} (h1:-9223372036854775808 ≤ n) (h2:n ≤ 9223372036854775807):bB Tryz.prog 109 [aE .i64 n] (aD (Qi.ofInt n)):=by
 refine bB.intro Tryz.func109 rfl Tryz.ntmps109 rfl (fun cx=>(ts (rn rfl (eG (Ts:=[Is (.bool false),Is (.slice none 0 0),Is (.bool false),Is (.slice none 0 0),Is (.slice none 0 0)]) O_51 rfl (fun V=>aW zd (aW zd (aW zd (aW zd (aW zd (aG))))))) fun B2=>(eZ (ts (rn rfl (eG (Ts:=[Is (.bool false),Is (.slice none 0 0),Is (.bool false),Is (.slice none 0 0),Is (.slice none 0 0)]) O_51 rfl (fun V=>aW zd (aW zd (aW zd (aW zd (aW zd (aG))))))) fun B3=>?_))))))
 refine eZ (cK (fV (m:=4) (dp 3 rfl (eW A_51 Z_51 (Ht rfl) (i:=1) rfl rfl rfl) (dq 4 0 rfl (bD bN (Ht rfl)) (dp 0 rfl (cX (Ht rfl)) (dq 6 2 rfl (cZ Tryz.call77 (Kx (n:=n) h1 h2) ⟨(Ht rfl),trivial⟩) (fG bF rfl (by kernel_rfl) (zF (aV (ro rfl (aP tT Tryz.call302 Ui (Ht rfl) ⟨(Ht rfl),trivial⟩) (gJ Z_51 (Ht rfl) (Ht rfl) rfl (i:=0) rfl (aK rfl) rfl rfl (eZ ?_))))))))))))
 exact fK rfl (fY A_51 Z_51 rfl (i:=0) rfl rfl)
end
section
open Go Go.RowKit
theorem a1y {z:List Qi} {s:List (List Qi)} {port:Int} {g:Qi} {L:Nat} (hs:eR s z.length z.length) (hf:bT s L) (hg:aN g L) (hL:1 ≤ L) (hLb:L ≤ 1000000) (hl:z.length ≤ 1000):bB Tryz.prog 41 [bR z s,aE .i64 port,aD g] (dO [bR (zB z s port g) (zA z s port g),aE .i64 (qV z s port g)]):=by
 haveI:=hg
 have hsl:=hs.1
 refine bB.intro Tryz.func41 rfl Tryz.ntmps41 rfl (fun cx=>(ts (rn rfl (fU (Ht rfl)) fun B3=>(rn rfl (fU (Ht rfl)) fun B5=>(rn rfl (eG (Ts:=[Is (.slice none 0 0),Is (.slice none 0 0)]) O_32 rfl (fun V=>aW zd (aW zd (aG)))) fun B6=>(ro rfl (cQ (cJ 0)) (eZ (cK (eK (ts (ro rfl (eW A_32 Z_32 (Ht rfl) (i:=0) rfl rfl rfl) (rm rfl (ro rfl (cZ K_106 Ca ⟨(Ht rfl),(Ht rfl),trivial⟩) (ro rfl (eE (Ht rfl)) (ra rfl (eZ (dQ (Ht rfl) (fun hb=>?_) (fun hb=>?_))))))))))))))))))
 ·have he : qV z s port g = 1 := a1I (by simpa only [Bool.not_eq_true', decide_eq_false_iff_not] using hb)
  refine ts (ro rfl (aF.imp (iU ) iS) (gJ Z_32 (Ht rfl) (Ht rfl) rfl (i:=2) rfl (aK rfl) rfl rfl (ro rfl (cQ (cJ 1)) (eZ (bI rfl (fJ (fY A_32 Z_32 rfl (i:=2) rfl rfl) ?_) (fJ (eY rfl) ?_))))))
  ·exact (Cw he (by decide))
  ·exact (aM he.symm)
 ·have hb2 : 1 ≤ port ∧ port ≤ (z.length : Int) := by simpa using hb
  obtain ⟨p,rfl⟩:∃ p:Nat,port = (p:Int) + 1:=⟨(port - 1).toNat,by omega⟩
  have hp:p < z.length:=by omega
  refine ts (ro rfl (eJ eO (Ht rfl) rfl) (ro rfl (fQ A_29 Z_29 (Ht rfl) (i:=0) rfl rfl) (ro rfl (dK U_29 (Ht rfl) aA) (ro rfl (cB (Ht rfl) (cJ 1)) (ra rfl (eZ (dQ (Ht rfl) (fun hc=>?_) (fun hc=>?_))))))))
  ·have he : qV z s ((p : Int) + 1) g = 4 := a0Y hb2 (by simpa using hc)
   refine ts (ro rfl (aF.imp (iU ) iS) (gJ Z_32 (Ht rfl) (Ht rfl) rfl (i:=2) rfl (aK rfl) rfl rfl (ro rfl (cQ (cJ 4)) (eZ (bI rfl (fJ (fY A_32 Z_32 rfl (i:=2) rfl rfl) ?_) (fJ (eY rfl) ?_))))))
   ·exact (Cw he (by decide))
   ·exact (aM he.symm)
  ·have hn1 : ¬ z.length = 1 := by simpa using hc
   have htd:=a11 (s:=s) (g:=g) hp hn1
   obtain ⟨m,hm⟩:∃ m,m = z.length - 1:=⟨_,rfl⟩
   have hspl:=hs.row hp
   haveI f0:aN (Qi.ofInt 1) 1:=nK
   haveI f1:aN (gm s p p) L:=hf.get hL p p
   refine cU (bH (ts (rm rfl (ro rfl (gM (Ht rfl) cV (r:=((p:Nat):Int)) ((tD (z:=(p:Int) + 1 - 1) zo).trans zo)) ?_))))
   refine ra rfl (eZ (cK (Y.D_start (m:=22) [] (bY (Ei:=[(5,_)]) rfl rfl (bQ (bJ rfl rfl) bX) rfl rfl (dX rfl (eW A_51 Z_51 (Ht rfl) (i:=1) rfl rfl rfl)) (bY (Ei:=[(32,_)]) rfl rfl (bQ (bZ 0 rfl rfl) bX) rfl rfl (dX rfl (bD bN (Ht rfl))) (bY (Ei:=[]) rfl rfl bX rfl rfl (dX rfl (cZ K_109 (sH (n:=1) (by decide) (by decide)) ⟨(cJ 1),trivial⟩)) (bY (Ei:=[(34,_)]) rfl rfl (bQ (bZ 2 rfl rfl) bX) rfl rfl (dX rfl (bD bN (Ht rfl))) ?_)))))))
   refine bY (Ei:=[(3,_)]) rfl rfl (bQ (bJ rfl rfl) bX) rfl rfl (dX rfl (eJ dI (Ht rfl) rfl)) (bY (Ei:=[(36,_)]) rfl rfl (bQ (bZ 4 rfl rfl) bX) rfl rfl (dX rfl (fQ A_30 Z_30 (Ht rfl) (i:=0) rfl rfl)) (bY (Ei:=[(8,_)]) rfl rfl (bQ (bJ rfl rfl) bX) rfl rfl (dX rfl (cX (Ht rfl))) (bY (Ei:=[(37,_),(38,_)]) rfl rfl (bQ (bZ 5 rfl rfl) (bQ (bZ 6 rfl rfl) bX)) rfl rfl (dX rfl (dZ U_30 Z_29 (Ht rfl) (Ht rfl) rfl (eQ (dY (d:=[]) zo)))) ?_)))
   refine bY (Ei:=[(39,_)]) rfl rfl (bQ (bZ 7 rfl rfl) bX) rfl rfl (dX rfl (dV A_29 Z_29 (Ht rfl))) (bY (Ei:=[(8,_)]) rfl rfl (bQ (bJ rfl rfl) bX) rfl rfl (dX rfl (cX (Ht rfl))) (bY (Ei:=[(40,_),(41,_)]) rfl rfl (bQ (bZ 8 rfl rfl) (bQ (bZ 9 rfl rfl) bX)) rfl rfl (dX rfl (dZ U_29 Z_51 (Ht rfl) (Ht rfl) rfl (eQ (dY (d:=Qi.zero) zo)))) (bY (Ei:=[(42,_)]) rfl rfl (bQ (bZ 10 rfl rfl) bX) rfl rfl (dX rfl (dV A_51 Z_51 (Ht rfl))) ?_)))
   refine bY (Ei:=[(43,_)]) rfl rfl (bQ (bZ 11 rfl rfl) bX) rfl rfl (dX rfl (bD bN (Ht rfl))) (bY (Ei:=[(5,_)]) rfl rfl (bQ (bJ rfl rfl) bX) rfl rfl (dX rfl (eW A_51 Z_51 (Ht rfl) (i:=1) rfl rfl rfl)) (bY (Ei:=[(44,_),(45,_)]) rfl rfl (bQ (bZ 12 rfl rfl) (bQ (bZ 13 rfl rfl) bX)) rfl rfl (dX rfl (aP cI K_45 (kU (x:=gm s p p) (y:=g) (L:=L) (M:=L) zo) (Ht rfl) ⟨(Ht rfl),trivial⟩)) (bY (Ei:=[(35,_),(46,_)]) rfl rfl (bQ (bZ 3 rfl rfl) (bQ (bZ 14 rfl rfl) bX)) rfl rfl (dX rfl (aP jB K_44 (uZ (x:=Qi.ofInt 1) (y:=gm s p p * g) (L:=1) (M:=L + L + 1) (hx:=f0) zo) (Ht rfl) ⟨(Ht rfl),trivial⟩)) ?_)))
   refine bY (Ei:=[(33,_),(47,_)]) rfl rfl (bQ (bZ 1 rfl rfl) (bQ (bZ 15 rfl rfl) bX)) rfl rfl (dX rfl (aP jS K_40 (wV (x:=g) (y:=Qi.ofInt 1 - gm s p p * g) (L:=L) (M:=1 + (L + L + 1) + 1) (hy:=@fitSub _ _ _ _ f0 inferInstance) zo) (Ht rfl) ⟨(Ht rfl),trivial⟩)) (bY (Ei:=[(48,_)]) rfl rfl (bQ (bZ 16 rfl rfl) bX) rfl rfl (dX rfl (cX (Ht rfl))) (bY (Ei:=[(31,_)]) rfl rfl (bQ (bZ 17 rfl rfl) bX) rfl rfl (dX rfl (dU (Ht rfl) rfl)) ?_))
   refine bY (Ei:=[(31,_)]) rfl rfl (bQ (bZ 17 rfl rfl) bX) rfl rfl (dX rfl (dU (Ht rfl) rfl)) (Y.D_newp (Ei:=[]) (fun bb=>box bb 51 [aC (decide ((lM s p g).a < 0)),aH (lM s p g).a.natAbs,aC (decide ((lM s p g).b < 0)),aH (lM s p g).b.natAbs,aH (du (lM s p g))]) 21 rfl rfl rfl bX rfl rfl (by kernel_rfl) (eG (Ts:=[Is (.bool false),Is (.slice none 0 0),Is (.bool false),Is (.slice none 0 0),Is (.slice none 0 0)]) O_51 rfl (fun V=>aW zd (aW zd (aW zd (aW zd (aW zd (aG))))))) ?_)
   refine Y.D_putN (Ei:=[(49,_)]) 20 rfl rfl rfl rfl rfl rfl (bQ (bZ 18 rfl rfl) bX) (fun bb=>lP Z_51 (Ht rfl) (Ht rfl) rfl (i:=0) rfl (aK rfl) rfl rfl) (Y.D_done bF rfl (by kernel_rfl) rfl (by simp [Y.okP]) rfl rfl (bU (bU (bU (bU (bU (bU (bU (bU (bU (bU (bU (bU (bU (bU (bU (bU (bU (bU (bU (bU (Y.F_newp (fun B9=>Y.F_putN (Y.F_nil ?_))))))))))))))))))))))))
   refine ra rfl (eZ (cK (ts (rm rfl (ro rfl (fB (Ht rfl) cV) (eZ (dQ (Ht rfl) (fun he=>?_) (fun he=>?_))))))))
   ·have hz : Qi.ofInt 1 - gm s p p * g = Qi.zero := by simp at he; exact he
    have he:qV z s ((p:Int) + 1) g = 6:=by rw [htd,if_pos hz]
    refine ts (ro rfl (aF.imp (iU ) iS) (gJ Z_32 (Ht rfl) (Ht rfl) rfl (i:=2) rfl (aK rfl) rfl rfl (ro rfl (cQ (cJ 6)) (eZ (bI rfl (fJ (fY A_32 Z_32 rfl (i:=2) rfl rfl) ?_) (fJ (eY rfl) ?_))))))
    ·exact (Cw he (by decide))
    ·exact (aM he.symm)
   ·have hz : Qi.ofInt 1 - gm s p p * g ≠ Qi.zero := by simp at he; exact he
    have he:qV z s ((p:Int) + 1) g = 0:=by rw [htd,if_neg hz]
    haveI ff:aN (lM s p g) (7 * L + 11):=Tu hf hg hL hz
    have hll:(yK p m).length = m:=aO _ _
    refine cU (ts (ro rfl (eW A_32 Z_32 (Ht rfl) (i:=0) rfl rfl rfl) (rm rfl (ro rfl (dH (xs:=[.tmp 55]) U_72 Z_3 O_3 (cW (Ht rfl) cG) rfl rfl rfl) (ro rfl (cZ Tryz.call121 (eX (a1a (z:=z) (s:=s) (p:=p) hp hl) (kB (by rw [← hm]))) ⟨(Ht rfl),(Ht rfl),trivial⟩) ?_)))))
    refine ra rfl (eZ (ts (ro rfl (eW A_32 Z_32 (Ht rfl) (i:=0) rfl rfl rfl) (rm rfl (nP Tryz.call122 (Wh (p:=p) (m:=m) hs hp hm hl) ⟨(Ht rfl),(Ht rfl),trivial⟩ rfl (fun B60 _=>(rn rfl (eG (Ts:=[Is (.slice none 0 0),Is (.slice none 0 0)]) O_32 rfl (fun V=>aW zd (aW zd (aG)))) fun B12=>(gJ Z_32 (Ht rfl) (Ht rfl) rfl (i:=5) rfl (aK rfl) rfl rfl (eZ (cK (ts (rm rfl (ro rfl (dK U_72 (Ht rfl) (by rw [List.length_map,hll])) ?_)))))))))))))
    refine ro rfl (cX (cJ 0)) (eZ (eK (bL [0,2,3,4,5] rfl (by decide) ?_)))
    refine cM (fun (i : Nat) => i ≤ m) (fun (i : Nat) => m - i) (fun (i : Nat) => [(3, bP B3 0), (6, bP B6 0), (8, NT .i64 p), (9, bP B9 0), (11, gY (yK p m)), (12, bP B12 0), (61, gY (yK p m)), (62, NT .i64 m), (63, NT .i64 i)]) (fun (i : Nat) => [box B3 32 [bA z, dN s], box B6 32 [Is (.slice none 0 0), Is (.slice none 0 0)], box B9 51 [aC (decide ((lM s p g).a < 0)), aH (lM s p g).a.natAbs, aC (decide ((lM s p g).b < 0)), aH (lM s p g).b.natAbs, aH (du (lM s p g))], nT B60 29 51 5 (dM aD (mR (fun i => tab m fun j => Jv s p (lM s p g) i j) (fun i => tab m fun j => gm s (mE p i) (mE p j)) m i)), box B12 32 [bA (Ny z p m), Is (.slice (some ⟨B60, 0, none⟩) m m)]]) 0 (Nat.zero_le _)
     (zS rfl) (aU (fun _ _ _ h=>h) (aU (fun _ _ _ h=>h) (aU (aB rfl) (aU (eT (by rw [← sI]; rfl)) (aU (aB rfl) aY))))) (fun i hi=>?_)
    refine ts (ro rfl (gV (Ht rfl) (Ht rfl)) (eZ (cK (dQ (Ht rfl) (fun hd=>?_) (fun hd=>?_)))))
    ·simp only [decide_eq_true_eq] at hd
     have hki:mE p i < z.length:=Jm zo hp
     have hsr:=hs.row hki
     refine oR 3 (i) rfl (Cd hd) (fun v=>(cU (cK (eK (ts (rm rfl (ro rfl (dZ U_72 Z_3 (Ht rfl) (Ht rfl) rfl (eQ (Lo hd))) (ro rfl (dV A_3 Z_3 (Ht rfl)) (ra rfl (ra rfl (eZ (ts (rm rfl (ro rfl (dK U_72 (Ht rfl) (by rw [List.length_map,hll])) ?_))))))))))))))
     refine ro rfl (cX (cJ 0)) (eZ (eK ?_))
     refine cM (fun (j : Nat) => j ≤ m) (fun (j : Nat) => m - j) (fun (j : Nat) => [(3, bP B3 0), (6, bP B6 0), (8, NT .i64 p), (9, bP B9 0), (11, gY (yK p m)), (12, bP B12 0), (13, NT .i64 i), (14, NT .i64 (mE p i + 1)), (61, gY (yK p m)), (62, NT .i64 m), (63, NT .i64 i), (68, gY (yK p m)), (69, NT .i64 m), (70, NT .i64 j)]) (fun (j : Nat) => [box B3 32 [bA z, dN s], box B6 32 [Is (.slice none 0 0), Is (.slice none 0 0)], box B9 51 [aC (decide ((lM s p g).a < 0)), aH (lM s p g).a.natAbs, aC (decide ((lM s p g).b < 0)), aH (lM s p g).b.natAbs, aH (du (lM s p g))], Hj B60 29 51 5 (dM aD (mR (fun i => tab m fun j => Jv s p (lM s p g) i j) (fun i => tab m fun j => gm s (mE p i) (mE p j)) m i)) i v, box B12 32 [bA (Ny z p m), Is (.slice (some ⟨B60, 0, none⟩) m m)], bM 51 5 v ((mR (fun j => Jv s p (lM s p g) i j) (fun j => gm s (mE p i) (mE p j)) m j).map aD)]) 0 (Nat.zero_le _)
      (zS rfl) (aU (fun _ _ _ h=>h) (aU (fun _ _ _ h=>h) (aU (fun _ _ _ h=>h) (aU (fun _ _ _ h=>h) (aU (fun _ _ _ h=>h) (aU (aR (by rw [← sI])) aY)))))) (fun j hj=>?_)
     refine ts (ro rfl (gV (Ht rfl) (Ht rfl)) (eZ (cK (dQ (Ht rfl) (fun hf2=>?_) (fun hf2=>?_)))))
     ·simp only [decide_eq_true_eq] at hf2
      have hkj:mE p j < z.length:=Jm zo hp
      have hrl:=oL (fun j=>Jv s p (lM s p g) i j) (fun j=>gm s (mE p i) (mE p j)) m j
      haveI g1:aN (gm s (mE p i) (mE p j)) L:=hf.get hL _ _
      haveI g2:aN (gm s (mE p i) p) L:=hf.get hL _ _
      haveI g3:aN (gm s p (mE p j)) L:=hf.get hL _ _
      refine cU (cK (eK (ts (rm rfl (ro rfl (dZ U_72 Z_3 (Ht rfl) (Ht rfl) rfl (eQ (Lo hf2))) (ro rfl (dV A_3 Z_3 (Ht rfl)) (ra rfl (ra rfl (eZ (fV (m:=39) (dp 12 rfl (eJ dI (Ht rfl) rfl) (dq 75 0 rfl (fQ A_30 Z_30 (Ht rfl) (i:=4) rfl rfl) (dp 13 rfl (cX (Ht rfl)) (dS 76 1 77 2 rfl (gX U_30 Z_29 (Ht rfl) (Ht rfl) rfl zo (by rw [Nat.mul_one,Nat.zero_add])) ?_))))))))))))))
      refine dq 78 3 rfl (mL A_29 Z_29 (Ht rfl) (j:=3) rfl) (dp 15 rfl (cX (Ht rfl)) (dp 12 rfl (eJ dI (Ht rfl) rfl) (dq 81 6 rfl (fQ A_30 Z_30 (Ht rfl) (i:=4) rfl rfl) (dp 13 rfl (cX (Ht rfl)) (dS 82 7 83 8 rfl (gX U_30 Z_29 (Ht rfl) (Ht rfl) rfl zo (by rw [Nat.mul_one,Nat.zero_add])) ?_)))))
      refine dq 84 9 rfl (mL A_29 Z_29 (Ht rfl) (j:=3) rfl) (dp 15 rfl (cX (Ht rfl)) (dS 85 10 86 11 rfl (dE U_29 Z_51 (Ht rfl) (Ht rfl) rfl (i:=5) rfl (by simp only [List.length_map,hrl]; omega) rfl) ?_))
      refine dq 87 12 rfl (tH A_51 Z_51 (Ht rfl) (i:=5) rfl rfl (eQ (yZ hf2))) (dq 88 13 rfl (bD bN (Ht rfl)) (dp 3 rfl (eJ dI (Ht rfl) rfl) (dq 90 15 rfl (fQ A_30 Z_30 (Ht rfl) (i:=0) rfl rfl) (dp 14 rfl (cX (Ht rfl)) (dq 92 17 rfl (aF.nat (dG (Ht rfl) (cJ 1) zo z6) (show mE p i + 1 - 1 = mE p i by omega)) (dS 91 16 93 18 rfl (dZ U_30 Z_29 (Ht rfl) (Ht rfl) rfl (eQ (dY (d:=[]) zo))) ?_))))))
      refine dq 94 19 rfl (dV A_29 Z_29 (Ht rfl)) (dp 8 rfl (cX (Ht rfl)) (dS 95 20 96 21 rfl (dZ U_29 Z_51 (Ht rfl) (Ht rfl) rfl (eQ (dY (d:=Qi.zero) zo))) (dq 97 22 rfl (dV A_51 Z_51 (Ht rfl)) (dq 98 23 rfl (bD bN (Ht rfl)) (dp 9 rfl (eW A_51 Z_51 (Ht rfl) (i:=2) rfl rfl rfl) (dq 100 25 rfl (bD bN (Ht rfl)) (dp 3 rfl (eJ dI (Ht rfl) rfl) (dq 102 27 rfl (fQ A_30 Z_30 (Ht rfl) (i:=0) rfl rfl) (dp 8 rfl (cX (Ht rfl)) ?_)))))))))
      refine dS 103 28 104 29 rfl (dZ U_30 Z_29 (Ht rfl) (Ht rfl) rfl (eQ (dY (d:=[]) zo))) (dq 105 30 rfl (dV A_29 Z_29 (Ht rfl)) (dp 16 rfl (cX (Ht rfl)) (dq 107 32 rfl (aF.nat (dG (Ht rfl) (cJ 1) zo z6) (show mE p j + 1 - 1 = mE p j by omega)) (dS 106 31 108 33 rfl (dZ U_29 Z_51 (Ht rfl) (Ht rfl) rfl (eQ (dY (d:=Qi.zero) zo))) (dq 109 34 rfl (dV A_51 Z_51 (Ht rfl)) ?_)))))
      refine dS 101 26 110 35 rfl (aP cI K_45 (kU (x:=lM s p g) (y:=gm s p (mE p j)) (L:=7 * L + 11) (M:=L) zo) (Ht rfl) ⟨(Ht rfl),trivial⟩) (dS 99 24 111 36 rfl (aP cI K_45 (kU (x:=gm s (mE p i) p) (y:=lM s p g * gm s p (mE p j)) (L:=L) (M:=7 * L + 11 + L + 1) zo) (Ht rfl) ⟨(Ht rfl),trivial⟩) (dS 89 14 112 37 rfl (aP lG K_46 (yG (x:=gm s (mE p i) (mE p j)) (y:=gm s (mE p i) p * (lM s p g * gm s p (mE p j))) (L:=L) (M:=L + (7 * L + 11 + L + 1) + 1) zo) (Ht rfl) ⟨(Ht rfl),trivial⟩) ?_))
      refine fG bF rfl (by kernel_rfl) (zF (zF (zF (zF (zF (zF (zF (zF (zF (aJ (aJ (aJ (aV (ro rfl (dE U_29 Z_51 (Ht rfl) (Ht rfl) rfl (i:=5) rfl (by simp only [List.length_map,hrl]; omega) rfl) ?_))))))))))))))
      refine kS Z_51 (Ht rfl) (Ht rfl) (El.ag rfl) (i:=5) rfl rfl (by simp only [List.length_map,hrl]; omega) rfl ?_
      refine eZ (bH (cY (ro rfl (dW (Ht rfl) (cJ 1) z6) (rm rfl (eZ (gQ (j + 1) hf2 zo (zS rfl) (aU (fun _ _ _ h=>h) (aU (fun _ _ _ h=>h) (aU (fun _ _ _ h=>h) (aU (fun _ _ _ h=>h) (aU (fun _ _ _ h=>h) (aU (aR (by rw [fL,← uO (f:=fun j=>Jv s p (lM s p g) i j)]; rfl)) aY))))))))))))
     ·simp only [decide_eq_false_iff_not] at hf2
      obtain rfl:m = j:=Nat.le_antisymm zo hj
      refine gK rfl (bH (kR 3 5 rfl rfl (by decide) (by simp only [dM,List.length_map,oL]; omega) ?_))
      refine cY (ro rfl (dW (Ht rfl) (cJ 1) z6) (rm rfl (eZ (bL [0,1,2,3,4] rfl (by decide) (gQ (i + 1) hd zo (zS rfl) (aU (fun _ _ _ h=>h) (aU (fun _ _ _ h=>h) (aU (fun _ _ _ h=>h) (aU (eT (by rw [kY,uW,← uO (f:=(fun i=>tab m fun j=>Jv s p (lM s p g) i j))])) (aU (fun _ _ _ h=>h) aY))))))))))
    ·simp only [decide_eq_false_iff_not] at hd
     obtain rfl:m = i:=Nat.le_antisymm zo hi
     rw [uW]
     refine gK rfl (cK (tG 4 3 1 rfl rfl rfl (by decide) (a29 (q:=fun _=>True) (M:=a23 s p m (lM s p g)) (aO _ _).symm) ?_))
     subst hm
     refine cY (ro rfl (eW A_32 Z_32 (Ht rfl) (i:=4) rfl rfl rfl) (gJ Z_32 (Ht rfl) (Ht rfl) rfl (i:=1) rfl (aK rfl) rfl rfl (ro rfl (cQ (cJ 0)) (eZ (bI rfl (fJ (fY A_32 Z_32 rfl (i:=1) rfl rfl) ?_) (fJ (eY rfl) ?_))))))
     ·exact (Va he)
     ·exact (aM he.symm)
end
section
open Go Go.RowKit
def zK:List Qi:=[r50,r50].map Rt.q
def Br:List (List Qi):=rq [[wX,wX],[wX,wX]]
def Dw:List Qi:=zB zK Br 2 (Qi.ofInt 1)
def Nt:List (List Qi):=zA zK Br 2 (Qi.ofInt 1)
theorem Ru:cD zK Br = 0:=by decide +kernel
theorem Qf:eR Br zK.length zK.length:=(mK Ru).2.2.1
theorem a0S:qV zK Br 2 (Qi.ofInt 1) = 0:=by decide +kernel
theorem Sx:Dw.length = 1:=by decide +kernel
theorem a0u:Nt = [[Qi.ofInt 1]]:=by decide +kernel
theorem a1W:Ir (pmM true (Pq zK.length) Br zK.length) zK.length ≠ 0:=by decide +kernel
theorem a2g:cC zK 2:=cC.rt
theorem a0B:bT Br 2:=bT.rt
theorem a0s:aN (Qi.ofInt 1) 2:=nK.le (by decide)
theorem a1L:∀ v V,(dO [bR (iH (cD zK Br) zK) (iH (cD zK Br) Br),aE .i64 (cD zK Br)]).p v V → (dO [bR zK Br,aE .i64 0]).p v V:=by rw [Ru]; exact fun _ _ h=>h
theorem a1X:∀ v V,(dO [bR (zB zK Br ((2:Nat):Int) (Qi.ofInt 1)) (zA zK Br ((2:Nat):Int) (Qi.ofInt 1)),aE .i64 (qV zK Br ((2:Nat):Int) (Qi.ofInt 1))]).p v V → (dO [bR Dw Nt,aE .i64 0]).p v V:=by
 rw [show qV zK Br ((2:Nat):Int) (Qi.ofInt 1) = 0 from a0S]; exact fun _ _ h=>h
theorem a0N:eR Nt Dw.length Dw.length:=by rw [Sx,a0u]; exact ⟨rfl,by simp⟩
theorem a32:∀ v V,(dO [aD (On Dw.length Nt ((1:Nat):Int) ((1:Nat):Int)),aE .i64 (if (1 ≤ ((1:Nat):Int) ∧ ((1:Nat):Int) ≤ Dw.length) ∧ 1 ≤ ((1:Nat):Int) ∧ ((1:Nat):Int) ≤ Dw.length then 0 else 1)]).p v V → (dO [aD (Qi.ofInt 1),aE .i64 0]).p v V:=by
 rw [Sx,a0u,if_pos (by decide)]
 rw [show On 1 [[Qi.ofInt 1]] ((1:Nat):Int) ((1:Nat):Int) = Qi.ofInt 1 from rfl]
 exact fun _ _ h=>h
theorem a3d:Ps (Qi.ofInt 1) = [49]:=by decide +kernel
end
section
open Go Go.RowKit
theorem Hl  : bB Tryz.prog 32 [] (aC true):=by
 refine bB.intro Tryz.func32 rfl Tryz.ntmps32 rfl (fun cx=>(ts (ro rfl (cQ cV) (eZ (ts (ro rfl (xC cV cV) (rn rfl (eG (Ts:=[Is (.int .i64 0),Is (.int .i64 0),Is (.int .i64 0)]) O_102 rfl (fun V=>aW zd (aW zd (aW zd (aG))))) fun B1=>(gJ Z_102 (Ht rfl) (Ht rfl) rfl (i:=0) rfl (aK rfl) rfl rfl (eZ (cK (Y.D_start (m:=18) [] (bY (Ei:=[]) rfl rfl bX rfl rfl (dX rfl (By cV)) (bY (Ei:=[]) rfl rfl bX rfl rfl (dX rfl (By cV)) ?_)))))))))))))
 refine bY (Ei:=[(12,_),(13,_)]) rfl rfl (bQ (bZ 0 rfl rfl) (bQ (bZ 1 rfl rfl) bX)) rfl rfl (dX rfl (dH (xs:=[.tmp 12,.tmp 13]) U_22 Z_102 O_102 (cW (Ht rfl) (cW (Ht rfl) cG)) rfl rfl rfl)) (bY (Ei:=[(14,_)]) rfl rfl (bQ (bZ 2 rfl rfl) bX) rfl rfl (dX rfl (cZ Tryz.call48 (wF (l:=[r50,r50]) (by decide)) ⟨(Ht rfl),trivial⟩)) (bY (Ei:=[(1,_)]) rfl rfl (bQ (bJ rfl rfl) bX) rfl rfl (dX rfl (eW A_102 Z_102 (Ht rfl) (i:=0) rfl rfl rfl)) ?_))
 refine bY (Ei:=[(1,_)]) rfl rfl (bQ (bJ rfl rfl) bX) rfl rfl (dX rfl (eW A_102 Z_102 (Ht rfl) (i:=0) rfl rfl rfl)) (bY (Ei:=[(16,_),(17,_)]) rfl rfl (bQ (bZ 4 rfl rfl) (bQ (bZ 5 rfl rfl) bX)) rfl rfl (dX rfl (dH (xs:=[.tmp 16,.tmp 17]) U_22 Z_102 O_102 (cW (Ht rfl) (cW (Ht rfl) cG)) rfl rfl rfl)) (bY (Ei:=[(1,_)]) rfl rfl (bQ (bJ rfl rfl) bX) rfl rfl (dX rfl (eW A_102 Z_102 (Ht rfl) (i:=0) rfl rfl rfl)) ?_))
 refine bY (Ei:=[(1,_)]) rfl rfl (bQ (bJ rfl rfl) bX) rfl rfl (dX rfl (eW A_102 Z_102 (Ht rfl) (i:=0) rfl rfl rfl)) (bY (Ei:=[(19,_),(20,_)]) rfl rfl (bQ (bZ 7 rfl rfl) (bQ (bZ 8 rfl rfl) bX)) rfl rfl (dX rfl (dH (xs:=[.tmp 19,.tmp 20]) U_22 Z_102 O_102 (cW (Ht rfl) (cW (Ht rfl) cG)) rfl rfl rfl)) (bY (Ei:=[(18,_),(21,_)]) rfl rfl (bQ (bZ 6 rfl rfl) (bQ (bZ 9 rfl rfl) bX)) rfl rfl (dX rfl (dH (xs:=[.tmp 18,.tmp 21]) U_23 Z_22 Tryz.zeroValue22 (cW (Ht rfl) (cW (Ht rfl) cG)) rfl rfl rfl)) ?_))
 refine bY (Ei:=[(22,_)]) rfl rfl (bQ (bZ 10 rfl rfl) bX) rfl rfl (dX rfl (cZ Tryz.call86 (Bn (m:=[[wX,wX],[wX,wX]]) (by decide) (by intro r hr; simp at hr; subst hr; decide)) ⟨(Ht rfl),trivial⟩)) ?_
 refine bY (Ei:=[(15,_),(23,_)]) rfl rfl (bQ (bZ 3 rfl rfl) (bQ (bZ 11 rfl rfl) bX)) rfl rfl (dX rfl (cZ Tryz.call85 (eX (uF (z:=zK) (s:=Br) (L:=2) a2g (by decide) (by decide) (by decide)) a1L) ⟨(Ht rfl),(Ht rfl),trivial⟩)) (bY (Ei:=[(24,_)]) rfl rfl (bQ (bZ 12 rfl rfl) bX) rfl rfl (dX rfl (cX (Ht rfl))) (bY (Ei:=[(11,_)]) rfl rfl (bQ (bZ 13 rfl rfl) bX) rfl rfl (dX rfl (dU (Ht rfl) rfl)) (bY (Ei:=[(11,_)]) rfl rfl (bQ (bZ 13 rfl rfl) bX) rfl rfl (dX rfl (dU (Ht rfl) rfl)) ?_)))
 refine Y.D_newp (Ei:=[]) (fun bb=>box bb 32 [bA zK,dN Br]) 17 rfl rfl rfl bX rfl rfl (by kernel_rfl) (eG (Ts:=[Is (.slice none 0 0),Is (.slice none 0 0)]) O_32 rfl (fun V=>aW zd (aW zd (aG)))) (Y.D_putN (Ei:=[(25,_)]) 16 rfl rfl rfl rfl rfl rfl (bQ (bZ 14 rfl rfl) bX) (fun bb=>lP Z_32 (Ht rfl) (Ht rfl) rfl (i:=0) rfl (aK rfl) rfl rfl) (Y.D_done bF rfl (by kernel_rfl) rfl (by simp [Y.okP]) rfl rfl (bU (bU (bU (bU (bU (bU (bU (bU (bU (bU (bU (bU (bU (bU (bU (bU (Y.F_newp (fun B2=>Y.F_putN (Y.F_nil ?_)))))))))))))))))))))
 refine ra rfl (eZ (cK (Y.D_start (m:=8) [] (bY (Ei:=[(2,_)]) rfl rfl (bQ (bJ rfl rfl) bX) rfl rfl (dX rfl (eW A_32 Z_32 (Ht rfl) (i:=1) rfl rfl rfl)) (bY (Ei:=[]) rfl rfl bX rfl rfl (dX rfl (cZ Tryz.call77 (Kx (n:=1) (by decide) (by decide)) ⟨(cJ 1),trivial⟩)) (bY (Ei:=[(28,_),(29,_)]) rfl rfl (bQ (bZ 0 rfl rfl) (bQ (bZ 1 rfl rfl) bX)) rfl rfl (dX rfl (cZ Tryz.call41 (eX (a1y (z:=zK) (s:=Br) (port:=((2:Nat):Int)) (g:=Qi.ofInt 1) (L:=2) Qf a0B a0s (by decide) (by decide) (by decide)) a1X) ⟨(Ht rfl),(cJ 2),(Ht rfl),trivial⟩)) ?_))))))
 refine bY (Ei:=[(30,_)]) rfl rfl (bQ (bZ 2 rfl rfl) bX) rfl rfl (dX rfl (cX (Ht rfl))) (bY (Ei:=[(27,_)]) rfl rfl (bQ (bZ 3 rfl rfl) bX) rfl rfl (dX rfl (dU (Ht rfl) rfl)) (bY (Ei:=[(27,_)]) rfl rfl (bQ (bZ 3 rfl rfl) bX) rfl rfl (dX rfl (dU (Ht rfl) rfl)) (Y.D_newp (Ei:=[]) (fun bb=>box bb 32 [bA Dw,dN Nt]) 7 rfl rfl rfl bX rfl rfl (by kernel_rfl) (eG (Ts:=[Is (.slice none 0 0),Is (.slice none 0 0)]) O_32 rfl (fun V=>aW zd (aW zd (aG)))) ?_)))
 refine Y.D_putN (Ei:=[(31,_)]) 6 rfl rfl rfl rfl rfl rfl (bQ (bZ 4 rfl rfl) bX) (fun bb=>lP Z_32 (Ht rfl) (Ht rfl) rfl (i:=0) rfl (aK rfl) rfl rfl) (Y.D_done bF rfl (by kernel_rfl) rfl (by simp [Y.okP]) rfl rfl (bU (bU (bU (bU (bU (bU (Y.F_newp (fun B4=>Y.F_putN (Y.F_nil ?_))))))))))
 refine ra rfl (eZ (ts (ro rfl (eW A_32 Z_32 (Ht rfl) (i:=2) rfl rfl rfl) (ro rfl (cZ K_25 (eX (Pa (z:=Dw) (s:=Nt) (i:=((1:Nat):Int)) (j:=((1:Nat):Int)) a0N (by rw [Sx]; decide)) a32) ⟨(Ht rfl),(cJ 1),(cJ 1),trivial⟩) ?_))))
 refine rm rfl (ro rfl (dU (Ht rfl) rfl) (ro rfl (dU (Ht rfl) rfl) (rn rfl (eG (Ts:=[Is (.bool false),Is (.slice none 0 0),Is (.bool false),Is (.slice none 0 0),Is (.slice none 0 0)]) O_51 rfl (fun V=>aW zd (aW zd (aW zd (aW zd (aW zd (aG))))))) fun B6=>(gJ Z_51 (Ht rfl) (Ht rfl) rfl (i:=3) rfl (aK rfl) rfl rfl (ra rfl (eZ (ts (ro rfl (eW A_32 Z_32 (Ht rfl) (i:=1) rfl rfl rfl) ?_))))))))
 refine ro rfl (cZ Tryz.call124 (a1q (z:=zK) (s:=Br) (L:=2) Qf a0B (by decide) (by decide) (by decide) (by decide +kernel) (by decide +kernel) a1W) ⟨(Ht rfl),trivial⟩) (rm rfl (ro rfl (dU (Ht rfl) rfl) (ro rfl (dU (Ht rfl) rfl) (ra rfl (ra rfl (eZ (ts (rm rfl (ro rfl (iY (Ht rfl) cV) (rm rfl (fX rfl rfl (eU rfl rfl (Ht rfl) (fun h=>cX (Ht rfl))) (fX rfl rfl (eU rfl rfl (Ht rfl) (fun h=>iY (fW rfl h) cV)) (ro rfl (eA (Ht rfl) (fun h=>(fW rfl h))) (rm rfl (fX rfl rfl (eU rfl rfl (Ht rfl) (fun h=>cX (Ht rfl))) ?_)))))))))))))))
 refine fX rfl rfl (eU rfl rfl (Ht rfl) (fun h=>iY (fW rfl h) cV)) (ro rfl (eA (Ht rfl) (fun h=>(fW rfl h))) (rm rfl (fX rfl rfl (eU rfl rfl (Ht rfl) (fun h=>cX (Ht rfl))) (fX rfl rfl (eU rfl rfl (Ht rfl) (fun h=>iY (fW rfl h) cV)) (ro rfl (eA (Ht rfl) (fun h=>(fW rfl h))) (rm rfl (fX rfl rfl (eU rfl rfl (Ht rfl) (fun h=>eW A_32 Z_32 (Ht rfl) (i:=1) rfl rfl rfl)) (fX rfl rfl (eU rfl rfl (Ht rfl) (fun h=>cZ K_22 qN ⟨(fW rfl h),trivial⟩)) (fX rfl rfl (eU rfl rfl (Ht rfl) (fun h=>cB (fW rfl h) (cJ 2))) ?_)))))))))
 refine ro rfl (eA (Ht rfl) (fun h=>(fW rfl h))) (rm rfl (fX rfl rfl (eU rfl rfl (Ht rfl) (fun h=>eW A_51 Z_51 (Ht rfl) (i:=3) rfl rfl rfl)) (fX rfl rfl (eU rfl rfl (Ht rfl) (fun h=>cZ Tryz.call89 (Qs (x:=Qi.ofInt 1) (L:=2) (hx:=a0s) (by decide)) ⟨(fW rfl h),trivial⟩)) (fX rfl rfl (eU rfl rfl (Ht rfl) (fun h=>Uy (fW rfl h) (bC.cS (l:=[49]) rfl))) (ro rfl (eA (Ht rfl) (fun h=>(fW rfl h))) (ra rfl (eZ (fK rfl (fJ (eY rfl) ?_)))))))))
 exact (eN (by rw [a3d]; rfl))
end
section
open Go Go.RowKit
theorem yH {l:List Rt} (hl:l.length ≤ 1000000):bB Tryz.prog 104 [lU l] (Fd (l.map Rt.q)):=by
 refine bB.intro Tryz.func104 rfl Tryz.ntmps104 rfl (fun cx=>(ts (ro rfl (cQ cV) (eZ (ts (rm rfl (ro rfl (dK U_22 (Ht rfl) aA) (rn rfl (gR (T:=ZQ) (i:=Tryz.t131) a19 Rf rfl rfl (Ht rfl) rfl a3l (El.ag rfl) (by show 88 * _ ≤ _; omega) zo) fun B8=>(ra rfl (eZ (cK (ts (rm rfl (ro rfl (dK U_22 (Ht rfl) aA) (ro rfl (cX (cJ 0)) (eZ (eK ?_)))))))))))))))))
 refine cM (fun (k : Nat) => k ≤ l.length) (fun (k : Nat) => l.length - k) (fun (k : Nat) => [(3, Is B8), (9, lU l), (10, NT .i64 l.length), (11, NT .i64 k)]) (fun (k : Nat) => [bM 131 5 B8 (jR (fun i => QT (l.getD i default).q) ZQ l.length k)]) 0 (Nat.zero_le _)
  (zS rfl) (aU (aR (by rw [← iI]; exact uI _ _)) aY) (fun k hk=>?_)
 refine ts (ro rfl (gV (Ht rfl) (Ht rfl)) (eZ (cK (dQ (Ht rfl) (fun hd=>?_) (fun hd=>?_)))))
 ·simp only [decide_eq_true_eq] at hd
  refine cU (cK (eK (ts (rm rfl (ro rfl (dZ U_22 Z_102 (Ht rfl) (Ht rfl) rfl (eQ (dY (d:=default) hd))) (ro rfl (dV A_102 Z_102 (Ht rfl)) (rn rfl (eG (Ts:=[Is (.int .i64 0),Is (.int .i64 0),Is (.int .i64 0)]) O_102 rfl (fun V=>aW zd (aW zd (aW zd (aG))))) fun B5=>(ra rfl (gJ Z_102 (Ht rfl) (Ht rfl) rfl (i:=1) rfl (aK rfl) rfl rfl (eZ (cY (rm rfl (rm rfl (ro rfl (eW A_102 Z_102 (Ht rfl) (i:=1) rfl rfl rfl) ?_))))))))))))))
  refine ro rfl (cZ Tryz.call151 a2L ⟨(Ht rfl),trivial⟩) (ro rfl (dE U_35 Z_131 (Ht rfl) (Ht rfl) rfl (i:=0) rfl (by rw [cO]; omega) rfl) ?_)
  refine kS Z_131 (Ht rfl) (Ht rfl) (El.ag rfl) (i:=0) rfl rfl (by rw [cO]; omega) rfl ?_
  refine eZ (bH (cY (ro rfl (dW (Ht rfl) (cJ 1) z6) (rm rfl (eZ (bL [0] rfl (by decide) (gQ (k + 1) hd zo (zS rfl) (aU (aR (jK (f:=fun i=>QT (l.getD i default).q))) aY))))))))
 ·simp only [decide_eq_false_iff_not] at hd
  obtain rfl:k = l.length:=Nat.le_antisymm hk zo
  rw [jJ]
  refine gK rfl (gG (i:=0) (tt:=3) rfl rfl gD (ts (rm rfl (ra rfl (eZ (fK rfl (fJ (eY rfl) ?_)))))))
  exact (kB (by rw [← qY l Rt.q,mM]))
theorem Kg {m:List (List Rt)} (hm:m.length ≤ 1000) (hr:∀ r,r ∈ m → r.length ≤ 1000):bB Tryz.prog 105 [Uq m] (QM (rq m)):=by
 refine bB.intro Tryz.func105 rfl Tryz.ntmps105 rfl (fun cx=>(ts (ro rfl (cQ cV) (eZ (ts (rm rfl (ro rfl (dK U_23 (Ht rfl) aA) (rn rfl (gR (T:=Fd []) (i:=Tryz.t35) a0K Zt rfl rfl (Ht rfl) rfl (fun V=>iT _ _ rfl) El.one (by show 24 * _ ≤ _; omega) zo) fun B8=>(ra rfl (eZ (cK (ts (rm rfl (ro rfl (dK U_23 (Ht rfl) aA) (ro rfl (cX (cJ 0)) (eZ (eK ?_)))))))))))))))))
 refine fT (fun (k : Nat) (out : List (List Qi)) => nA (fun i => (m.getD i default).map Rt.q) m.length out k) (fun (k : Nat) (out : List (List Qi)) => m.length - k) (fun (k : Nat) (out : List (List Qi)) => [(3, Is B8), (9, Uq m), (10, NT .i64 m.length), (11, NT .i64 k)]) (fun (k : Nat) (out : List (List Qi)) => [bM 35 1 B8 (out.map Fd)]) 0 (List.replicate m.length []) (nA.start _ _ _)
  (zS rfl) (aU (aR (rF Fd _ _)) aY) (fun k out hS=>?_)
 refine ts (ro rfl (gV (Ht rfl) (Ht rfl)) (eZ (cK (dQ (Ht rfl) (fun hk=>?_) (fun hk=>?_)))))
 ·simp only [decide_eq_true_eq] at hk
  have hlen:=hS.len
  have hrk : (m.getD k default).length ≤ 1000 := by
   have e:m.getD k default = m[k]:=by simp [List.getD,hk]
   rw [e]; exact hr _ (List.getElem_mem hk)
  refine cU (cK (eK (ts (rm rfl (ro rfl (dZ U_23 Z_22 (Ht rfl) (Ht rfl) rfl (eQ (dY (d:=default) hk))) (ro rfl (dV A_22 Z_22 (Ht rfl)) (ra rfl (ra rfl (eZ (cY (rm rfl (rm rfl (rm rfl (ro rfl (cZ Tryz.call104 (yH zo) ⟨(Ht rfl),trivial⟩) (ro rfl (dE U_36 Z_35 (Ht rfl) (Ht rfl) rfl (i:=0) rfl (by first | omega | (simp; omega)) rfl) (kS Z_35 (Ht rfl) (Ht rfl) El.one (i:=0) rfl rfl (by first | omega | (simp; omega)) rfl (eZ (bH ?_))))))))))))))))))
  refine cY (ro rfl (dW (Ht rfl) (cJ 1) z6) (rm rfl (eZ (gQ (k + 1,_) (hS.next hk rfl) (by dsimp only; omega) (zS rfl) (aU (aR (fL Fd _ _ _)) aY)))))
 ·simp only [decide_eq_false_iff_not] at hk
  obtain rfl:k = m.length:=Nat.le_antisymm hS.kle zo
  have hfin:=hS.fin
  rw [qY m (fun r=>r.map Rt.q)] at hfin
  refine gK rfl (gG (i:=0) (tt:=3) rfl rfl gD (ts (rm rfl (ra rfl (eZ (fK rfl (fJ (eY rfl) ?_)))))))
  exact (kB (by rw [hfin]))
theorem a2E {z:List Qi} {s:List (List Qi)} {L:Nat} (hz:cC z L) (hs:bT s L) (hL1:1 ≤ L) (hL:L ≤ 8796093022208) (hsh:eR s z.length z.length) (hl:z.length ≤ 1000):bB Tryz.prog 70 [bR z s,sX z s] (aC true):=by
 have hs1:=hsh.1
 refine bB.intro Tryz.func70 rfl Tryz.ntmps70 rfl (fun cx=>(ts (rn rfl (fU (Ht rfl)) fun B2=>(rn rfl (fU (Ht rfl)) fun B3=>(ro rfl (cQ cV) (eZ (cK (cK (fV (m:=5) (dp 2 rfl (eW A_32 Z_32 (Ht rfl) (i:=0) rfl rfl rfl) (dq 13 0 rfl (cZ K_22 qN ⟨(Ht rfl),trivial⟩) (dp 3 rfl (eJ Ma (Ht rfl) rfl) (dq 15 2 rfl (fQ Tryz.isAgg35 Z_35 (Ht rfl) (i:=1) rfl rfl) (dq 16 3 rfl (dK U_35 (Ht rfl) aA) (fG bF rfl (by kernel_rfl) (zF (aJ (aV ?_))))))))))))))))))
 refine ro rfl (iR (Ht rfl) (Ht rfl)) (eZ (fN (Ht rfl) (by simp) ?_))
 refine cU (cK (ts (ro rfl (eJ Ma (Ht rfl) rfl) (ro rfl (fQ Tryz.isAgg35 Z_35 (Ht rfl) (i:=1) rfl rfl) (ro rfl (dK U_35 (Ht rfl) aA) (ro rfl (cX (cJ 0)) (eZ (eK ?_))))))))
 refine cM (fun (i : Nat) => i ≤ z.length) (fun (i : Nat) => z.length - i) (fun (i : Nat) => [(2, bP B2 0), (3, bP B3 0), (20, Fd z), (21, NT .i64 z.length), (22, NT .i64 i)]) (fun (i : Nat) => [box B2 32 [bA z, dN s], box B3 38 [Fd z, QM s]]) 0 (Nat.zero_le _)
  (zS rfl) (dL.refl _) (fun i hi=>?_)
 refine ts (ro rfl (gV (Ht rfl) (Ht rfl)) (eZ (cK (dQ (Ht rfl) (fun hd=>?_) (fun hd=>?_)))))
 ·simp only [decide_eq_true_eq] at hd
  haveI f1:aN (gv z i) L:=hz.get hL1 i
  have hsr:=hsh.row hd
  refine cU (cK (eK (ts (rm rfl (ro rfl (dZ U_35 Z_131 (Ht rfl) (Ht rfl) rfl (eQ (dY (d:=Qi.zero) hd))) (ro rfl (dV A_131 Z_131 (Ht rfl)) (rn rfl (eG (Ts:=[Is (.bool false),Is (.slice none 0 0),Is (.bool false),Is (.slice none 0 0),Is (.slice none 0 0)]) O_131 rfl (fun V=>aW zd (aW zd (aW zd (aW zd (aW zd (aG))))))) fun B6=>(ra rfl (gJ Z_131 (Ht rfl) (Ht rfl) rfl (i:=2) rfl (aK rfl) rfl rfl ?_)))))))))
  refine eZ (ts (ro rfl (eW A_32 Z_32 (Ht rfl) (i:=0) rfl rfl rfl) (rm rfl (ro rfl (dW (Ht rfl) (cJ 1) z6) (ro rfl (cZ Tryz.call23 (eX (Nd (z:=z) (s:=s) (i:=((i + 1:Nat):Int)) zo) (a21 hd)) ⟨(Ht rfl),(Ht rfl),trivial⟩) (rm rfl (ro rfl (dU (Ht rfl) rfl) (ro rfl (dU (Ht rfl) rfl) (rn rfl (eG (Ts:=[Is (.bool false),Is (.slice none 0 0),Is (.bool false),Is (.slice none 0 0),Is (.slice none 0 0)]) O_51 rfl (fun V=>aW zd (aW zd (aW zd (aW zd (aW zd (aG))))))) fun B7=>?_)))))))))
  refine gJ Z_51 (Ht rfl) (Ht rfl) rfl (i:=3) rfl (aK rfl) rfl rfl (ra rfl (eZ (cK (ts (rm rfl (ro rfl (fB (Ht rfl) cV) (rm rfl (fX rfl rfl (eU rfl rfl (Ht rfl) (fun h=>eW A_51 Z_51 (Ht rfl) (i:=3) rfl rfl rfl)) (fX rfl rfl (eU rfl rfl (Ht rfl) (fun h=>eW A_131 Z_131 (Ht rfl) (i:=2) rfl rfl rfl)) (fX rfl rfl (eU rfl rfl (Ht rfl) (fun h=>cZ Tryz.call80 (Ku (x:=gv z i) (y:=gv z i) (L:=L) (M:=L) hL hL) ⟨(fW rfl h),(fW rfl h),trivial⟩)) (fX rfl rfl (eU rfl rfl (Ht rfl) (fun h=>eE (fW rfl h))) ?_)))))))))))
  refine ro rfl (kZ (Ht rfl) (fun h=>(fW rfl h))) (eZ (fN (Ht rfl) (by simp) ?_))
  refine cU (ts (ro rfl (eJ Zu (Ht rfl) rfl) (ro rfl (fQ Tryz.isAgg36 Tryz.sizeOf36 (Ht rfl) (i:=1) rfl rfl) (rm rfl (ro rfl (dZ U_36 Z_35 (Ht rfl) (Ht rfl) rfl (eQ (dY (d:=[]) zo))) (ro rfl (dV Tryz.isAgg35 Z_35 (Ht rfl)) (ro rfl (dK U_35 (Ht rfl) aA) (ro rfl (cX (cJ 0)) (eZ (eK (bL [0,1] rfl (by decide) ?_)))))))))))
  refine cM (fun (j : Nat) => j ≤ z.length) (fun (j : Nat) => z.length - j) (fun (j : Nat) => [(2, bP B2 0), (3, bP B3 0), (5, NT .i64 i), (20, Fd z), (21, NT .i64 z.length), (22, NT .i64 i), (46, Fd (s.getD i [])), (47, NT .i64 z.length), (48, NT .i64 j)]) (fun (j : Nat) => [box B2 32 [bA z, dN s], box B3 38 [Fd z, QM s]]) 0 (Nat.zero_le _)
   (aQ rfl (aQ rfl (aQ rfl (aQ rfl (aQ rfl (aQ rfl (aQ rfl (aZ rfl (lI hsr) (zS rfl))))))))) (dL.refl _) (fun j hj=>?_)
  refine ts (ro rfl (gV (Ht rfl) (Ht rfl)) (eZ (cK (dQ (Ht rfl) (fun hf=>?_) (fun hf=>?_)))))
  ·simp only [decide_eq_true_eq] at hf
   haveI f2:aN (gm s i j) L:=hs.get hL1 i j
   refine cU (cK (eK (ts (rm rfl (ro rfl (dZ U_35 Z_131 (Ht rfl) (Ht rfl) rfl (eQ (dY (d:=Qi.zero) zo))) (ro rfl (dV A_131 Z_131 (Ht rfl)) (rn rfl (eG (Ts:=[Is (.bool false),Is (.slice none 0 0),Is (.bool false),Is (.slice none 0 0),Is (.slice none 0 0)]) O_131 rfl (fun V=>aW zd (aW zd (aW zd (aW zd (aW zd (aG))))))) fun B10=>(ra rfl (gJ Z_131 (Ht rfl) (Ht rfl) rfl (i:=2) rfl (aK rfl) rfl rfl ?_)))))))))
   refine eZ (ts (ro rfl (eW A_32 Z_32 (Ht rfl) (i:=0) rfl rfl rfl) (rm rfl (ro rfl (dW (Ht rfl) (cJ 1) z6) (rm rfl (ro rfl (dW (Ht rfl) (cJ 1) z6) (ro rfl (cZ K_25 (eX (Pa (z:=z) (s:=s) (i:=((i + 1:Nat):Int)) (j:=((j + 1:Nat):Int)) hsh zo) (a35 hd hf)) ⟨(Ht rfl),(Ht rfl),(Ht rfl),trivial⟩) (rm rfl (ro rfl (dU (Ht rfl) rfl) (ro rfl (dU (Ht rfl) rfl) ?_))))))))))
   refine rn rfl (eG (Ts:=[Is (.bool false),Is (.slice none 0 0),Is (.bool false),Is (.slice none 0 0),Is (.slice none 0 0)]) O_51 rfl (fun V=>aW zd (aW zd (aW zd (aW zd (aW zd (aG))))))) fun B11=>gJ Z_51 (Ht rfl) (Ht rfl) rfl (i:=3) rfl (aK rfl) rfl rfl (ra rfl (eZ (ts (rm rfl (ro rfl (fB (Ht rfl) cV) (rm rfl (fX rfl rfl (eU rfl rfl (Ht rfl) (fun h=>eW A_51 Z_51 (Ht rfl) (i:=3) rfl rfl rfl)) ?_)))))))
   refine fX rfl rfl (eU rfl rfl (Ht rfl) (fun h=>eW A_131 Z_131 (Ht rfl) (i:=2) rfl rfl rfl)) (fX rfl rfl (eU rfl rfl (Ht rfl) (fun h=>cZ Tryz.call80 (Ku (x:=gm s i j) (y:=gm s i j) (L:=L) (M:=L) hL hL) ⟨(fW rfl h),(fW rfl h),trivial⟩)) (fX rfl rfl (eU rfl rfl (Ht rfl) (fun h=>eE (fW rfl h))) (ro rfl (kZ (Ht rfl) (fun h=>(fW rfl h))) (eZ (fN (Ht rfl) (by simp) ?_)))))
   refine cU (bH (cY (ro rfl (dW (Ht rfl) (cJ 1) z6) (rm rfl (eZ (bL [0,1] rfl (by decide) (gQ (j + 1) hf zo (zS rfl) (dL.refl _))))))))
  ·refine gK rfl (bH (cY (ro rfl (dW (Ht rfl) (cJ 1) z6) (rm rfl (eZ (bL [0,1] rfl (by decide) (gQ (i + 1) hd zo (zS rfl) (dL.refl _))))))))
 ·refine gK rfl (ts (ro rfl (cQ cV) (eZ ?_)))
  exact fK rfl (eY rfl)
end
section
open Go Go.RowKit
theorem jY (x:Int) {b:Int} (h:0 < b):-b < x.tmod b ∧ x.tmod b < b:=by
 by_cases hx:0 ≤ x
 ·rw [Int.tmod_eq_emod_of_nonneg hx]
  have h1:=Int.emod_nonneg x (by omega:b ≠ 0)
  have h2:=Int.emod_lt_of_pos x h
  omega
 ·have e : x.tmod b = -((-x).tmod b) := by rw [Int.neg_tmod, Int.neg_neg]
  rw [e,Int.tmod_eq_emod_of_nonneg (by omega:0 ≤ -x)]
  have h1:=Int.emod_nonneg (-x) (by omega:b ≠ 0)
  have h2:=Int.emod_lt_of_pos (-x) h
  omega
def pG (x:Int):Int:=if x < 0 then -x else x
theorem rU {x:Int} {b:Int} (h:-b < x ∧ x < b):0 ≤ pG x ∧ pG x < b:=by unfold pG; split <;> omega
def Ak (r:Rt):Rt where
 re:=r.re.tmod 9
 im:=r.im.tmod 9
 den:=pG (r.den.tmod 4) + 1
 h1:=by have:=jY r.re (b:=9) (by decide); omega
 h2:=by have:=jY r.re (b:=9) (by decide); omega
 h3:=by have:=jY r.im (b:=9) (by decide); omega
 h4:=by have:=jY r.im (b:=9) (by decide); omega
 h5:=by have:=rU (jY r.den (b:=4) (by decide)); omega
 h6:=by have:=rU (jY r.den (b:=4) (by decide)); omega
def Vr (r:Rt):Rt where
 re:=pG (Ak r).re + 1
 im:=0
 den:=(Ak r).den
 h1:=by have:=rU (jY r.re (b:=9) (by decide)); show _ ≤ pG (r.re.tmod 9) + 1; omega
 h2:=by have:=rU (jY r.re (b:=9) (by decide)); show pG (r.re.tmod 9) + 1 ≤ _; omega
 h3:=by decide
 h4:=by decide
 h5:=(Ak r).h5
 h6:=(Ak r).h6
def Js (l:List Rt) (i:Nat):Rt:=if l.length = 0 then default else l.getD (i % l.length) default
def lO (a:Nat):Nat:=a % 4 + 1
def oV (a:Nat) (zl:List Rt):List Rt:=tab (lO a) fun i=>Vr (Js zl i)
def tY (a:Nat) (sl:List Rt):List (List Rt):=tab (lO a) fun i=>tab (lO a) fun j=>Ak (Js sl (lO a * i + j))
theorem Xl (r:Rt):kA (Vr r).q = true:=by
 have h1:=rU (jY r.re (b:=9) (by decide))
 have h2:=rU (jY r.den (b:=4) (by decide))
 have hd : (Vr r).d = pG (r.den.tmod 4) + 1 := by
  show (if pG (r.den.tmod 4) + 1 = 0 then 1 else pG (r.den.tmod 4) + 1) = _
  rw [if_neg zo]
 have hq:(Vr r).q = Qi.frac (pG (r.re.tmod 9) + 1) 0 (pG (r.den.tmod 4) + 1):=by rw [Rt.q,hd]; rfl
 have hb:(Vr r).q.b = 0:=Qi.b_zero.2 (by rw [hq]; show ((0:Int):Rat) / _ = 0; rw [Rat.div_def]; exact Rat.zero_mul _)
 have ha : 0 < (Vr r).q.a := by
  rw [Qi.a_pos,hq]
  show (0:Rat) < ((pG (r.re.tmod 9) + 1:Int):Rat) / ((pG (r.den.tmod 4) + 1:Int):Rat)
  rw [Rat.div_def]
  refine Rat.mul_pos (Rat.intCast_pos.2 zo) (Rat.inv_pos.2 (Rat.intCast_pos.2 zo))
 simp only [kA,hb,ha,and_self,decide_true]
theorem Ag (a:Nat) (zl sl:List Rt):cD ((oV a zl).map Rt.q) (rq (tY a sl)) = 0:=by
 have hz:((oV a zl).map Rt.q).length = lO a:=by rw [List.length_map,oV,aO]
 have hs:(rq (tY a sl)).length = lO a:=by rw [List.length_map,tY,aO]
 have hn:lO a ≤ 4:=by unfold lO; omega
 have hn1:1 ≤ lO a:=by unfold lO; omega
 rw [cD,if_neg,if_pos]
 ·rw [List.all_eq_true]
  intro x hx
  obtain ⟨r,hr,rfl⟩:=List.mem_map.1 hx
  obtain ⟨i,_,rfl⟩:=jE.1 hr
  exact Xl _
 ·rw [hz, hs]
  rintro (h | h | h | h)
  ·omega
  ·omega
  ·exact h rfl
  ·obtain ⟨r, hr, h2⟩ := List.any_eq_true.1 h
   obtain ⟨y,hy,rfl⟩:=List.mem_map.1 hr
   obtain ⟨i,_,rfl⟩:=jE.1 hy
   simp [aO] at h2
def sU (x : Qi) (l m : List Qi) : Nat → Qi
 | 0=>x
 | k + 1=>sU x l m k + gv l k * gv m k
theorem Fi {x : Qi} {l m : List Qi} {L M : Nat} (hx : aN x M) (hl : cC l L) (hm : cC m L) (hL : 1 ≤ L) : ∀ k, aN (sU x l m k) (M + k * (2 * L + 2))
 | 0=>hx.le zo
 | k + 1 => by
  haveI f1:=Fi hx hl hm hL k
  haveI f2:=hl.get hL k
  haveI f3:=hm.get hL k
  have:aN (sU x l m (k + 1)) (M + k * (2 * L + 2) + (L + L + 1) + 1):=by unfold sU; infer_instance
  exact this.le (by rw [Nat.add_mul]; omega)
end
section
open Go Go.RowKit
theorem Au {n : Nat} {E : cH} {H : Hp} {d : Option Tmp} {t : TypeId} {pos : String} {af : Array Edge} {g : Option (Nat × Bool)} {x0 x1 x2 : Operand} {T0 T1 T2 : Ty} [s0 : dC T0 1 false] (h0 : bC E x0 T0) [s1 : dC T1 1 false] (h1 : bC E x1 T1) [s2 : dC T2 1 false] (h2 : bC E x2 T2) :
  aF Tryz.prog n E H ⟨d,.build 102 #[(0,x0),(1,x1),(2,x2)],t,pos,af,g⟩ (eD [T0,T1,T2]) :=
 iA (parts := [(0, x0), (1, x1), (2, x2)]) fun a V w hs => by
  have p0:=h0 n V a hs
  generalize e0:a.eval x0 = v0 at p0
  have q0:=(s0.ok v0 V p0).2.2 rfl
  have p1:=h1 n V a hs
  generalize e1:a.eval x1 = v1 at p1
  have q1:=(s1.ok v1 V p1).2.2 rfl
  have p2:=h2 n V a hs
  generalize e2:a.eval x2 = v2 at p2
  have q2:=(s2.ok v2 V p2).2.2 rfl
  refine ⟨.agg #[v0,v1,v2],?_,[v0,v1,v2],rfl,aW (⟨p0,q0⟩) (aW (⟨p1,q1⟩) (aW (⟨p2,q2⟩) (aG)))⟩
  simp [e0,e1,e2,Instr.build,Instr.fill,Sem.run_bind,Result.andThen,fM,q0.cells,q1.cells,q2.cells,O_102,U_102,Z_2]
end
section
open Go Go.RowKit
theorem a2B {x:Qi} {l m:List Qi} {L M n:Nat} (hx:aN x M) (hl:cC l L) (hm:cC m L) (hL:1 ≤ L) (hll:l.length = n) (hml:m.length = n) (hn:n ≤ 1000) (hb:M + n * (2 * L + 2) ≤ 17592186044415):bB Tryz.prog 123 [aD x,bA l,bA m] (aD (sU x l m n)):=by
 refine bB.intro Tryz.func123 rfl Tryz.ntmps123 rfl (fun cx=>(ts (rn rfl (fU (Ht rfl)) fun B3=>(rn rfl (eG (Ts:=[Is (.bool false),Is (.slice none 0 0),Is (.bool false),Is (.slice none 0 0),Is (.slice none 0 0)]) O_51 rfl (fun V=>aW zd (aW zd (aW zd (aW zd (aW zd (aG))))))) fun B6=>(eZ (cK (ts (rm rfl (ro rfl (dK U_29 (Ht rfl) (by rw [List.length_map,hll])) ?_)))))))))
 refine ro rfl (cX (cJ 0)) (eZ (eK ?_))
 refine cM (fun (k : Nat) => k ≤ n) (fun (k : Nat) => n - k) (fun (k : Nat) => [(1, bA l), (2, bA m), (3, bP B3 0), (6, bP B6 0), (9, NT .i64 n), (10, NT .i64 k)]) (fun (k : Nat) => [box B3 51 [aC (decide ((sU x l m k).a < 0)), aH (sU x l m k).a.natAbs, aC (decide ((sU x l m k).b < 0)), aH (sU x l m k).b.natAbs, aH (du (sU x l m k))], box B6 51 [Is (.bool false), Is (.slice none 0 0), Is (.bool false), Is (.slice none 0 0), Is (.slice none 0 0)]]) 0 (Nat.zero_le _)
  (zS rfl) (dL.refl _) (fun k hk=>?_)
 refine ts (ro rfl (gV (Ht rfl) (Ht rfl)) (eZ (cK (dQ (Ht rfl) (fun hd=>?_) (fun hd=>?_)))))
 ·simp only [decide_eq_true_eq] at hd
  haveI f1:=Fi hx hl hm hL k
  haveI f2:=hl.get hL k
  haveI f3:=hm.get hL k
  have hkn:(k + 1) * (2 * L + 2) ≤ n * (2 * L + 2):=Nat.mul_le_mul_right _ hd
  rw [Nat.add_mul] at hkn
  refine cU (cK (eK (ts (rm rfl (ra rfl (eZ (fV (m:=12) (dp 3 rfl (eW A_51 Z_51 (Ht rfl) (i:=0) rfl rfl rfl) (dq 13 0 rfl (bD bN (Ht rfl)) (dp 1 rfl (cX (Ht rfl)) (dp 7 rfl (cX (Ht rfl)) (dS 15 2 16 3 rfl (dZ U_29 Z_51 (Ht rfl) (Ht rfl) rfl (eQ (dY (d:=Qi.zero) zo))) (dq 17 4 rfl (dV A_51 Z_51 (Ht rfl)) (dq 18 5 rfl (bD bN (Ht rfl)) (dp 2 rfl (cX (Ht rfl)) (dp 7 rfl (cX (Ht rfl)) (dS 20 7 21 8 rfl (dZ U_29 Z_51 (Ht rfl) (Ht rfl) rfl (eQ (dY (d:=Qi.zero) zo))) ?_)))))))))))))))))
  refine dq 22 9 rfl (dV A_51 Z_51 (Ht rfl)) (dS 19 6 23 10 rfl (aP cI K_45 (kU (x:=gv l k) (y:=gv m k) (L:=L) (M:=L) zo) (Ht rfl) ⟨(Ht rfl),trivial⟩) (fG bF rfl (by kernel_rfl) (zF (zF (zF (aV (ro rfl (aP lG K_46 (yG (x:=sU x l m k) (y:=gv l k * gv m k) (L:=M + k * (2 * L + 2)) (M:=L + L + 1) zo) (Ht rfl) ⟨(Ht rfl),trivial⟩) (gJ Z_51 (Ht rfl) (Ht rfl) rfl (i:=0) rfl (aK rfl) rfl rfl ?_))))))))
  refine eZ (bH (cY (ro rfl (dW (Ht rfl) (cJ 1) z6) (rm rfl (eZ (gQ (k + 1) hd zo (zS rfl) (dL.refl _)))))))
 ·simp only [decide_eq_false_iff_not] at hd
  obtain rfl:k = n:=Nat.le_antisymm hk zo
  refine gK rfl (ts (ro rfl (eW A_51 Z_51 (Ht rfl) (i:=0) rfl rfl rfl) (gJ Z_51 (Ht rfl) (Ht rfl) rfl (i:=1) rfl (aK rfl) rfl rfl (eZ ?_))))
  exact fK rfl (fY A_51 Z_51 rfl (i:=1) rfl rfl)
theorem Mw {r:Rt}:bB Tryz.prog 130 [mB r] (mB (Ak r)):=by
 have b1:=jY r.den (b:=4) (by decide)
 refine bB.intro Tryz.func130 rfl Tryz.ntmps130 rfl (fun cx=>(ts (rn rfl (fU (Ht rfl)) fun B1=>(rn rfl (eG (Ts:=[Is (.int .i64 0),Is (.int .i64 0),Is (.int .i64 0)]) O_102 rfl (fun V=>aW zd (aW zd (aW zd (aG))))) fun B2=>(eZ (ts (ro rfl (eJ mW (Ht rfl) rfl) (ro rfl (fQ A_2 Z_2 (Ht rfl) (i:=0) rfl rfl) (ro rfl (Et (Ht rfl) cV (by decide) rfl) (ra rfl (eZ (cK (jF (fun (d:Int)=>d = pG (r.den.tmod 4)) (fun (d:Int)=>[(1,bP B1 0),(2,bP B2 0),(3,aE .i64 d)]) (fun (d:Int)=>[box B1 102 [aE .i64 r.re,aE .i64 r.im,aE .i64 r.den],box B2 102 [Is (.int .i64 0),Is (.int .i64 0),Is (.int .i64 0)]]) ?_ (fun d hd=>?_))))))))))))))
 ·refine ts (rm rfl (ro rfl (qA (Ht rfl) cV) (eZ (dQ (Ht rfl) (fun hb => ?_) (fun hb => ?_)))))
  ·have hb2 : r.den.tmod 4 < 0 := of_decide_eq_true hb
   refine cY (rm rfl (ro rfl (Ez (Ht rfl) (tD zo)) (ra rfl (eZ (aT (-(r.den.tmod 4)) (by rw [pG,if_pos hb2]) (zS rfl) (dL.refl _))))))
  ·have hb2 : ¬ r.den.tmod 4 < 0 := of_decide_eq_false hb
   refine cU (aT (r.den.tmod 4) (by rw [pG,if_neg hb2]) (zS rfl) (dL.refl _))
 ·have b2 := rU b1
  rw [← hd] at b2
  refine ts (ro rfl (eJ oG (Ht rfl) rfl) (ro rfl (fQ A_2 Z_2 (Ht rfl) (i:=0) rfl rfl) (ro rfl (Et (Ht rfl) cV (by decide) rfl) (ro rfl (eJ zH (Ht rfl) rfl) (ro rfl (fQ A_2 Z_2 (Ht rfl) (i:=0) rfl rfl) (ro rfl (Et (Ht rfl) cV (by decide) rfl) (rm rfl (ro rfl (zR (Ht rfl) cV (tD zo)) (ro rfl (Au (Ht rfl) (Ht rfl) (Ht rfl)) (gJ Z_102 (Ht rfl) (Ht rfl) rfl (i:=1) rfl (aK rfl) rfl rfl (eZ (fK rfl (fJ (fY A_102 Z_102 rfl (i:=1) rfl rfl) ?_)))))))))))))
  exact (fun v V h=>by rw [hd] at h; exact h)
theorem Xk {r:Rt}:bB Tryz.prog 83 [mB r] (mB (Vr r)):=by
 have b1:-9 < (Ak r).re ∧ (Ak r).re < 9:=jY r.re (b:=9) (by decide)
 refine bB.intro Tryz.func83 rfl Tryz.ntmps83 rfl (fun cx=>(ts (rn rfl (fU (Ht rfl)) fun B1=>(rn rfl (eG (Ts:=[Is (.int .i64 0),Is (.int .i64 0),Is (.int .i64 0)]) O_102 rfl (fun V=>aW zd (aW zd (aW zd (aG))))) fun B2=>(eZ (ts (ro rfl (eW A_102 Z_102 (Ht rfl) (i:=0) rfl rfl rfl) (ro rfl (cZ Tryz.call130 Mw ⟨(Ht rfl),trivial⟩) (rn rfl (eG (Ts:=[Is (.int .i64 0),Is (.int .i64 0),Is (.int .i64 0)]) O_102 rfl (fun V=>aW zd (aW zd (aW zd (aG))))) fun B3=>?_)))))))))
 refine gJ Z_102 (Ht rfl) (Ht rfl) rfl (i:=2) rfl (aK rfl) rfl rfl (eZ (cK (jF (fun (x:Int)=>x = pG (Ak r).re) (fun (x:Int)=>[(1,bP B1 0),(2,bP B2 0),(3,bP B3 0)]) (fun (x:Int)=>[box B1 102 [aE .i64 r.re,aE .i64 r.im,aE .i64 r.den],box B2 102 [Is (.int .i64 0),Is (.int .i64 0),Is (.int .i64 0)],box B3 102 [aE .i64 x,aE .i64 (Ak r).im,aE .i64 (Ak r).den]]) ?_ (fun x hx=>?_))))
 ·refine ts (ro rfl (eJ oG (Ht rfl) rfl) (ro rfl (fQ A_2 Z_2 (Ht rfl) (i := 2) rfl rfl) (ro rfl (qA (Ht rfl) cV) (eZ (dQ (Ht rfl) (fun hb => ?_) (fun hb => ?_))))))
  ·have hb2 : (Ak r).re < 0 := of_decide_eq_true hb
   refine cY (ro rfl (eJ oG (Ht rfl) rfl) (ro rfl (fQ A_2 Z_2 (Ht rfl) (i:=2) rfl rfl) (ro rfl (Ez (Ht rfl) (tD zo)) (ro rfl (eJ oG (Ht rfl) rfl) (jN Z_2 (Ht rfl) (Ht rfl) (i:=2) rfl (aK rfl) rfl (eZ (aT (-((Ak r).re)) (by rw [pG,if_pos hb2]) (zS rfl) (dL.refl _))))))))
  ·have hb2 : ¬ (Ak r).re < 0 := of_decide_eq_false hb
   refine cU (aT ((Ak r).re) (by rw [pG,if_neg hb2]) (zS rfl) (dL.refl _))
 ·have b2 := rU b1
  rw [← hx] at b2
  refine ts (ro rfl (eJ oG (Ht rfl) rfl) (ro rfl (fQ A_2 Z_2 (Ht rfl) (i:=2) rfl rfl) (ro rfl (zR (Ht rfl) cV (tD zo)) (ro rfl (eJ mW (Ht rfl) rfl) (ro rfl (fQ A_2 Z_2 (Ht rfl) (i:=2) rfl rfl) (ro rfl (xC (Ht rfl) (Ht rfl)) (gJ Z_102 (Ht rfl) (Ht rfl) rfl (i:=1) rfl (aK rfl) rfl rfl (eZ (fK rfl (fJ (fY A_102 Z_102 rfl (i:=1) rfl rfl) ?_))))))))))
  exact (fun v V h=>by rw [hx] at h; exact h)
theorem Qc {l:List Rt} {i:Nat}:bB Tryz.prog 131 [lU l,NT .i64 i] (mB (Js l i)):=by
 refine bB.intro Tryz.func131 rfl Tryz.ntmps131 rfl (fun cx=>(ts (rn rfl (eG (Ts:=[Is (.int .i64 0),Is (.int .i64 0),Is (.int .i64 0)]) O_102 rfl (fun V=>aW zd (aW zd (aW zd (aG))))) fun B4=>(eZ (cK (ts (rm rfl (ro rfl (dK U_22 (Ht rfl) aA) (ro rfl (cB (Ht rfl) (cJ 0)) (eZ (dQ (Ht rfl) (fun hb=>?_) (fun hb=>?_))))))))))))
 ·have hb2 : l.length = 0 := by simpa only [decide_eq_true_eq] using hb
  refine ts (ro rfl (Rn ) (gJ Z_102 (Ht rfl) (Ht rfl) rfl (i:=0) rfl (aK rfl) rfl rfl (eZ (fK rfl (fJ (fY A_102 Z_102 rfl (i:=0) rfl rfl) ?_)))))
  exact (fun v V h=>by rw [Js,if_pos hb2]; exact h)
 ·have hb2 : ¬ l.length = 0 := by simpa only [decide_eq_false_iff_not] using hb
  have hm:=Nat.mod_lt i (Nat.pos_of_ne_zero hb2)
  refine cU (ts (rm rfl (rm rfl (rm rfl (ro rfl (dK U_22 (Ht rfl) aA) (ro rfl (kN (Ht rfl) (Ht rfl) zo) (ro rfl (dZ U_22 Z_102 (Ht rfl) (Ht rfl) rfl (eQ (dY (d:=default) hm))) (ro rfl (dV A_102 Z_102 (Ht rfl)) (gJ Z_102 (Ht rfl) (Ht rfl) rfl (i:=0) rfl (aK rfl) rfl rfl (eZ (fK rfl (fJ (fY A_102 Z_102 rfl (i:=0) rfl rfl) ?_))))))))))))
  exact (fun v V h=>by rw [Js,if_neg hb2]; exact h)
end
section
open Go Go.RowKit
theorem Df (a:Addr) (w:World):(Instr.fieldAt 57 (.pointer (some a)) 0).run Tryz.prog w = .ok (.pointer (some (a.add 0))) w:=by
 simp [Instr.fieldAt,Instr.sureAddr,fieldPlace,Sem.run_bind,Result.andThen,U_57,Z_5]
theorem a02 (a:Addr) (w:World):(Instr.fieldAt 57 (.pointer (some a)) 1).run Tryz.prog w = .ok (.pointer (some (a.add 1))) w:=by
 simp [Instr.fieldAt,Instr.sureAddr,fieldPlace,Sem.run_bind,Result.andThen,U_57,Z_22]
theorem Xy (a:Addr) (w:World):(Instr.fieldAt 57 (.pointer (some a)) 2).run Tryz.prog w = .ok (.pointer (some (a.add 2))) w:=by
 simp [Instr.fieldAt,Instr.sureAddr,fieldPlace,Sem.run_bind,Result.andThen,U_57,Z_22]
theorem Hr:Tryz.prog.info? 102 = some Tryz.t102:=by kernel_rfl
theorem Yp:Tryz.prog.info? 22 = some Tryz.t22:=by kernel_rfl
theorem Qm:Tryz.prog.underlying 22 = some (.slice 102):=by kernel_rfl
end
section
open Go Go.RowKit
abbrev zC (a:Nat) (zl sl:List Rt):Ty:=eD [NT .u8 a,lU zl,lU sl]
theorem Tz:∀ V,(mB default).p (.agg #[.int .i64 0,.int .i64 0,.int .i64 0]) V:=fun V=>⟨[.int .i64 0,.int .i64 0,.int .i64 0],rfl,aW zd (aW zd (aW zd aG))⟩
theorem a3o {B e s l:Nat} {BT:TypeId} {Rs:List (List Ty)} {q:Value → Prop} (hl:l = Rs.length):∀ u S V,(Is (.slice (some ⟨B,0,none⟩) l l)).p u V → (sV q B BT e s Rs).h S V V → (jT 1 (Rs.map (jT s))).p u V:=fun u S V h1 h2=>Dd hl (Nat.le_refl _) u S V h1 h2
theorem Rw (a:Nat) (sl:List Rt):(tab (lO a) fun i=>tab (lO a) fun j=>mB (Ak (Js sl (lO a * i + j)))).map (jT 3) = (tY a sl).map lU:=by
 rw [tY,mM,mM]
 refine cP fun i _=>?_
 rw [lU,mM]
theorem Rm {a:Nat} {zl sl:List Rt} (ha:a < 256):jG Tryz.prog 103 [zC a zl sl] [] (Nat) (fun B=>dO [lU (oV a zl),Is (.slice (some ⟨B,0,none⟩) (lO a) (lO a))]) (fun B=>[nT B 22 102 3 (tab (lO a) (fun i=>tab (lO a) fun j=>mB (Ak (Js sl (lO a * i + j)))))]) (fun _=>True):=by
 have hn:lO a ≤ 4:=by unfold lO; omega
 have hn0:a % 4 + 1 = lO a:=rfl
 refine jG.intro Tryz.func103 rfl Tryz.ntmps103 rfl (fun cx Z=>(ts (rn rfl (fU (Ht rfl)) fun B1=>(ro rfl (cQ cV) (ro rfl (cQ cV) (eZ (ts (ro rfl (eJ Df (Ht rfl) rfl) (ro rfl (fQ A_5 Z_5 (Ht rfl) (i:=1) rfl rfl) (ro rfl (kN (Ht rfl) (cJ 4) zo) (ro rfl (gW U_5 U_3 (Ht rfl) z6) (ro rfl (aF.nat (dW (Ht rfl) (cJ 1) z6) hn0) ?_))))))))))))
 refine ra rfl (eZ (cK (fV (m:=5) (dp 4 rfl (cX (Ht rfl)) (C.D_new (Ei:=[(14,_)]) rfl rfl rfl (bV (bG 0 rfl rfl) bW) (gR (T:=mB default) (i:=Tryz.t102) Qm Hr rfl rfl (Ht rfl) rfl Tz (El.ag rfl) (by show 24 * _ ≤ _; omega) zo) (dp 4 rfl (cX (Ht rfl)) (C.D_new (Ei:=[(16,_)]) rfl rfl rfl (bV (bG 2 rfl rfl) bW) (fS (T:=Is (.slice none 0 0)) (i:=Tryz.t22) Tryz.underlying23 Yp rfl rfl (Ht rfl) rfl (fun _=>rfl) trivial (by show 24 * _ ≤ _; omega) zo) (C.D_cpy 1 rfl rfl rfl rfl rfl C.cpy_assign ?_))))))))
 refine fG bF rfl (by kernel_rfl) (aJ (C.F_new (fun B15=>aJ (C.F_new (fun B17=>C.F_cpy rfl (aV (ra rfl (eZ (cK (ts (rm rfl (ro rfl (nM U_22 (Ht rfl) (i:=2) rfl (show ((List.replicate (lO a) (mB default)).length:Int) = ((lO a:Nat):Int) from by simp)) (ro rfl (cX (cJ 0)) (eZ (eK (lR 3 rfl (uC (e:=102) (s:=3)) ?_))))))))))))))))
 refine cM (fun (i : Nat) => i ≤ lO a) (fun (i : Nat) => lO a - i) (fun (i : Nat) => [(1, bP B1 0), (4, NT .i64 (lO a)), (5, Is B15), (6, Is (.slice (some ⟨B17, 0, none⟩) (lO a) (lO a))), (19, NT .i64 (lO a)), (20, NT .i64 i)]) (fun (i : Nat) => [Z, box B1 57 [NT .u8 a, lU zl, lU sl], bM 102 3 B15 (jR (fun i => mB (Vr (Js zl i))) (mB default) (lO a) i), nT B17 22 102 3 (jR (fun i => tab (lO a) fun j => mB (Ak (Js sl (lO a * i + j)))) [] (lO a) i)]) 0 (Nat.zero_le _)
  (aQ rfl (aQ rfl (aQ rfl (aQ rfl (aZ rfl (lI (by simp)) (zS rfl)))))) (aU (fun _ _ _ h=>h) (aU (aB rfl) (aU (aR (by rw [← iI]; exact uI _ _)) (aU (eT (by rw [← iI]; exact uI _ _)) aY)))) (fun i hi=>?_)
 refine ts (ro rfl (gV (Ht rfl) (Ht rfl)) (eZ (cK (dQ (Ht rfl) (fun hd=>?_) (fun hd=>?_)))))
 ·simp only [decide_eq_true_eq] at hd
  have hni:lO a * i ≤ 4 * 4:=Nat.mul_le_mul hn zo
  refine oR 3 (i) rfl (Md hd) (fun v0=>(cU (cK (eK (ts (rm rfl (ra rfl (eZ (ts (rm rfl (rm rfl (ro rfl (eJ a02 (Ht rfl) rfl) (ro rfl (fQ A_22 Z_22 (Ht rfl) (i:=1) rfl rfl) (rm rfl (ro rfl (cZ Tryz.call131 Qc ⟨(Ht rfl),(Ht rfl),trivial⟩) (ro rfl (cZ Tryz.call83 Xk ⟨(Ht rfl),trivial⟩) (ro rfl (dE U_22 Z_102 (Ht rfl) (Ht rfl) rfl (i:=2) rfl (by rw [cO]; omega) rfl) ?_)))))))))))))))))
  refine kS Z_102 (Ht rfl) (Ht rfl) (El.ag rfl) (i:=2) rfl rfl (by rw [cO]; omega) rfl ?_
  refine eZ (ts (rm rfl (rm rfl (rm rfl (rn rfl (gR (T:=mB default) (i:=Tryz.t102) Qm Hr rfl rfl (Ht rfl) rfl Tz (El.ag rfl) (by show 24 * _ ≤ _; omega) zo) fun B34=>(ro rfl (gX U_23 Z_22 (Ht rfl) (Ht rfl) rfl zo (by rw [Nat.mul_one,Nat.zero_add])) ?_))))))
  refine zE Z_22 (Ht rfl) (Ht rfl) (by rw [cO]; omega) (j:=3) (l:=5) rfl rfl rfl ?_
  refine eZ (cK (bL [0,1,2,3,5] rfl (by decide) (cY (rm rfl (rm rfl (ro rfl (gX U_23 Z_22 (Ht rfl) (Ht rfl) rfl zo (by rw [Nat.mul_one,Nat.zero_add])) ?_))))))
  refine ro rfl (mL A_22 Z_22 (Ht rfl) (j:=3) rfl) (ro rfl (nM U_22 (Ht rfl) (i:=4) rfl (show ((List.replicate (lO a) (mB default)).length:Int) = ((lO a:Nat):Int) from by simp)) (ro rfl (cX (cJ 0)) (eZ (eK ?_))))
  refine cM (fun (j : Nat) => j ≤ lO a) (fun (j : Nat) => lO a - j) (fun (j : Nat) => [(1, bP B1 0), (4, NT .i64 (lO a)), (5, Is B15), (6, Is (.slice (some ⟨B17, 0, none⟩) (lO a) (lO a))), (7, NT .i64 i), (19, NT .i64 (lO a)), (20, NT .i64 i), (40, NT .i64 (lO a)), (41, NT .i64 j)]) (fun (j : Nat) => [Z, box B1 57 [NT .u8 a, lU zl, lU sl], bM 102 3 B15 (jR (fun i => mB (Vr (Js zl i))) (mB default) (lO a) (i + 1)), Hj B17 22 102 3 (jR (fun i => tab (lO a) fun j => mB (Ak (Js sl (lO a * i + j)))) [] (lO a) i) i B34, bM 102 3 B34 (jR (fun j => mB (Ak (Js sl (lO a * i + j)))) (mB default) (lO a) j)]) 0 (Nat.zero_le _)
   (zS rfl) (aU (fun _ _ _ h=>h) (aU (aB rfl) (aU (aR (jK (f:=(fun i=>mB (Vr (Js zl i)))))) (aU (fun _ _ _ h=>h) (aU (aR (by rw [← iI]; exact uI _ _)) aY))))) (fun j hj=>?_)
  refine ts (ro rfl (gV (Ht rfl) (Ht rfl)) (eZ (cK (dQ (Ht rfl) (fun he=>?_) (fun he=>?_)))))
  ·simp only [decide_eq_true_eq] at he
   refine cU (cK (eK (ts (rm rfl (ra rfl (eZ (fV (m:=14) (dp 6 rfl (cX (Ht rfl)) (dp 7 rfl (cX (Ht rfl)) (dS 44 0 45 1 rfl (gX U_23 Z_22 (Ht rfl) (Ht rfl) rfl zo (by rw [Nat.mul_one,Nat.zero_add])) ?_))))))))))
   refine dq 46 2 rfl (mL A_22 Z_22 (Ht rfl) (j:=3) rfl) (dp 8 rfl (cX (Ht rfl)) (dp 1 rfl (eJ Xy (Ht rfl) rfl) (dq 49 5 rfl (fQ A_22 Z_22 (Ht rfl) (i:=1) rfl rfl) (dp 4 rfl (cX (Ht rfl)) (dp 7 rfl (cX (Ht rfl)) (dS 51 7 52 8 rfl (kO (Ht rfl) (Ht rfl) (by show _ < 9223372036854775808; omega)) (dp 8 rfl (cX (Ht rfl)) (dS 53 9 54 10 rfl (dW (Ht rfl) (Ht rfl) (by show _ < 9223372036854775808; omega)) (dS 50 6 55 11 rfl (cZ Tryz.call131 Qc ⟨(Ht rfl),(Ht rfl),trivial⟩) (dq 56 12 rfl (cZ Tryz.call130 Mw ⟨(Ht rfl),trivial⟩) ?_))))))))))
   refine fG bF rfl (by kernel_rfl) (zF (zF (zF (aJ (aJ (aV (ro rfl (dE U_22 Z_102 (Ht rfl) (Ht rfl) rfl (i:=4) rfl (by rw [cO]; omega) rfl) ?_)))))))
   refine kS Z_102 (Ht rfl) (Ht rfl) (El.ag rfl) (i:=4) rfl rfl (by rw [cO]; omega) rfl ?_
   refine eZ (bH (cY (ro rfl (dW (Ht rfl) (cJ 1) z6) (rm rfl (eZ (gQ (j + 1) he zo (zS rfl) (aU (fun _ _ _ h=>h) (aU (aB rfl) (aU (fun _ _ _ h=>h) (aU (fun _ _ _ h=>h) (aU (aR (jK (f:=fun j=>mB (Ak (Js sl (lO a * i + j)))))) aY)))))))))))
  ·simp only [decide_eq_false_iff_not] at he
   have hjn:j = lO a:=Nat.le_antisymm hj zo
   rw [hjn,jJ]
   refine gK rfl (bH (kR 3 4 rfl rfl (by decide) (by rw [cO]; omega) ?_))
   refine cY (ro rfl (dW (Ht rfl) (cJ 1) z6) (rm rfl (eZ (bL [0,1,2,3] rfl (by decide) (gQ (i + 1) hd zo (zS rfl) (aU (fun _ _ _ h=>h) (aU (aB rfl) (aU (fun _ _ _ h=>h) (aU (eT (jK (f:=(fun i=>tab (lO a) fun j=>mB (Ak (Js sl (lO a * i + j))))))) aY)))))))))
 ·simp only [decide_eq_false_iff_not] at hd
  have hin:i = lO a:=Nat.le_antisymm hi zo
  rw [hin,jJ,jJ]
  refine gK rfl (gG (i:=2) (tt:=5) rfl rfl gD (ts (rm rfl (rm rfl (ra rfl (ra rfl (eZ ?_)))))))
  exact lW B17 trivial [0,3] ⟨⟨_,rfl,fun _ _ _ h=>h⟩,⟨_,rfl,fun _ _ _ h=>h⟩,trivial⟩ (by decide) (a1K rfl (fJ (eY rfl) (kB (by rw [oV,mM]))) (eY rfl))
theorem a3g {T U U':Ty} {v:Value} {V:aS} (h:(dO [T,U]).p v V) (hU:∀ u,U.p u V → U'.p u V):(dO [T,U']).p v V:=by
 obtain ⟨vs,h1,h2⟩:=h
 match vs,h2 with
 | [x,y],⟨a,b,c⟩=>exact ⟨[x,y],h1,a,hU y b,c⟩
theorem Zl {a : Nat} {zl sl : List Rt} (ha : a < 256) : bB Tryz.prog 103 [zC a zl sl] (dO [lU (oV a zl), Uq (tY a sl)]) := (Rm ha).fun fun B _ v S V h1 h2 => a3g h1 fun u hu => by
 exact kB (Rw a sl) u V (a3o (aO _ _).symm u S V hu h2)
theorem Fa {a:Nat} {zl sl:List Rt} (ha:a < 256):bB Tryz.prog 21 [zC a zl sl] (dO [bR ((oV a zl).map Rt.q) (rq (tY a sl)),sX ((oV a zl).map Rt.q) (rq (tY a sl)),aC true]):=by
 have hn:lO a ≤ 4:=by unfold lO; omega
 have herr:=Ag a zl sl
 have hzl:(oV a zl).length = lO a:=aO _ _
 have hsl:(tY a sl).length = lO a:=aO _ _
 have hall:∀ r,r ∈ tY a sl → r.length ≤ 1000:=fun r hr=>by obtain ⟨i,_,rfl⟩:=jE.1 hr; rw [aO]; omega
 have hsh:=(mK herr).2.2.1
 have z1:((oV a zl).map Rt.q).length ≤ 1000:=by rw [List.length_map,hzl]; omega
 have s1:(rq (tY a sl)).length ≤ 1000:=by rw [List.length_map,hsl]; omega
 have hcv:∀ v V,(dO [bR (iH (cD ((oV a zl).map Rt.q) (rq (tY a sl))) ((oV a zl).map Rt.q)) (iH (cD ((oV a zl).map Rt.q) (rq (tY a sl))) (rq (tY a sl))),aE .i64 (cD ((oV a zl).map Rt.q) (rq (tY a sl)))]).p v V → (dO [bR ((oV a zl).map Rt.q) (rq (tY a sl)),aE .i64 0]).p v V:=by rw [herr]; exact fun _ _ h=>h
 have hcv2:∀ v V,(dO [sX (iH (cD ((oV a zl).map Rt.q) (rq (tY a sl))) ((oV a zl).map Rt.q)) (iH (cD ((oV a zl).map Rt.q) (rq (tY a sl))) (rq (tY a sl))),aE .i64 (cD ((oV a zl).map Rt.q) (rq (tY a sl)))]).p v V → (dO [sX ((oV a zl).map Rt.q) (rq (tY a sl)),aE .i64 0]).p v V:=by rw [herr]; exact fun _ _ h=>h
 refine bB.intro Tryz.func21 rfl Tryz.ntmps21 rfl (fun cx=>(ts (rn rfl (fU (Ht rfl)) fun B1=>(rn rfl (eG (Ts:=[Is (.slice none 0 0),Is (.slice none 0 0)]) O_32 rfl (fun V=>aW zd (aW zd (aG)))) fun B2=>(rn rfl (eG (Ts:=[Is (.slice none 0 0),Is (.slice none 0 0)]) O_38 rfl (fun V=>aW zd (aW zd (aG)))) fun B3=>(ro rfl (cQ cV) (eZ (ts (ro rfl (eW A_57 Z_57 (Ht rfl) (i:=0) rfl rfl rfl) (ro rfl (cZ Tryz.call103 (Zl ha) ⟨(Ht rfl),trivial⟩) ?_))))))))))
 refine rm rfl (ro rfl (dU (Ht rfl) rfl) (ro rfl (dU (Ht rfl) rfl) (ra rfl (ra rfl (eZ (ts (rm rfl (ro rfl (cZ Tryz.call48 (wF zo) ⟨(Ht rfl),trivial⟩) (rm rfl (ro rfl (cZ Tryz.call86 (Bn zo hall) ⟨(Ht rfl),trivial⟩) (ro rfl (cZ Tryz.call85 (eX (uF (z:=((oV a zl).map Rt.q)) (s:=(rq (tY a sl))) (L:=2) cC.rt (by decide) z1 s1) hcv) ⟨(Ht rfl),(Ht rfl),trivial⟩) (rm rfl (ro rfl (dU (Ht rfl) rfl) (ro rfl (dU (Ht rfl) rfl) (rn rfl (eG (Ts:=[Is (.slice none 0 0),Is (.slice none 0 0)]) O_32 rfl (fun V=>aW zd (aW zd (aG)))) fun B7=>?_)))))))))))))))
 refine gJ Z_32 (Ht rfl) (Ht rfl) rfl (i:=3) rfl (aK rfl) rfl rfl (ra rfl (eZ (ts (rm rfl (ro rfl (cZ Tryz.call104 (yH zo) ⟨(Ht rfl),trivial⟩) (rm rfl (ro rfl (cZ Tryz.call105 (Kg zo hall) ⟨(Ht rfl),trivial⟩) (ro rfl (cZ Tryz.call90 (eX (Pk (z:=((oV a zl).map Rt.q)) (s:=(rq (tY a sl))) (L:=2) cC.rt (by decide) z1 s1) hcv2) ⟨(Ht rfl),(Ht rfl),trivial⟩) (rm rfl (ro rfl (dU (Ht rfl) rfl) (ro rfl (dU (Ht rfl) rfl) (rn rfl (eG (Ts:=[Is (.slice none 0 0),Is (.slice none 0 0)]) O_38 rfl (fun V=>aW zd (aW zd (aG)))) fun B9=>?_))))))))))))
 refine gJ Z_38 (Ht rfl) (Ht rfl) rfl (i:=4) rfl (aK rfl) rfl rfl (ra rfl (eZ (cK (Y.D_start (m:=11) [(9,1,box B2 32 [bA ((oV a zl).map Rt.q),dN (rq (tY a sl))]),(10,2,box B3 38 [Fd ((oV a zl).map Rt.q),QM (rq (tY a sl))])] (Y.D_step (Ei:=[(7,_)]) rfl rfl (bQ (bJ rfl rfl) bX) rfl rfl (by kernel_rfl) (dX rfl (eW A_32 Z_32 (Ht rfl) (i:=3) rfl rfl rfl)) (bY (Ei:=[(9,_)]) rfl rfl (bQ (bJ rfl rfl) bX) rfl rfl (dX rfl (eW A_38 Z_38 (Ht rfl) (i:=4) rfl rfl rfl)) ?_))))))
 refine Y.D_step (Ei:=[(8,_)]) rfl rfl (bQ (bJ rfl rfl) bX) rfl rfl (by kernel_rfl) (dX rfl (cX (Ht rfl))) (Y.D_step (Ei:=[(34,_)]) rfl rfl (bQ (bZ 2 rfl rfl) bX) rfl rfl (by kernel_rfl) (dX rfl (iY (Ht rfl) cV)) (Y.D_step (Ei:=[(35,_)]) rfl rfl (bQ (bZ 3 rfl rfl) bX) rfl rfl (by kernel_rfl) (dX rfl (cX (Ht rfl))) (Y.D_step (Ei:=[(7,_),(36,_)]) rfl rfl (bQ (bJ rfl rfl) (bQ (bZ 4 rfl rfl) bX)) rfl rfl (by kernel_rfl) (eU rfl rfl (Ht rfl) (fun h=>eW A_32 Z_32 (Ht rfl) (i:=3) rfl rfl rfl)) ?_)))
 refine Y.D_step (Ei:=[(9,_),(36,_)]) rfl rfl (bQ (bJ rfl rfl) (bQ (bZ 4 rfl rfl) bX)) rfl rfl (by kernel_rfl) (eU rfl rfl (Ht rfl) (fun h=>eW A_38 Z_38 (Ht rfl) (i:=4) rfl rfl rfl)) (Y.D_step (Ei:=[(37,_),(38,_),(36,_)]) rfl rfl (bQ (bZ 5 rfl rfl) (bQ (bZ 6 rfl rfl) (bQ (bZ 4 rfl rfl) bX))) rfl rfl (by kernel_rfl) (eU rfl rfl (Ht rfl) (fun h=>cZ Tryz.call70 (a2E (z:=((oV a zl).map Rt.q)) (s:=(rq (tY a sl))) (L:=2) cC.rt bT.rt (by decide) (by decide) hsh z1) ⟨(fW rfl h),(fW rfl h),trivial⟩)) ?_)
 refine bY (Ei:=[(36,_),(39,_)]) rfl rfl (bQ (bZ 4 rfl rfl) (bQ (bZ 7 rfl rfl) bX)) rfl rfl (dX rfl (eA (Ht rfl) (fun h=>(fW rfl h)))) (Y.D_putI (Ei:=[(2,_),(32,_)]) 1 rfl rfl rfl (bQ (bJ rfl rfl) (bQ (bZ 0 rfl rfl) bX)) (.head _) rfl (lP Z_32 (Ht rfl) (Ht rfl) rfl (i:=0) rfl (aK rfl) rfl rfl) (Y.D_putI (Ei:=[(3,_),(33,_)]) 2 rfl rfl rfl (bQ (bJ rfl rfl) (bQ (bZ 1 rfl rfl) bX)) (.tail _ (.head _)) rfl (lP Z_38 (Ht rfl) (Ht rfl) rfl (i:=0) rfl (aK rfl) rfl rfl) ?_))
 refine Y.D_done bF rfl (by kernel_rfl) rfl (by simp [Y.okP]) rfl rfl (bU (bU (bU (bU (bU (bU (bU (bU (bU (Y.F_putI (Y.F_putI (Y.F_nil ?_))))))))))))
 refine ra rfl (eZ (Iy rfl (fY A_32 Z_32 rfl (i:=1) rfl rfl) (fY A_38 Z_38 rfl (i:=2) rfl rfl) (fJ (eY rfl) ?_)))
 exact (eN (by simp))
end
section
open Go Go.RowKit
namespace Qi
def npow' (x : Qi) : Nat → Qi
 | 0=>Qi.ofInt 1
 | k + 1=>npow' x k * x
theorem one_mul2 (x:Qi):Qi.ofInt 1 * x = x:=ext' (by show ((1:Int):Rat) * x.re - 0 * x.im = x.re; grind) (by show ((1:Int):Rat) * x.im + 0 * x.re = x.im; grind)
theorem mul_one2 (x:Qi):x * Qi.ofInt 1 = x:=by rw [mul_comm',one_mul2]
end Qi
instance qiField:Lean.Grind.CommRing Qi where
 natCast:=⟨fun n=>Qi.ofInt n⟩
 ofNat n:=⟨Qi.ofInt n⟩
 nsmul:=⟨fun n x=>Qi.ofInt n * x⟩
 npow:=⟨Qi.npow'⟩
 add_zero:=Qi.add_zero'
 add_comm:=Qi.add_comm'
 add_assoc:=Qi.add_assoc'
 mul_assoc:=Qi.mul_assoc'
 mul_comm:=Qi.mul_comm'
 mul_one:=Qi.mul_one2
 one_mul:=Qi.one_mul2
 left_distrib:=Qi.mul_add'
 right_distrib:=Qi.add_mul'
 zero_mul:=Qi.zero_mul'
 mul_zero:=Qi.mul_zero'
 pow_zero _:=rfl
 pow_succ _ _:=rfl
 ofNat_succ n:=Qi.ext' (by show (((n + 1:Nat):Int):Rat) = ((n:Int):Rat) + ((1:Int):Rat); rw [Int.natCast_add,Rat.intCast_add]; rfl) (by show (0:Rat) = 0 + 0; grind)
 intCast:=⟨Qi.ofInt⟩
 zsmul:=⟨fun n x=>Qi.ofInt n * x⟩
 neg_add_cancel x:=Qi.ext' (by show -x.re + x.re = ((0:Int):Rat); grind) (by show -x.im + x.im = 0; grind)
 sub_eq_add_neg:=Qi.sub_def
 neg_zsmul i x:=Qi.ext' (by show ((-i:Int):Rat) * x.re - 0 * x.im = -((i:Rat) * x.re - 0 * x.im); rw [Rat.intCast_neg]; grind) (by show ((-i:Int):Rat) * x.im + 0 * x.re = -((i:Rat) * x.im + 0 * x.re); rw [Rat.intCast_neg]; grind)
 intCast_neg i:=Qi.ext' (Rat.intCast_neg i) (by show (0:Rat) = -0; grind)
theorem q0:Qi.zero = 0:=rfl
theorem q1:Qi.ofInt 1 = 1:=rfl
theorem iF {x:Qi} (h:x ≠ 0):x * Qi.inv x = 1:=by
 have hn:x.nrm ≠ 0:=fun e=>h (Qi.nrm_zero.1 e)
 have e:x.re * x.re + x.im * x.im = x.nrm:=rfl
 refine Qi.ext' ?_ ?_
 ·show x.re * (x.re / x.nrm) - x.im * (-x.im / x.nrm) = ((1 : Int) : Rat)
  grind
 ·show x.re * (-x.im / x.nrm) + x.im * (x.re / x.nrm) = 0
  grind
theorem Cr {x y:Qi} (h:y ≠ 0):x / y * y = x:=by
 rw [Qi.div_def]
 have:=iF h
 grind
theorem tM {x y z:Qi} (h:y ≠ 0) (e:x = z * y):x / y = z:=by
 have h1:=Cr (x:=x) h
 have h2:=iF h
 grind
theorem rN {x y:Qi} (h:x * y = 0):x = 0 ∨ y = 0:=by
 by_cases e:x = 0
 ·exact .inl e
 ·right; have:=iF e; grind
end
section
open Go Go.RowKit
theorem yM (m:Nat) (f:Qi) (a b:Nat → Qi):eC m (fun k=>a k - f * b k) = eC m a - f * eC m b:=by
 induction m with
 | zero=>simp only [eC,q0]; grind
 | succ m ih=>simp only [eC,ih]; grind
theorem Fj {m i:Nat} (hi:i < m) {f:Nat → Qi} (h:∀ k,k < m → k ≠ i → f k = 0):eC m f = f i:=by
 induction m with
 | zero=>omega
 | succ m ih =>
  by_cases e:i = m
  ·subst e
   have : eC i f = 0 := by
    rw [← q0,← Bt i]
    exact eP fun k hk=>h k zo zo
   simp only [eC,this]; grind
  ·have h1 := ih zo (fun k hk => h k zo)
   have h2:=h m zo zo
   simp only [eC,h1,h2]; grind
theorem sQ {m:Nat} {f:Nat → Qi} (h:∀ k,k < m → f k = 0):eC m f = 0:=by
 rw [← q0,← Bt m]; exact eP h
def Ker (M:List (List Qi)) (n m:Nat) (x:Nat → Qi):Prop:=∀ i,i < n → eC m (fun k=>gm M i k * x k) = 0
def Ge (rr rc:List Qi) (c k:Nat):List Qi:=tab rr.length fun j=>if c ≤ j ∧ j < k then gv rr j - gv rr c / gv rc c * gv rc j else gv rr j
def Aw (M:List (List Qi)) (c r:Nat):List (List Qi):=tab M.length fun i=>if i ≠ c ∧ i < r then Ge (fH M i) (fH M c) c (fH M i).length else fH M i
theorem Tp (M:List (List Qi)) (c r:Nat):(Aw M c r).length = M.length:=aO _ _
theorem Oj (rr rc:List Qi) (c k:Nat):(Ge rr rc c k).length = rr.length:=aO _ _
theorem Tt {M:List (List Qi)} {c r i:Nat} (hi:i < M.length):fH (Aw M c r) i = if i ≠ c ∧ i < r then Ge (fH M i) (fH M c) c (fH M i).length else fH M i:=by
 simp only [fH,Aw,List.getD]; rw [cE hi]; rfl
theorem Sd {M:List (List Qi)} {n m c r:Nat} (h:eR M n m):eR (Aw M c r) n m:=by
 refine ⟨(Tp _ _ _).trans h.1,fun x hx=>?_⟩
 obtain ⟨i,hi,rfl⟩:=jE.1 hx
 have hr:=h.row (i:=i) (by rw [← h.1]; exact hi)
 show (if i ≠ c ∧ i < r then Ge (fH M i) (fH M c) c (fH M i).length else fH M i).length = m
 split
 ·rw [Oj]; exact hr
 ·exact hr
theorem xR {M:List (List Qi)} {n m c i j:Nat} (h:eR M n m) (hi:i < n) (hj:j < m):gm (Aw M c n) i j = if i ≠ c ∧ c ≤ j then gm M i j - gm M i c / gm M c c * gm M c j else gm M i j:=by
 have hr:(fH M i).length = m:=h.row hi
 show gv (fH (Aw M c n) i) j = _
 rw [Tt (by rw [h.1]; exact hi)]
 by_cases e:i = c
 ·rw [if_neg (fun k=>k.1 e),if_neg (fun k=>k.1 e)]
 ·rw [if_pos ⟨e, hi⟩, Ge, pC zo]
  by_cases e2:c ≤ j
  ·rw [if_pos ⟨e2,by omega⟩,if_pos ⟨e,e2⟩]
  ·rw [if_neg (fun k=>e2 k.1),if_neg (fun k=>e2 k.2)]
theorem Jx {M:List (List Qi)} {p c i:Nat} (hp:p < M.length) (hc:c < M.length):fH (swp [] M p c) i = fH M (if i = c then p else if i = p then c else i):=by
 simp only [fH,swp,List.getD]
 by_cases e:i = c
 ·subst e; rw [List.getElem?_set_self (by simpa using hc),if_pos rfl]; rfl
 ·rw [List.getElem?_set_ne (Ne.symm e), if_neg e]
  by_cases e2:i = p
  ·subst e2; rw [List.getElem?_set_self hp,if_pos rfl]; rfl
  ·rw [List.getElem?_set_ne (Ne.symm e2),if_neg e2]
theorem Vy {M:List (List Qi)} {n m p c:Nat} {x:Nat → Qi} (hl:M.length = n) (hp:p < n) (hc:c < n):Ker (swp [] M p c) n m x ↔ Ker M n m x:=by
 have key : ∀ i, gm (swp [] M p c) i = gm M (if i = c then p else if i = p then c else i) := fun i => by
  funext j; exact congrArg (fun r=>gv r j) (Jx zo zo)
 constructor
 ·intro h i hi
  have h1:=h (if i = c then p else if i = p then c else i) (by split <;> (try split) <;> omega)
  rw [key] at h1
  have e : (if (if i = c then p else if i = p then c else i) = c then p else if (if i = c then p else if i = p then c else i) = p then c else (if i = c then p else if i = p then c else i)) = i := by
   by_cases e1:i = c
   ·subst e1; rw [if_pos rfl]
    by_cases e2:p = i
    ·rw [if_pos e2]; exact e2
    ·rw [if_neg e2,if_pos rfl]
   ·rw [if_neg e1]
    by_cases e2:i = p
    ·subst e2; rw [if_pos rfl,if_pos rfl]
    ·rw [if_neg e2,if_neg e1,if_neg e2]
  rw [e] at h1; exact h1
 ·intro h i hi
  rw [key]; exact h _ (by split <;> (try split) <;> omega)
theorem Xe {M:List (List Qi)} {n m c:Nat} {x:Nat → Qi} (hs:eR M n m) (hc:c < n) (hz:∀ j,j < c → gm M c j = 0):Ker (Aw M c n) n m x ↔ Ker M n m x:=by
 have key : ∀ i, i < n → i ≠ c → eC m (fun k => gm (Aw M c n) i k * x k) = eC m (fun k => gm M i k * x k) - gm M i c / gm M c c * eC m (fun k => gm M c k * x k) := fun i hi e => by
  rw [← yM]
  refine eP fun k hk=>?_
  rw [xR hs hi hk]
  by_cases e2:c ≤ k
  ·rw [if_pos ⟨e,e2⟩]; grind
  ·rw [if_neg (fun h=>e2 h.2),hz k zo]; grind
 have keyc:eC m (fun k=>gm (Aw M c n) c k * x k) = eC m (fun k=>gm M c k * x k):=eP fun k hk=>by rw [xR hs hc hk,if_neg (fun h=>h.1 rfl)]
 constructor
 ·intro h i hi
  have h0:=h c hc
  rw [keyc] at h0
  by_cases e:i = c
  ·rw [e]; exact h0
  ·have h1 := h i hi
   rw [key i hi e,h0] at h1
   grind
 ·intro h i hi
  have h0:=h c hc
  by_cases e:i = c
  ·rw [e,keyc]; exact h0
  ·rw [key i hi e,h0,h i hi]; grind
structure GJ (M A:List (List Qi)) (n m c:Nat):Prop where
 sh:eR A n m
 ker:∀ x,Ker A n m x ↔ Ker M n m x
 off:∀ j,j < c → ∀ i,i < n → i ≠ j → gm A i j = 0
 dg:∀ j,j < c → gm A j j ≠ 0
theorem GJ.next {M A:List (List Qi)} {n m c p:Nat} (h:GJ M A n m c) (hc:c < n) (hnm:n ≤ m) (hcp:c ≤ p) (hp:p < n) (hz:gm A p c ≠ 0):GJ M (Aw (swp [] A p c) c n) n m (c + 1):=by
 have hs:eR (swp [] A p c) n m:=xM h.sh hp hc
 have hl:=h.sh.1
 have key : ∀ i, gm (swp [] A p c) i = gm A (if i = c then p else if i = p then c else i) := fun i => by
  funext j; exact congrArg (fun r=>gv r j) (Jx zo zo)
 have hcc:gm (swp [] A p c) c c ≠ 0:=by rw [key,if_pos rfl]; exact hz
 have hoff : ∀ j, j < c → ∀ i, i < n → i ≠ j → gm (swp [] A p c) i j = 0 := fun j hj i hi hij => by
  rw [key]
  by_cases e1:i = c
  ·rw [if_pos e1]; exact h.off j hj p hp zo
  ·rw [if_neg e1]
   by_cases e2:i = p
   ·rw [if_pos e2]; exact h.off j hj c hc zo
   ·rw [if_neg e2]; exact h.off j hj i hi hij
 refine ⟨Sd hs,fun x=>(Xe hs hc (fun j hj=>hoff j hj c hc zo)).trans ((Vy hl hp hc).trans (h.ker x)),fun j hj i hi hij=>?_,fun j hj=>?_⟩
 ·rw [xR hs hi zo]
  by_cases e:j = c
  ·subst e
   rw [if_pos ⟨hij,Nat.le_refl _⟩]
   have:=Cr (x:=gm (swp [] A p j) i j) hcc
   grind
  ·rw [if_neg (fun k=>by omega)]; exact hoff j zo i hi hij
 ·rw [xR hs zo zo]
  by_cases e:j = c
  ·subst e; rw [if_neg (fun k=>k.1 rfl)]; exact hcc
  ·rw [if_neg (fun k=>by omega),key,if_neg zo,if_neg zo]; exact h.dg j zo
theorem a1S {l:List Qi} {z:Qi} {k:Nat} (h:k < l.length):gv (l ++ [z]) k = gv l k:=by
 simp only [gv,List.getD]; rw [List.getElem?_append_left h]
theorem a12 {l:List Qi} {z:Qi}:gv (l ++ [z]) l.length = z:=by
 simp [gv,List.getD]
theorem a2K {M:List (List Qi)} {b:List Qi} {n i:Nat} (h:eR M n n) (hi:i < n):(∀ k,k < n → gm (lL M [b] n) i k = gm M i k) ∧ gm (lL M [b] n) i n = gv b i:=by
 obtain ⟨r,hr⟩:∃ r,r = fH M i:=⟨_,rfl⟩
 have hl:r.length = n:=by rw [hr]; exact h.row hi
 have e : fH (lL M [b] n) i = r ++ [gv b i] := by
  rw [hr]; simp only [fH,lL,List.getD]; rw [cE hi]; rfl
 refine ⟨fun k hk=>?_,?_⟩
 ·show gv (fH (lL M [b] n) i) k = gv (fH M i) k
  rw [e,← hr,a1S zo]
 ·show gv (fH (lL M [b] n) i) n = gv b i
  rw [e,← hl,a12]
theorem Ke {M:List (List Qi)} {b:List Qi} {n i:Nat} (h:eR M n n) (hi:i < n) (x:Nat → Qi):eC (n + 1) (fun k=>gm (lL M [b] n) i k * x k) = eC n (fun k=>gm M i k * x k) + gv b i * x n:=by
 obtain ⟨h1,h2⟩:=a2K (b:=b) h hi
 simp only [eC,h2]
 rw [eP (fun k hk=>by rw [h1 k hk])]
end
section
open Go Go.RowKit
def a1n (a b:List (List Qi)) (x y i:Nat):List Qi:=tab (x + y) fun j=>if i < x then (if j < x then gm a i j else Qi.zero) else (if x ≤ j then gm b (i - x) (j - x) else Qi.zero)
def zM (a b:List (List Qi)) (x y:Nat):List (List Qi):=tab (x + y) (a1n a b x y)
theorem yO (a b:List (List Qi)) (x y:Nat):eR (zM a b x y) (x + y) (x + y):=⟨aO _ _,fun r hr=>by obtain ⟨i,_,rfl⟩:=jE.1 hr; exact aO _ _⟩
theorem Qr {a b : List (List Qi)} {x y L : Nat} (ha : bT a L) (hb : bT b L) (hL : 1 ≤ L) : bT (zM a b x y) L := fun r hr => by
 obtain ⟨i,_,rfl⟩:=jE.1 hr
 refine cC.tab fun j _=>?_
 split
 ·split
  ·exact ha.get hL _ _
  ·exact aN.zero hL
 ·split
  ·exact hb.get hL _ _
  ·exact aN.zero hL
theorem oT {a b:List (List Qi)} {x y i j:Nat} (hi:i < x + y) (hj:j < x + y):gm (zM a b x y) i j = if i < x then (if j < x then gm a i j else Qi.zero) else (if x ≤ j then gm b (i - x) (j - x) else Qi.zero):=by
 have e:(zM a b x y).getD i [] = a1n a b x y i:=by rw [zM,List.getD,cE hi]; rfl
 show gv ((zM a b x y).getD i []) j = _
 rw [e,a1n,pC hj]
end
section
open Go Go.RowKit
abbrev pA (ps:List (Nat × Nat)) (k:Nat):Nat:=(ps.getD k (0,0)).1
abbrev pB (ps:List (Nat × Nat)) (k:Nat):Nat:=(ps.getD k (0,0)).2
end
section
open Go Go.RowKit
theorem tC {l:List Qi} {t k:Nat} {v:Qi} (ht:t < l.length):gv (l.set t v) k = if k = t then v else gv l k:=by
 simp only [gv,List.getD]
 by_cases e:k = t
 ·subst e; rw [if_pos rfl,List.getElem?_set_self ht]; rfl
 ·rw [if_neg e,List.getElem?_set_ne (Ne.symm e)]
end
section
open Go Go.RowKit
def tV (A:List (List Qi)) (c i j:Nat):Qi:=if j < c ∧ j < i then 0 else gm A i j
def Av (F:Nat → Nat → Qi) (n m:Nat) (x:Nat → Qi):Prop:=∀ i,i < n → eC m (fun k=>F i k * x k) = 0
theorem yU {F G:Nat → Nat → Qi} {n m:Nat} {x:Nat → Qi} (h:∀ i,i < n → ∀ j,j < m → F i j = G i j):Av F n m x ↔ Av G n m x:=by
 have e:∀ i,i < n → eC m (fun k=>F i k * x k) = eC m (fun k=>G i k * x k):=fun i hi=>eP fun k hk=>by rw [h i hi k hk]
 exact ⟨fun k i hi=>by rw [← e i hi]; exact k i hi,fun k i hi=>by rw [e i hi]; exact k i hi⟩
def Uh (p c i:Nat):Nat:=if i = c then p else if i = p then c else i
theorem Ro {p c i n:Nat} (hp:p < n) (hc:c < n) (hi:i < n):Uh p c i < n:=by unfold Uh; split <;> (try split) <;> omega
theorem Wm (p c i:Nat):Uh p c (Uh p c i) = i:=by
 unfold Uh
 by_cases e1:i = c
 ·subst e1
  rw [if_pos rfl]
  by_cases e2:p = i
  ·rw [if_pos e2]; exact e2
  ·rw [if_neg e2,if_pos rfl]
 ·rw [if_neg e1]
  by_cases e2:i = p
  ·subst e2; rw [if_pos rfl,if_pos rfl]
  ·rw [if_neg e2,if_neg e1,if_neg e2]
theorem Pw {F : Nat → Nat → Qi} {n m p c : Nat} {x : Nat → Qi} (hp : p < n) (hc : c < n) : Av (fun i => F (Uh p c i)) n m x ↔ Av F n m x :=
 ⟨fun h i hi=>by have:=h _ (Ro hp hc hi); simp only [Wm] at this; exact this,fun h i hi=>h _ (Ro hp hc hi)⟩
theorem Ub {F G:Nat → Nat → Qi} {n m c:Nat} {x f:Nat → Qi} (hc:c < n) (hG:∀ i,i < n → ∀ j,j < m → G i j = if c < i then F i j - f i * F c j else F i j):Av G n m x ↔ Av F n m x:=by
 have key : ∀ i, i < n → eC m (fun k => G i k * x k) = if c < i then eC m (fun k => F i k * x k) - f i * eC m (fun k => F c k * x k) else eC m (fun k => F i k * x k) := fun i hi => by
  by_cases e:c < i
  ·rw [if_pos e, ← yM]
   exact eP fun k hk=>by rw [hG i hi k hk,if_pos e]; grind
  ·rw [if_neg e]
   exact eP fun k hk=>by rw [hG i hi k hk,if_neg e]
 have kc:=key c hc
 rw [if_neg zo] at kc
 constructor
 ·intro h i hi
  have h0:=h c hc
  rw [kc] at h0
  have h1:=h i hi
  rw [key i hi] at h1
  by_cases e:c < i
  ·rw [if_pos e,h0] at h1; grind
  ·rw [if_neg e] at h1; exact h1
 ·intro h i hi
  rw [key i hi]
  by_cases e:c < i
  ·rw [if_pos e,h i hi,h c hc]; grind
  ·rw [if_neg e]; exact h i hi
theorem Xm {M:List (List Qi)} {n m c i j:Nat} (h:eR M n m) (hi:i < n) (hj:j < m):gm (mA M c n) i j = if c < i ∧ c < j then gm M i j - gm M i c / gm M c c * gm M c j else gm M i j:=by
 have hr:(fH M i).length = m:=h.row hi
 have e0 : fH (mA M c n) i = if c < i ∧ i < n then kV (fH M i) (fH M c) c (fH M i).length else fH M i := by
  simp only [fH,mA,List.getD]; rw [cE (by rw [h.1]; exact hi)]; rfl
 show gv (fH (mA M c n) i) j = _
 rw [e0]
 by_cases e:c < i
 ·rw [if_pos ⟨e, hi⟩, kV, pC zo]
  by_cases e2:c < j
  ·rw [if_pos ⟨e2,by omega⟩,if_pos ⟨e,e2⟩]
  ·rw [if_neg (fun k=>e2 k.1),if_neg (fun k=>e2 k.2)]
 ·rw [if_neg (fun k=>e k.1),if_neg (fun k=>e k.1)]
theorem a07 {A:List (List Qi)} {p c i j:Nat} (hc:c < A.length) (hp:p < A.length) (hcp:c ≤ p):tV (swp [] A p c) c i j = tV A c (Uh p c i) j:=by
 have key:gm (swp [] A p c) i j = gm A (Uh p c i) j:=congrArg (fun r=>gv r j) (Jx zo zo)
 unfold tV
 rw [key]
 have e:(j < c ∧ j < i) ↔ (j < c ∧ j < Uh p c i):=by unfold Uh; split <;> (try split) <;> omega
 by_cases h:j < c ∧ j < i
 ·rw [if_pos h,if_pos (e.1 h)]
 ·rw [if_neg h,if_neg (fun k=>h (e.2 k))]
structure EL (M A:List (List Qi)) (n m c:Nat):Prop where
 sh:eR A n m
 ker:∀ x,Av (tV A c) n m x ↔ Av (gm M) n m x
theorem EL.next {M A:List (List Qi)} {n m c p:Nat} (h:EL M A n m c) (hc:c < n) (hcm:c < m) (hcp:c ≤ p) (hp:p < n) (hz:gm A p c ≠ 0):EL M (mA (if p = c then A else swp [] A p c) c n) n m (c + 1):=by
 have hl:=h.sh.1
 obtain ⟨B,hB⟩:∃ B,B = if p = c then A else swp [] A p c:=⟨_,rfl⟩
 have hs : eR B n m := by
  rw [hB]; split
  ·exact h.sh
  ·exact xM h.sh hp hc
 have hBk : ∀ x, Av (tV B c) n m x ↔ Av (gm M) n m x := fun x => by
  rw [hB]; split
  ·exact h.ker x
  ·exact (yU (G:=fun i=>tV A c (Uh p c i)) fun i hi j hj=>a07 zo zo hcp).trans ((Pw hp hc).trans (h.ker x))
 have hBz : gm B c c ≠ 0 := by
  rw [hB]; split
  ·rename_i e; rw [← e] at hz ⊢; exact hz
  ·show gv (fH (swp [] A p c) c) c ≠ 0
   rw [Eg zo]; exact hz
 rw [← hB]
 refine ⟨Fg hs,fun x=>(Ub (f:=fun i=>gm B i c / gm B c c) hc fun i hi j hj=>?_).trans (hBk x)⟩
 have hd:=Cr (x:=gm B i c) hBz
 unfold tV
 rw [Xm hs hi hj]
 by_cases e:c < i
 ·rw [if_pos e]
  by_cases e1:j < c
  ·rw [if_pos zo,if_pos zo,if_pos zo]; grind
  ·by_cases e2 : j = c
   ·subst e2
    rw [if_pos zo,if_neg zo,if_neg zo]; grind
   ·rw [if_neg zo,if_pos zo,if_neg zo,if_neg zo]
 ·rw [if_neg e, if_neg (show ¬ (c < i ∧ c < j) from fun k => e k.1)]
  by_cases e1:j < i
  ·rw [if_pos (show j < c + 1 ∧ j < i by omega),if_pos (show j < c ∧ j < i by omega)]
  ·rw [if_neg (show ¬ (j < c + 1 ∧ j < i) by omega),if_neg (show ¬ (j < c ∧ j < i) by omega)]
theorem De {M : List (List Qi)} {n m : Nat} (hs : eR M n m) (hnm : n ≤ m) : ∀ {c : Nat}, c ≤ n → (cF M c).2.2 < 0 → EL M (cF M c).1 n m c
 | 0,_,_=>⟨hs,fun x=>yU fun i _ j _=>by unfold tV; rw [if_neg zo]; rfl⟩
 | c + 1, hc, h => by
  obtain ⟨i1,i2,i3,i4⟩:=qF (M:=(cF M c).1) (c:=c) (n:=M.length) (by rw [hs.1]; omega)
  simp only [cF] at h ⊢
  by_cases e:0 ≤ (cF M c).2.2
  ·rw [if_pos e] at h; omega
  ·rw [if_neg e] at h ⊢
   have ih:=De hs hnm (c:=c) zo zo
   by_cases e2:pv (cF M c).1 c M.length = M.length
   ·rw [if_pos e2] at h; simp only at h; omega
   ·rw [if_neg e2]
    rw [hs.1] at i3 i4 e2 ⊢
    exact ih.next zo zo (by rw [hs.1] at i2; exact i2) zo (i4 zo)
theorem Bl {M : List (List Qi)} : ∀ {n : Nat}, 0 ≤ (cF M n).2.2 → ∃ c, c < n ∧ (cF M c).2.2 < 0 ∧ pv (cF M c).1 c M.length = M.length
 | 0,h=>absurd h (by show ¬ (0:Int) ≤ -1; omega)
 | c + 1, h => by
  by_cases e:0 ≤ (cF M c).2.2
  ·obtain ⟨d, h1, h2⟩ := Bl e
   exact ⟨d,by omega,h2⟩
  ·simp only [cF] at h
   rw [if_neg e] at h
   by_cases e2:pv (cF M c).1 c M.length = M.length
   ·exact ⟨c,by omega,by omega,e2⟩
   ·rw [if_neg e2] at h; simp only at h; omega
theorem tE {U : List (List Qi)} {x y : List Qi} {n c : Nat} : ∀ {K : Nat}, (∀ k, k < K → gv x (c + 1 + k) = gv y (c + 1 + k)) → nD U x n c K = nD U y n c K
 | 0,_=>rfl
 | K + 1,h=>by rw [nD,nD,tE (fun k hk=>h k zo),h K zo]
theorem Gb (U : List (List Qi)) (x : List Qi) (n c : Nat) : ∀ K, nD U x n c K = gm U c n - eC K (fun k => gm U c (c + 1 + k) * gv x (c + 1 + k))
 | 0=>by simp only [nD,eC,q0]; grind
 | K + 1=>by simp only [nD,eC,Gb U x n c K]; grind
theorem Tl {U : List (List Qi)} {n : Nat} : ∀ {j : Nat}, j ≤ n → ∀ c, n - j ≤ c → c < n → gv (oP U n j) c = nD U (oP U n j) n c (n - 1 - c) / gm U c c
 | 0,_,c,h1,h2=>by omega
 | j + 1, hj, c, h1, h2 => by
  have hl:=uJ U n j
  rw [oP]
  by_cases e:c = n - (j + 1)
  ·subst e
   rw [tC zo,if_pos rfl,show n - 1 - (n - (j + 1)) = j by omega]
   rw [tE (x:=(oP U n j).set _ _) (y:=oP U n j) fun k hk=>by rw [tC zo,if_neg zo]]
  ·rw [tC zo, if_neg e, Tl (j := j) zo c zo h2]
   rw [tE (x:=(oP U n j).set _ _) (y:=oP U n j) fun k hk=>by rw [tC zo,if_neg zo]]
theorem uV (a : Nat) (f : Nat → Qi) : ∀ b, eC (a + b) f = eC a f + eC b fun k => f (a + k)
 | 0=>by simp only [eC,q0,Nat.add_zero]; grind
 | b + 1=>by rw [← Nat.add_assoc]; simp only [eC,uV a f b]; grind
theorem Mr {U:List (List Qi)} {n i:Nat} (hi:i < n) (y:Nat → Qi):eC n (fun k=>tV U n i k * y k) = gm U i i * y i + eC (n - 1 - i) fun k=>gm U i (i + 1 + k) * y (i + 1 + k):=by
 have e:n = i + 1 + (n - 1 - i):=by omega
 have h1:eC i (fun k=>tV U n i k * y k) = 0:=sQ fun k hk=>by unfold tV; rw [if_pos zo]; grind
 have h2:tV U n i i = gm U i i:=by unfold tV; rw [if_neg zo]
 have h3:eC (n - 1 - i) (fun k=>tV U n i (i + 1 + k) * y (i + 1 + k)) = eC (n - 1 - i) fun k=>gm U i (i + 1 + k) * y (i + 1 + k):=eP fun k hk=>by unfold tV; rw [if_neg zo]
 have h4:=uV (i + 1) (fun k=>tV U n i k * y k) (n - 1 - i)
 rw [← e] at h4
 rw [h4,h3]
 simp only [eC,h1,h2]; grind
theorem Lb {U:List (List Qi)} {n i:Nat} (hd:∀ j,j < n → gm U j j ≠ 0) (hi:i < n):eC n (fun k=>tV U n i k * gv (oP U n n) k) = gm U i n:=by
 rw [Mr hi,Tl (Nat.le_refl n) i zo hi,Gb]
 have:=Cr (x:=gm U i n - eC (n - 1 - i) (fun k=>gm U i (i + 1 + k) * gv (oP U n n) (i + 1 + k))) (hd i hi)
 grind
theorem Gu {U : List (List Qi)} {n : Nat} (hd : ∀ j, j < n → gm U j j ≠ 0) {y : Nat → Qi} (h : ∀ i, i < n → eC n (fun k => tV U n i k * y k) = 0) : ∀ t k, n - t ≤ k → k < n → y k = 0
 | 0,k,h1,h2=>by omega
 | t + 1, k, h1, h2 => by
  have h3:=h k h2
  rw [Mr h2,sQ (fun j hj=>by rw [Gu hd h t (k + 1 + j) zo zo]; grind)] at h3
  rcases rN (x:=gm U k k) (y:=y k) (by grind) with h4 | h4
  ·exact absurd h4 (hd k h2)
  ·exact h4
theorem Gm {M:List (List Qi)} {b:List Qi} {n:Nat} (h:eR M n n) (hE:lZ M b n = 0):(∀ i,i < n → eC n (fun k=>gm M i k * gv (mC M b n) k) = gv b i) ∧ ∀ y:Nat → Qi,(∀ i,i < n → eC n (fun k=>gm M i k * y k) = 0) → ∀ k,k < n → y k = 0:=by
 have hcs:eR (lL M [b] n) n (n + 1):=nW h
 have hst : (sR M b n).2.2 < 0 := by
  unfold lZ at hE
  by_cases e:0 ≤ (sR M b n).2.2
  ·rw [if_pos e] at hE; omega
  ·omega
 have hg:=De hcs (Nat.le_succ n) (Nat.le_refl n) hst
 have hd:=pI hcs (Nat.le_refl n) hst
 obtain ⟨U,hU⟩:∃ U,U = (sR M b n).1:=⟨_,rfl⟩
 have hX:mC M b n = oP U n n:=by rw [hU]; rfl
 have hU2:(cF (lL M [b] n) n).1 = U:=hU.symm
 rw [hU2] at hg hd
 rw [hX]
 refine ⟨fun i hi=>?_,fun y hy k hk=>?_⟩
 ·have h1 := (hg.ker fun k => if k < n then gv (oP U n n) k else -1).1 (fun i hi => by
   simp only [eC]
   rw [eP (g:=fun k=>tV U n i k * gv (oP U n n) k) (fun k hk=>by rw [if_pos hk]),Lb hd hi,if_neg zo,show tV U n i n = gm U i n by unfold tV; rw [if_neg zo]]
   grind) i hi
  rw [Ke h hi,eP (g:=fun k=>gm M i k * gv (oP U n n) k) (fun k hk=>by rw [if_pos hk]),if_neg zo] at h1
  grind
 ·have h1 := (hg.ker fun k => if k < n then y k else 0).2 (fun i hi => by
   rw [Ke h hi,eP (g:=fun k=>gm M i k * y k) (fun k hk=>by rw [if_pos hk]),if_neg zo,hy i hi]; grind)
  refine Gu (y:=y) hd (fun i hi=>?_) n k zo hk
  have h2:=h1 i hi
  simp only [eC] at h2
  rw [eP (g:=fun k=>tV U n i k * y k) (fun k hk=>by rw [if_pos hk]),if_neg zo] at h2
  grind
theorem Qj {M:List (List Qi)} {b:List Qi} {n:Nat} (h:eR M n n) (hE:lZ M b n ≠ 0):∃ y:Nat → Qi,(∀ i,i < n → eC n (fun k=>gm M i k * y k) = 0) ∧ ∃ k,k < n ∧ y k ≠ 0:=by
 have hcs:eR (lL M [b] n) n (n + 1):=nW h
 have hst : 0 ≤ (sR M b n).2.2 := by
  unfold lZ at hE
  by_cases e:0 ≤ (sR M b n).2.2
  ·exact e
  ·rw [if_neg e] at hE; exact absurd rfl hE
 obtain ⟨c,hc,hA,hp⟩:=Bl hst
 have hg:=De hcs (Nat.le_succ n) zo hA
 have hd:=pI hcs zo hA
 obtain ⟨U,hU⟩:∃ U,U = (cF (lL M [b] n) c).1:=⟨_,rfl⟩
 rw [← hU] at hg hd hp
 rw [hcs.1] at hp
 have hz:=(qF (M:=U) (c:=c) (n:=n) zo).1
 rw [hp] at hz
 have key := (hg.ker fun k => if k < c then gv (oP U c c) k else if k = c then -1 else 0).1 (fun i hi => by
  have e:n + 1 = c + (1 + (n - c)):=by omega
  rw [e,uV,uV]
  have z3:eC (n - c) (fun k=>tV U c i (c + (1 + k)) * (if c + (1 + k) < c then gv (oP U c c) (c + (1 + k)) else if c + (1 + k) = c then -1 else 0)) = 0:=sQ fun k hk=>by rw [if_neg zo,if_neg zo]; grind
  have z2 : eC 1 (fun k => tV U c i (c + k) * (if c + k < c then gv (oP U c c) (c + k) else if c + k = c then -1 else 0)) = tV U c i c * -1 := by
   rw [Qd,if_neg zo,if_pos zo]; rfl
  have z1:eC c (fun k=>tV U c i k * (if k < c then gv (oP U c c) k else if k = c then -1 else 0)) = eC c (fun k=>tV U c i k * gv (oP U c c) k):=eP fun k hk=>by rw [if_pos hk]
  rw [z1,z2,z3]
  have zc:tV U c i c = gm U i c:=by unfold tV; rw [if_neg zo]
  rw [zc]
  by_cases e2:i < c
  ·rw [Lb hd e2]; grind
  ·rw [hz i zo hi,sQ (fun k hk=>by unfold tV; rw [if_pos zo]; grind),q0]; grind)
 refine ⟨fun k=>if k < c then gv (oP U c c) k else if k = c then -1 else 0,fun i hi=>?_,c,hc,?_⟩
 ·have h1 := key i hi
  rw [Ke h hi,if_neg zo,if_neg zo] at h1
  grind
 ·show (if c < c then gv (oP U c c) c else if c = c then (-1 : Qi) else 0) ≠ 0
  rw [if_neg zo,if_pos rfl]
  intro e
  exact absurd (congrArg Qi.re e) (by decide)
end
section
open Go Go.RowKit
def gq (ps:List (Nat × Nat)) (x:Nat):Nat:=if x % 2 = 0 then pA ps (x / 2) else pB ps (x / 2)
def qT (x:Nat):Nat:=if x % 2 = 0 then x + 1 else x - 1
theorem Kl {x k:Nat} (h:x < 2 * k):qT x < 2 * k:=by unfold qT; split <;> omega
structure Jn (ps:List (Nat × Nat)) (n K:Nat):Prop where
 lt:∀ x,x < 2 * K → gq ps x < n
 inj:∀ x y,x < 2 * K → y < 2 * K → gq ps x = gq ps y → x = y
theorem Jn.le {ps:List (Nat × Nat)} {n K k:Nat} (h:Jn ps n K) (hk:k ≤ K):Jn ps n k:=⟨fun x hx=>h.lt x zo,fun x y hx hy=>h.inj x y zo zo⟩
def sS (S:List (List Qi)) (ps:List (Nat × Nat)) (m:Nat):List (List Qi):=tab m fun x=>tab m fun y=>(if x = y then Qi.ofInt 1 else Qi.ofInt 0) - gm S (gq ps (qT x)) (gq ps y)
def yS (S:List (List Qi)) (ps:List (Nat × Nat)) (m b:Nat):List Qi:=tab m fun x=>gm S (gq ps (qT x)) b
theorem xY (S:List (List Qi)) (ps:List (Nat × Nat)) (m:Nat):eR (sS S ps m) m m:=eR.tab
theorem Lu {S:List (List Qi)} {ps:List (Nat × Nat)} {m x:Nat} (hx:x < m) (v:Nat → Qi):eC m (fun y=>gm (sS S ps m) x y * v y) = v x - eC m fun y=>gm S (gq ps (qT x)) (gq ps y) * v y:=by
 have e : ∀ y, y < m → gm (sS S ps m) x y * v y = (if y = x then v x else 0) - 1 * (gm S (gq ps (qT x)) (gq ps y) * v y) := fun y hy => by
  have : gm (sS S ps m) x y = (if x = y then Qi.ofInt 1 else Qi.ofInt 0) - gm S (gq ps (qT x)) (gq ps y) := by
   show gv ((sS S ps m).getD x []) y = _
   rw [sS,pO hx,pC hy]
  rw [this]
  by_cases c:y = x
  ·subst c; rw [if_pos rfl,if_pos rfl,q1]; grind
  ·rw [if_neg c,if_neg (Ne.symm c),show Qi.ofInt 0 = (0:Qi) from rfl]; grind
 rw [eP e,yM,Fj hx (fun k _ hk=>if_neg hk),if_pos rfl]; grind
theorem Vi {S:List (List Qi)} {ps:List (Nat × Nat)} {m b x:Nat} (hx:x < m):gv (yS S ps m b) x = gm S (gq ps (qT x)) b:=pC hx
def Bu (S:List (List Qi)) (ps:List (Nat × Nat)) (m a b:Nat):Qi:=gm S a b + eC m fun y=>gm S a (gq ps y) * gv (mC (sS S ps m) (yS S ps m b) m) y
end
section
open Go Go.RowKit
def Ve (x y:Nat):Int:=if 8 < x + y then 4 else 0
def Wb (z zb:List Qi):List Qi:=iH (Ve z.length zb.length) (z ++ zb)
def Zo (z zb:List Qi) (a b:List (List Qi)):List (List Qi):=iH (Ve z.length zb.length) (zM a b z.length zb.length)
theorem Zp {x y:Nat} (h:8 < x + y):Ve x y = 4:=if_pos h
theorem Ss {x y:Nat} (h:¬ 8 < x + y):Ve x y = 0:=if_neg h
theorem Qw {z zb:List Qi} {L:Nat} (hz:cC z L) (hb:cC zb L):cC (z ++ zb) L:=fun x hx=>(List.mem_append.1 hx).elim (hz x) (hb x)
def dP (n:Nat) (p:Int) (o:List Int):Int:=if ¬ (1 ≤ p ∧ p ≤ n) then 1 else if (o.any fun x=>decide (p = x)) = true then 8 else 0
def sT (n:Nat) (l:List Int):Int:=jL (fun i=>dP n (l.getD i 0) (l.take i)) l.length
def uN (l:List Int):List Nat:=l.map fun p=>(p - 1).toNat
theorem Gp (l:List Int):(uN l).length = l.length:=by rw [uN,List.length_map]
theorem uY {n:Nat} {p:Int} {o:List Int} (h:dP n p o = 0):1 ≤ p ∧ p ≤ n:=by
 unfold dP at h
 split at h
 ·omega
 ·rename_i c; exact Decidable.not_not.1 c
theorem Ju {n : Nat} {l : List Int} (h : sT n l = 0) : ∀ x, x ∈ l → 1 ≤ x ∧ x ≤ n := fun x hx => by
 obtain ⟨i,hi,e⟩:=List.getElem_of_mem hx
 have:=uY (jC h i hi)
 rw [show l.getD i 0 = x by rw [List.getD,List.getElem?_eq_getElem hi,e]; rfl] at this
 exact this
theorem a0J {n : Nat} {l : List Int} (h : sT n l = 0) : ∀ x, x ∈ uN l → x < n := fun x hx => by
 obtain ⟨p,hp,rfl⟩:=List.mem_map.1 hx
 have:=Ju h p hp; omega
theorem Hh {n:Nat} {l:List Int} (h:sT n l = 0):l.map (aE .i64) = ((uN l).map Nat.succ).map (NT .i64):=by
 rw [uN,List.map_map,List.map_map]
 refine List.map_congr_left fun p hp=>?_
 have:=Ju h p hp
 show aE .i64 p = aE .i64 (((p - 1).toNat + 1:Nat):Int)
 congr 1; omega
def Hz (n:Nat) (l:List Int):Int:=if l.length ≠ n then 4 else sT n l
def Qg (z:List Qi) (l:List Int):List Qi:=iH (Hz z.length l) (nN z (uN l))
def Vo (z:List Qi) (s:List (List Qi)) (l:List Int):List (List Qi):=iH (Hz z.length l) (tO s (uN l))
theorem Qv {n:Nat} {l:List Int} (h:l.length ≠ n):Hz n l = 4:=if_pos h
theorem Tg {n:Nat} {l:List Int} (h:l.length = n):Hz n l = sT n l:=if_neg (fun k=>k h)
theorem Vh (z:List Qi) (Q:List Nat):(nN z Q).length = Q.length:=aO _ _
theorem Rb (s:List (List Qi)) (Q:List Nat):eR (tO s Q) Q.length Q.length:=eR.tab
end
section
open Go Go.RowKit
def nS (js:List (Int × Int)):List Int:=js.flatMap fun q=>[q.1,q.2]
def iW (js:List (Int × Int)):List (Nat × Nat):=js.map fun q=>((q.1 - 1).toNat,(q.2 - 1).toNat)
abbrev lY (js:List (Int × Int)) (k:Nat):Int × Int:=js.getD k (0,0)
theorem Xa (a b:List (Int × Int)):nS (a ++ b) = nS a ++ nS b:=by simp [nS]
theorem Fw {js:List (Int × Int)} {k:Nat} (h:k < js.length):nS (js.take (k + 1)) = nS (js.take k) ++ [(lY js k).1,(lY js k).2]:=by
 rw [List.take_succ_eq_append_getElem h,Xa]
 simp [nS,lY,List.getD,h]
theorem qO : ∀ (js : List (Int × Int)), (nS js).length = 2 * js.length
 | []=>rfl
 | q :: r => by
  have:=qO r
  have e:nS (q :: r) = q.1 :: q.2 :: nS r:=rfl
  rw [e,List.length_cons,List.length_cons,List.length_cons,this]; omega
theorem Mg : ∀ (js : List (Int × Int)) {x : Nat}, x < 2 * js.length → (nS js).getD x 0 = if x % 2 = 0 then (lY js (x / 2)).1 else (lY js (x / 2)).2
 | [],x,h=>by simp at h
 | q :: r,0,_=>rfl
 | q :: r,1,_=>rfl
 | q :: r, x + 2, h => by
  have ih:=Mg r (x:=x) (by simp only [List.length_cons] at h; omega)
  have e:nS (q :: r) = q.1 :: q.2 :: nS r:=rfl
  rw [e]
  show (nS r).getD x 0 = _
  rw [ih,show (x + 2) % 2 = x % 2 by omega,show (x + 2) / 2 = x / 2 + 1 by omega]
  rfl
theorem Se {js:List (Int × Int)} {k:Nat} (h:k < js.length):pA (iW js) k = ((lY js k).1 - 1).toNat ∧ pB (iW js) k = ((lY js k).2 - 1).toNat:=by
 simp [pA,pB,iW,lY,List.getD,h]
theorem jgq {js:List (Int × Int)} {x:Nat} (h:x < 2 * js.length):gq (iW js) x = ((nS js).getD x 0 - 1).toNat:=by
 have h2:x / 2 < js.length:=by omega
 rw [Mg js h,gq,(Se h2).1,(Se h2).2]
 split <;> rfl
theorem Fo {n:Nat} {A:List Int} (h:sT n A = 0) (a:Int):sT n (A ++ [a]) = dP n a A:=by
 rw [sT,List.length_append,List.length_singleton]
 have e : jL (fun i => dP n ((A ++ [a]).getD i 0) ((A ++ [a]).take i)) A.length = 0 := iP fun i hi => by
  have:=jC h i hi
  rw [List.take_append_of_le_length zo]
  have e2:(A ++ [a]).getD i 0 = A.getD i 0:=by simp [List.getD,List.getElem?_append_left hi]
  rw [e2]; exact this
 rw [jL,e,if_neg (by simp),List.take_append_of_le_length (Nat.le_refl _),List.take_length]
 congr 1
 simp [List.getD]
theorem Oi {n:Nat} {A:List Int} (h:sT n A = 0) (a b:Int):sT n (A ++ [a,b]) = if dP n a A ≠ 0 then dP n a A else dP n b (A ++ [a]):=by
 have e:A ++ [a,b] = (A ++ [a]) ++ [b]:=by simp
 by_cases c:dP n a A = 0
 ·rw [if_neg (fun k=>k c),e,Fo (by rw [Fo h]; exact c)]
 ·rw [if_pos c]
  have h1 : jL (fun i => dP n ((A ++ [a, b]).getD i 0) ((A ++ [a, b]).take i)) A.length = 0 := iP fun i hi => by
   have:=jC h i hi
   rw [List.take_append_of_le_length zo]
   have e2:(A ++ [a,b]).getD i 0 = A.getD i 0:=by simp [List.getD,List.getElem?_append_left hi]
   rw [e2]; exact this
  have h2 : dP n ((A ++ [a, b]).getD A.length 0) ((A ++ [a, b]).take A.length) = dP n a A := by
   rw [List.take_append_of_le_length (Nat.le_refl _),List.take_length]
   congr 1
   simp [List.getD]
  rw [sT,pR (k:=A.length) (fun i hi=>jC h1 i hi) (by rw [h2]; exact c) (by simp)]
  exact h2
def uP (z : List Qi) (js : List (Int × Int)) (k : Nat) : Int :=
 if dP z.length (lY js k).1 (nS (js.take k)) ≠ 0 then dP z.length (lY js k).1 (nS (js.take k))
 else if dP z.length (lY js k).2 (nS (js.take k) ++ [(lY js k).1]) ≠ 0 then dP z.length (lY js k).2 (nS (js.take k) ++ [(lY js k).1])
 else if gv z ((lY js k).1 - 1).toNat = gv z ((lY js k).2 - 1).toNat then 0 else 40
def Ax (z:List Qi) (js:List (Int × Int)):Int:=jL (uP z js) js.length
theorem Uj {z:List Qi} {js:List (Int × Int)} {k:Nat} (h:uP z js k = 0):dP z.length (lY js k).1 (nS (js.take k)) = 0 ∧ dP z.length (lY js k).2 (nS (js.take k) ++ [(lY js k).1]) = 0 ∧ gv z ((lY js k).1 - 1).toNat = gv z ((lY js k).2 - 1).toNat:=by
 unfold uP at h
 by_cases c1:dP z.length (lY js k).1 (nS (js.take k)) = 0
 ·rw [if_neg (fun k => k c1)] at h
  by_cases c2:dP z.length (lY js k).2 (nS (js.take k) ++ [(lY js k).1]) = 0
  ·rw [if_neg (fun k => k c2)] at h
   by_cases c3:gv z ((lY js k).1 - 1).toNat = gv z ((lY js k).2 - 1).toNat
   ·exact ⟨c1,c2,c3⟩
   ·rw [if_neg c3] at h; omega
  ·rw [if_pos c2] at h; exact absurd h c2
 ·rw [if_pos c1] at h; exact absurd h c1
theorem jpr {z : List Qi} {js : List (Int × Int)} : ∀ {k : Nat}, k ≤ js.length → (∀ j, j < k → uP z js j = 0) → sT z.length (nS (js.take k)) = 0
 | 0,_,_=>rfl
 | k + 1, hk, h => by
  have ih:=jpr (z:=z) (js:=js) (k:=k) zo fun j hj=>h j zo
  obtain ⟨h1,h2,_⟩:=Uj (h k zo)
  rw [Fw zo,Oi ih,if_neg (fun k=>k h1)]; exact h2
theorem Sc {z:List Qi} {js:List (Int × Int)} (h:Ax z js = 0):sT z.length (nS js) = 0:=by
 have:=jpr (z:=z) (Nat.le_refl js.length) (jC h)
 rwa [List.take_length] at this
theorem Pd {n : Nat} {p : Int} {o : List Int} (h : dP n p o = 0) : p ∉ o := fun hm => by
 have h1:=uY h
 unfold dP at h
 rw [if_neg (fun k=>k h1),if_pos (List.any_eq_true.2 ⟨p,hm,by simp⟩)] at h
 omega
theorem Wg {n:Nat} {l:List Int} (h:sT n l = 0) {x y:Nat} (hx:x < l.length) (hy:y < l.length) (e:l.getD x 0 = l.getD y 0):x = y:=by
 have key : ∀ x y, x < y → y < l.length → l.getD x 0 ≠ l.getD y 0 := fun x y hxy hy e => by
  refine Pd (jC h y hy) ?_
  rw [← e]
  have e2:l.getD x 0 = l[x]'zo:=by simp [List.getD,show x < l.length by omega]
  rw [e2]
  exact List.mem_take_iff_getElem.2 ⟨x,by omega,rfl⟩
 rcases Nat.lt_trichotomy x y with c | c | c
 ·exact absurd e (key x y c hy)
 ·exact c
 ·exact absurd e.symm (key y x c hx)
theorem Ik {z:List Qi} {js:List (Int × Int)} (h:Ax z js = 0):Jn (iW js) z.length js.length:=by
 have hp:=Sc h
 have hl:=qO js
 have hr : ∀ x, x < 2 * js.length → 1 ≤ (nS js).getD x 0 ∧ (nS js).getD x 0 ≤ z.length := fun x hx => Ju hp _ (by
  rw [show (nS js).getD x 0 = (nS js)[x]'zo by simp [List.getD,show x < (nS js).length by omega]]; exact List.getElem_mem _)
 refine ⟨fun x hx=>?_,fun x y hx hy e=>?_⟩
 ·rw [jgq hx]; have:=hr x hx; omega
 ·rw [jgq hx, jgq hy] at e
  have h1:=hr x hx; have h2:=hr y hy
  exact Wg hp zo zo zo
def Al (js:List (Int × Int)):List Nat:=(nS js).map fun p=>(p - 1).toNat
def dT (z:List Qi) (js:List (Int × Int)):List Nat:=nL (Al js) z.length
def Nq (z:List Qi) (S:List (List Qi)) (js:List (Int × Int)):Int:=jL (fun y=>lZ (sS S (iW js) (2 * js.length)) (yS S (iW js) (2 * js.length) ((dT z js).getD y 0)) (2 * js.length)) (dT z js).length
def Fc (z : List Qi) (S : List (List Qi)) (js : List (Int × Int)) : Int :=
 if Ax z js ≠ 0 then Ax z js else if js.length = 0 then 0 else if 2 * js.length = z.length then 4 else if Nq z S js = 0 then 0 else 6
def a0M (z:List Qi) (js:List (Int × Int)):List Qi:=nN z (dT z js)
def Ym (z:List Qi) (S:List (List Qi)) (js:List (Int × Int)):List (List Qi):=tab (dT z js).length fun x=>tab (dT z js).length fun y=>Bu S (iW js) (2 * js.length) (fC (dT z js) x) (fC (dT z js) y)
def Dg (z:List Qi) (S:List (List Qi)) (js:List (Int × Int)):List Qi:=iH (Fc z S js) (if js.length = 0 then z else a0M z js)
def Kt (z:List Qi) (S:List (List Qi)) (js:List (Int × Int)):List (List Qi):=iH (Fc z S js) (if js.length = 0 then S else Ym z S js)
theorem Dz (js:List (Int × Int)):(Al js).length = 2 * js.length:=by rw [Al,List.length_map,qO]
theorem Rl {z : List Qi} {js : List (Int × Int)} {y : Nat} (hy : y < (dT z js).length) : (dT z js).getD y 0 < z.length := Dj (by
 rw [show (dT z js).getD y 0 = (dT z js)[y] by simp [List.getD,hy]]; exact List.getElem_mem hy)
end
section
open Go Go.RowKit
theorem Uk (M:List (List Qi)) (b:List Qi) (n:Nat):(mC M b n).length = n:=uJ _ _ _
theorem Zx {M : List (List Qi)} {b : List Qi} {n L : Nat} (h : eR M n n) (hM : bT M L) (hb : cC b L) (hL : 1 ≤ L) (hE : lZ M b n = 0) : cC (mC M b n) (pE (dD L n) n) := Ud h hM hb hL (by
 unfold lZ at hE
 by_cases e:0 ≤ (sR M b n).2.2
 ·rw [if_pos e] at hE; omega
 ·omega)
theorem Ce {G H : Nat} (h : G ≤ H) : ∀ j, pE G j ≤ pE H j
 | 0=>h
 | j + 1 => by
  have:=Ce h j
  have h2:j * (pE G j + G + 2) ≤ j * (pE H j + H + 2):=Nat.mul_le_mul_left _ zo
  simp only [pE]; omega
theorem Mn {a b:List (List Qi)} {n m:Nat} (ha:eR a n m) (hb:eR b n m) (h:∀ i,i < n → ∀ j,j < m → gm a i j = gm b i j):a = b:=by
 rw [qI ha,qI hb]
 exact cP fun i hi=>cP fun j hj=>h i hi j hj
end
section
open Go Go.RowKit
def Hn (q:Int × Int):List Int:=[q.1,q.2]
abbrev JT (q:Int × Int):Ty:=eD [aE .i64 q.1,aE .i64 q.2]
abbrev JsT (js:List (Int × Int)):Ty:=jT 2 (js.map JT)
theorem a09 {q : Int × Int} : ∀ {i : Nat}, i < 2 → ([aE .i64 q.1, aE .i64 q.2] : List Ty)[i]? = some (aE .i64 ((Hn q).getD i 0))
 | 0,_=>rfl
 | 1,_=>rfl
theorem Rv {q : Int × Int} : ∀ {i : Nat}, i < 2 → (Hn q).take (i + 1) = (Hn q).take i ++ [(Hn q).getD i 0]
 | 0,_=>rfl
 | 1,_=>rfl
abbrev Ea (z:List Qi) (js:List (Int × Int)) (k i:Nat):Int:=dP z.length ((Hn (lY js k)).getD i 0) (nS (js.take k) ++ (Hn (lY js k)).take i)
theorem a2m {z : List Qi} {js : List (Int × Int)} {k : Nat} : ∀ {i : Nat}, i < 2 → (∀ x, x < i → Ea z js k x = 0) → Ea z js k i ≠ 0 → uP z js k = Ea z js k i
 | 0, _, _, h => by
  have e:Ea z js k 0 = dP z.length (lY js k).1 (nS (js.take k)):=by simp [Ea,Hn]
  rw [e] at h ⊢
  rw [uP,if_pos h]
 | 1, _, h0, h => by
  have e0:Ea z js k 0 = dP z.length (lY js k).1 (nS (js.take k)):=by simp [Ea,Hn]
  have e:Ea z js k 1 = dP z.length (lY js k).2 (nS (js.take k) ++ [(lY js k).1]):=by simp [Ea,Hn]
  have h1:=h0 0 zo
  rw [e0] at h1
  rw [e] at h ⊢
  rw [uP,if_neg (fun k=>k h1),if_pos h]
theorem a2s {z : List Qi} {js : List (Int × Int)} {k : Nat} (h : ∀ x, x < 2 → Ea z js k x = 0) : (1 ≤ (lY js k).1 ∧ (lY js k).1 ≤ z.length) ∧ (1 ≤ (lY js k).2 ∧ (lY js k).2 ≤ z.length) ∧
  uP z js k = if gv z ((lY js k).1 - 1).toNat = gv z ((lY js k).2 - 1).toNat then 0 else 40:=by
 have e0:Ea z js k 0 = dP z.length (lY js k).1 (nS (js.take k)):=by simp [Ea,Hn]
 have e:Ea z js k 1 = dP z.length (lY js k).2 (nS (js.take k) ++ [(lY js k).1]):=by simp [Ea,Hn]
 have h0:=h 0 zo
 have h1:=h 1 zo
 rw [e0] at h0
 rw [e] at h1
 exact ⟨uY h0,uY h1,by rw [uP,if_neg (fun k=>k h0),if_neg (fun k=>k h1)]⟩
def Am (z:List Qi) (js:List (Int × Int)):Int:=if Ax z js ≠ 0 then Ax z js else if 0 < 2 * js.length ∧ 2 * js.length = z.length then 4 else 0
def jeL (z:List Qi) (js:List (Int × Int)):List Int:=iH (Am z js) (nS js)
theorem Te {z:List Qi} {js:List (Int × Int)} (h:Ax z js ≠ 0):Am z js = Ax z js:=if_pos h
theorem a00 {z:List Qi} {js:List (Int × Int)} (h:Ax z js = 0) (h2:0 < 2 * js.length ∧ 2 * js.length = z.length):Am z js = 4:=by rw [Am,if_neg (fun k=>k h),if_pos h2]
theorem a0D {z:List Qi} {js:List (Int × Int)} (h:Ax z js = 0) (h2:¬ (0 < 2 * js.length ∧ 2 * js.length = z.length)):Am z js = 0:=by rw [Am,if_neg (fun k=>k h),if_neg h2]
theorem Dl {z:List Qi} {js:List (Int × Int)} (h:Am z js = 0):Ax z js = 0 ∧ ¬ (0 < 2 * js.length ∧ 2 * js.length = z.length):=by
 unfold Am at h
 by_cases c:Ax z js = 0
 ·refine ⟨c, fun h2 => ?_⟩
  rw [if_neg (fun k=>k c),if_pos h2] at h
  omega
 ·rw [if_pos c] at h; exact absurd h c
theorem a31 {z:List Qi} {S:List (List Qi)} {js:List (Int × Int)} (h:Am z js ≠ 0):Fc z S js = Am z js:=by
 unfold Fc Am at *
 by_cases c:Ax z js ≠ 0
 ·rw [if_pos c,if_pos c]
 ·rw [if_neg c] at h
  rw [if_neg c,if_neg c]
  by_cases d:0 < 2 * js.length ∧ 2 * js.length = z.length
  ·rw [if_neg zo,if_pos d.2,if_pos d]
  ·rw [if_neg d] at h; exact absurd rfl h
theorem Yd {z:List Qi} {S:List (List Qi)} {js:List (Int × Int)} (h:Am z js = 0) (h2:js.length = 0):Fc z S js = 0:=by
 obtain ⟨h1,_⟩:=Dl h
 rw [Fc,if_neg (fun k=>k h1),if_pos h2]
theorem Jw {z:List Qi} {S:List (List Qi)} {js:List (Int × Int)} (h:Am z js = 0) (h2:js.length ≠ 0):Fc z S js = if Nq z S js = 0 then 0 else 6:=by
 obtain ⟨h1,h3⟩:=Dl h
 rw [Fc,if_neg (fun k=>k h1),if_neg h2,if_neg zo]
theorem pig : ∀ {n m : Nat} {f : Nat → Nat}, (∀ x, x < m → f x < n) → (∀ x y, x < m → y < m → f x = f y → x = y) → m ≤ n
 | 0, m, f, h, _ => by
  cases m with
  | zero=>exact Nat.le_refl 0
  | succ m=>exact absurd (h 0 zo) zo
 | n + 1,0,_,_,_=>by omega
 | n + 1, k + 1, f, h, i => by
  have := pig (n := n) (m := k) (f := fun x => if f x = n then f k else f x) (fun x hx => by
   have h1:=h x zo
   have h2:=h k zo
   by_cases c:f x = n
   ·simp only [if_pos c]
    have:f k ≠ n:=fun e=>by have:=i x k zo zo (by rw [c,e]); omega
    omega
   ·simp only [if_neg c]; omega) (fun x y hx hy e=>by
   by_cases c:f x = n <;> by_cases d:f y = n
   ·exact i x y zo zo (by rw [c,d])
   ·simp only [if_pos c, if_neg d] at e
    have:=i k y zo zo e; omega
   ·simp only [if_neg c, if_pos d] at e
    have:=i x k zo zo e; omega
   ·simp only [if_neg c, if_neg d] at e
    exact i x y zo zo e)
  omega
theorem a2Q {z:List Qi} {js:List (Int × Int)} (h:Ax z js = 0):2 * js.length ≤ z.length:=by
 have hj:=Ik h
 exact pig (f:=gq (iW js)) hj.lt hj.inj
theorem Sm {z:List Qi} {js:List (Int × Int)} (h:Ax z js = 0):(nS js).map (aE .i64) = ((Al js).map Nat.succ).map (NT .i64):=Hh (Sc h)
theorem Ix {js:List (Int × Int)} {x:Nat} (h:x < 2 * js.length):(Al js).getD x 0 = gq (iW js) x:=by
 have hl:=qO js
 rw [jgq h,Al]
 simp [List.getD,show x < (nS js).length by omega]
theorem Ul (G:List Nat):(gnI G).map (aE .i64) = (G.map Nat.succ).map (NT .i64):=by
 simp only [gnI,List.map_map]
 refine List.map_congr_left fun x _=>?_
 simp [Function.comp,NT]
theorem My (x : Qi) (l m : List Qi) : ∀ k, sU x l m k = x + eC k fun y => gv l y * gv m y
 | 0=>by rw [sU,eC,show Qi.zero = (0:Qi) from rfl]; grind
 | k + 1=>by rw [sU,My x l m k,eC]; grind
theorem a1P {S:List (List Qi)} {ps:List (Nat × Nat)} {m a b:Nat}:sU (gm S a b) (tab m fun x=>gm S a (gq ps x)) (mC (sS S ps m) (yS S ps m b) m) m = Bu S ps m a b:=by
 rw [My,Bu]
 congr 1
 exact eP fun y hy=>by rw [pC hy]
theorem Lq {S : List (List Qi)} {ps : List (Nat × Nat)} {m L : Nat} (hf : bT S L) (hL : 1 ≤ L) : bT (sS S ps m) (L + 2) := bT.tab fun x y _ _ => by
 haveI h1:=hf.get hL (gq ps (qT x)) (gq ps y)
 haveI h2 : aN (if x = y then Qi.ofInt 1 else Qi.ofInt 0) 1 := by
  split
  ·exact nK
  ·exact (aN.zero (Nat.le_refl 1):aN Qi.zero 1)
 exact (fitSub:aN (_ - _) (1 + L + 1)).le zo
theorem Vw {S:List (List Qi)} {ps:List (Nat × Nat)} {m b L:Nat} (hf:bT S L) (hL:1 ≤ L):cC (yS S ps m b) L:=cC.tab fun x _=>hf.get hL _ _
theorem a1e {z:List Qi} {S:List (List Qi)} {js:List (Int × Int)} (hS:eR S z.length z.length):eR (Kt z S js) (Dg z S js).length (Dg z S js).length ∧ (Dg z S js).length ≤ z.length:=by
 by_cases h:Fc z S js = 0
 ·by_cases h0 : js.length = 0
  ·rw [Kt,Dg,iH,iH,if_pos h,if_pos h,if_pos h0,if_pos h0]; exact ⟨hS,Nat.le_refl _⟩
  ·rw [Kt,Dg,iH,iH,if_pos h,if_pos h,if_neg h0,if_neg h0,a0M,Vh]; exact ⟨eR.tab,xS _ _⟩
 ·rw [Kt,Dg,iH,iH,if_neg h,if_neg h]; exact ⟨⟨rfl,fun r hr=>by cases hr⟩,Nat.zero_le _⟩
end
section
open Go Go.RowKit
theorem uM {x y:Qi} {L M:Nat} (hx:aN x L) (hy:aN y M) (h:y ≠ 0):aN (x / y) (L + 3 * M + 2):=⟨hx.fit.div hy.fit h⟩
end
section
open Go Go.RowKit
section
variable {φ:Qi → Qi → Bool} {z:List Qi} {js:List (Int × Int)}
end
def hlf:Qi:=Qi.frac 1 0 2
section
variable {js:List (Int × Int)} {n:Nat}
end
theorem Em : ∀ n, nL [] n = tab n fun i => i
 | 0=>rfl
 | n + 1=>by rw [nL,Em n,jZ]; rfl
theorem Mq (n:Nat):(nL [] n).length = n:=by rw [Em,aO]
theorem Zk {z:List Qi}:nN z (nL [] z.length) = z:=by
 rw [nN,Mq,Em]
 apply List.ext_getElem?
 intro i
 by_cases hi:i < z.length
 ·rw [cE hi,fC,pO hi]; simp [gv,List.getD,hi]
 ·rw [List.getElem?_eq_none (by rw [aO]; omega),List.getElem?_eq_none zo]
end
section
open Go Go.RowKit
abbrev tW (s f:List (List Qi)) (n:Nat):List (List Qi):=zM s f n 2
abbrev kF (s f:List (List Qi)) (p:Nat):Qi:=Qi.ofInt 1 - gm f 1 1 * gm s p p
def qW (p i:Nat) (n:Nat):Nat:=if i < p then i else if i = p then n - 1 else i - 1
theorem Ww {p i n:Nat} (hp:p < n) (hi:i < n):mE p (qW p i n) = if i = p then n else i:=by
 unfold qW mE
 by_cases c:i < p
 ·rw [if_pos c,if_pos c,if_neg zo]
 ·rw [if_neg c]
  by_cases d:i = p
  ·rw [if_pos d,if_pos d,if_neg zo]; omega
  ·rw [if_neg d,if_neg d,if_neg zo]; omega
theorem Dv {p i n:Nat} (hi:i < n):qW p i n < n:=by unfold qW; split <;> (try split) <;> omega
def emL (n p : Nat) : Nat → List Nat
 | 0=>[]
 | k + 1=>emL n p k ++ (if k = p then [n - 1,k] else [k])
theorem Ri {n p : Nat} : ∀ k, emL n p k = tab (if p < k then k + 1 else k) fun i => qW p i n
 | 0=>rfl
 | k + 1 => by
  rw [emL,Ri k]
  by_cases c:k = p
  ·subst c
   rw [if_neg (Nat.lt_irrefl k),if_pos rfl,if_pos (Nat.lt_succ_self k),jZ,jZ,List.append_assoc]
   have e1:qW k k n = n - 1:=by unfold qW; rw [if_neg (Nat.lt_irrefl k),if_pos rfl]
   have e2:qW k (k + 1) n = k:=by unfold qW; rw [if_neg zo,if_neg zo]; omega
   rw [e1,e2]; rfl
  ·rw [if_neg c]
   by_cases d:p < k
   ·rw [if_pos d,if_pos zo,jZ (m:=k + 1),show qW p (k + 1) n = k by unfold qW; rw [if_neg zo,if_neg zo]; omega]
   ·rw [if_neg d,if_neg zo,jZ,show qW p k n = k by unfold qW; rw [if_pos zo]]
def Vv (n p:Nat):List Nat:=emL n p (n - 1) ++ (if p + 1 = n then [n - 1] else [])
theorem Kc {n p:Nat} (hp:p < n):Vv n p = tab n fun i=>qW p i n:=by
 rw [Vv,Ri]
 by_cases c:p + 1 = n
 ·rw [if_pos c, if_neg zo]
  have e:tab n (fun i=>qW p i n) = tab (n - 1 + 1) fun i=>qW p i n:=by rw [show n - 1 + 1 = n by omega]
  rw [e,jZ,show qW p (n - 1) n = n - 1 by unfold qW; rw [if_neg zo,if_pos zo]]
 ·rw [if_neg c,if_pos zo,List.append_nil,show n - 1 + 1 = n by omega]
def nI (s f : List (List Qi)) (p i j : Nat) : Qi :=
 if i = p ∧ j = p then gm f 0 0 + gm f 0 1 * (gm f 1 0 * (gm s p p / kF s f p))
 else if j = p then gm s i p / kF s f p * gm f 1 0
 else if i = p then gm f 0 1 * (gm s p j / kF s f p)
 else gm s i j + gm s i p / kF s f p * (gm f 1 1 * gm s p j)
def qE (s f:List (List Qi)) (p n:Nat):List (List Qi):=tab n fun i=>tab n fun j=>nI s f p i j
def pZ (z fz:List Qi) (port:Int) (x:Nat):Int:=if fz.length ≠ 2 then 4 else if ¬ (1 ≤ port ∧ port ≤ z.length) then 1 else if gv fz (x - 1) = gv z (port - 1).toNat then 0 else 40
theorem a0v {z fz:List Qi} {port:Int} {x:Nat} (h:pZ z fz port x = 0):fz.length = 2 ∧ (1 ≤ port ∧ port ≤ z.length) ∧ gv fz (x - 1) = gv z (port - 1).toNat:=by
 unfold pZ at h
 by_cases c1:fz.length = 2
 ·rw [if_neg (fun k => k c1)] at h
  by_cases c2:1 ≤ port ∧ port ≤ z.length
  ·rw [if_neg (fun k => k c2)] at h
   by_cases c3:gv fz (x - 1) = gv z (port - 1).toNat
   ·exact ⟨c1,c2,c3⟩
   ·rw [if_neg c3] at h; omega
  ·rw [if_pos c2] at h; omega
 ·rw [if_pos c1] at h; omega
def Fe (z:List Qi) (s:List (List Qi)) (fz:List Qi) (f:List (List Qi)) (port:Int):Int:=if pZ z fz port 2 ≠ 0 then pZ z fz port 2 else if kF s f (port - 1).toNat = Qi.zero then 6 else 0
theorem a0F {z fz:List Qi} {s f:List (List Qi)} {port:Int} (h:pZ z fz port 2 ≠ 0):Fe z s fz f port = pZ z fz port 2:=if_pos h
theorem a0j {z fz:List Qi} {s f:List (List Qi)} {port:Int} (h:pZ z fz port 2 = 0) (h2:kF s f (port - 1).toNat = Qi.zero):Fe z s fz f port = 6:=by rw [Fe,if_neg (fun k=>k h),if_pos h2]
theorem Jc {z fz:List Qi} {s f:List (List Qi)} {port:Int} (h:pZ z fz port 2 = 0) (h2:kF s f (port - 1).toNat ≠ Qi.zero):Fe z s fz f port = 0:=by rw [Fe,if_neg (fun k=>k h),if_neg h2]
def Vt (z:List Qi) (s:List (List Qi)) (fz:List Qi) (f:List (List Qi)) (port:Int):List Qi:=iH (Fe z s fz f port) (z.set (port - 1).toNat (gv fz 0))
def Vp (z:List Qi) (s:List (List Qi)) (fz:List Qi) (f:List (List Qi)) (port:Int):List (List Qi):=iH (Fe z s fz f port) (qE s f (port - 1).toNat z.length)
def oB (s f:List (List Qi)) (p:Nat):Qi:=gm f 0 1 * gm f 1 0 + gm f 1 1 * (gm s p p - gm f 0 0)
def Ff (s f : List (List Qi)) (p i j : Nat) : Qi :=
 if i = p ∧ j = p then (gm s p p - gm f 0 0) / oB s f p
 else if j = p then gm s i p / oB s f p * gm f 0 1
 else if i = p then gm f 1 0 * (gm s p j / oB s f p)
 else gm s i j - gm s i p / oB s f p * (gm f 1 1 * gm s p j)
def pU (s f:List (List Qi)) (p n:Nat):List (List Qi):=tab n fun i=>tab n fun j=>Ff s f p i j
def Ba (z:List Qi) (s:List (List Qi)) (fz:List Qi) (f:List (List Qi)) (port:Int):Int:=if pZ z fz port 1 ≠ 0 then pZ z fz port 1 else if gm f 0 1 = Qi.zero ∨ gm f 1 0 = Qi.zero ∨ oB s f (port - 1).toNat = Qi.zero then 6 else 0
def zY (z:List Qi) (s:List (List Qi)) (fz:List Qi) (f:List (List Qi)) (port:Int):List Qi:=iH (Ba z s fz f port) (z.set (port - 1).toNat (gv fz 1))
def Re (z:List Qi) (s:List (List Qi)) (fz:List Qi) (f:List (List Qi)) (port:Int):List (List Qi):=iH (Ba z s fz f port) (pU s f (port - 1).toNat z.length)
theorem a0z {z fz:List Qi} {s f:List (List Qi)} {port:Int} (h:pZ z fz port 1 ≠ 0):Ba z s fz f port = pZ z fz port 1:=if_pos h
theorem Qo {z fz:List Qi} {s f:List (List Qi)} {port:Int} (h:pZ z fz port 1 = 0) (h2:gm f 0 1 = Qi.zero ∨ gm f 1 0 = Qi.zero ∨ oB s f (port - 1).toNat = Qi.zero):Ba z s fz f port = 6:=by rw [Ba,if_neg (fun k=>k h),if_pos h2]
theorem Sl {z fz:List Qi} {s f:List (List Qi)} {port:Int} (h:pZ z fz port 1 = 0) (h2:¬ (gm f 0 1 = Qi.zero ∨ gm f 1 0 = Qi.zero ∨ oB s f (port - 1).toNat = Qi.zero)):Ba z s fz f port = 0:=by rw [Ba,if_neg (fun k=>k h),if_neg h2]
end
section
open Go Go.RowKit
def tJ (zl:List Rt) (zz:Qi):List Qi:=((oV 1 zl).map Rt.q).set 1 zz
def Eo (sl:List Rt):List (List Qi):=rq (tY 1 sl)
theorem vF (zl:List Rt) (zz:Qi):(tJ zl zz).length = 2:=by rw [tJ,List.length_set,List.length_map,oV,aO]; rfl
theorem Ij (zl:List Rt) (zz:Qi):gv (tJ zl zz) 1 = zz:=by rw [tJ,tC (by rw [List.length_map,oV,aO]; decide),if_pos rfl]
theorem rD (sl:List Rt):eR (Eo sl) 2 2:=by
 obtain ⟨_,_,h,_⟩:=mK (Ag 1 [] sl)
 have hl:((oV 1 []).map Rt.q).length = 2:=by rw [List.length_map,oV,aO]; rfl
 rw [hl] at h; exact h
theorem Vk (sl:List Rt):bT (Eo sl) 2:=bT.rt
theorem Hm (zl:List Rt) {zz:Qi} (h:aN zz 2):cC (tJ zl zz) 2:=fun x hx=>(List.mem_or_eq_of_mem_set hx).elim (fun k=>(cC.rt:cC ((oV 1 zl).map Rt.q) 2) x k) fun e=>e ▸ h
theorem Rr (zl:List Rt) {zz:Qi} (h:kA zz = true):(tJ zl zz).all kA = true:=by
 obtain ⟨_,_,_,hp⟩:=mK (Ag 1 zl [])
 rw [List.all_eq_true] at hp ⊢
 intro x hx
 rcases List.mem_or_eq_of_mem_set hx with k | k
 ·exact hp x k
 ·rw [k]; exact h
theorem Ya (zl sl:List Rt) {zz:Qi} (h:kA zz = true):cD (tJ zl zz) (Eo sl) = 0:=by
 have hs:=rD sl
 have hz:=vF zl zz
 rw [cD,if_neg,if_pos (Rr zl h)]
 rintro (h | h | h | h)
 ·omega
 ·omega
 ·exact h (by rw [hs.1,hz])
 ·obtain ⟨r, hr, h2⟩ := List.any_eq_true.1 h
  simp [hs.2 r hr,hz] at h2
theorem Ue {a:Nat} {zl sl:List Rt} {zz:Qi} (hz:kA zz = true) (hf:aN zz 2):bB Tryz.prog 24 [zC a zl sl,NT .i64 2,aD zz] (dO [bR (tJ zl zz) (Eo sl),aC true]):=by
 have hzl:((oV 1 zl).map Rt.q).length = 2:=by rw [List.length_map,oV,aO]; rfl
 obtain ⟨z0,hz0⟩:∃ z0,z0 = ((oV 1 zl).map Rt.q):=⟨_,rfl⟩
 obtain ⟨s0,hs0⟩:∃ s0,s0 = Eo sl:=⟨_,rfl⟩
 have hsh:eR s0 2 2:=by rw [hs0]; exact rD sl
 have hB:=Fa (a:=1) (zl:=zl) (sl:=sl) (by decide)
 rw [← hz0] at hzl
 rw [← hz0,show (rq (tY 1 sl)) = s0 from hs0.symm] at hB
 have hsl2:eR s0 z0.length z0.length:=by rw [hzl]; exact hsh
 have hrf : ∀ i, i < 2 → bB Tryz.prog 23 [bR z0 s0, NT .i64 (i + 1)] (dO [aD (gv z0 i), aE .i64 0]) := fun i hi => by
  have h:=Nd (z:=z0) (s:=s0) (i:=((i + 1:Nat):Int)) zo
  rw [show Vs z0 ((i + 1:Nat):Int) = gv z0 i from Dh zo,if_pos zo] at h; exact h
 have hat : ∀ i j, i < 2 → j < 2 → bB Tryz.prog 25 [bR z0 s0, NT .i64 (i + 1), NT .i64 (j + 1)] (dO [aD (gm s0 i j), aE .i64 0]) := fun i j hi hj => by
  have h:=Pa (z:=z0) (s:=s0) (i:=((i + 1:Nat):Int)) (j:=((j + 1:Nat):Int)) hsl2 zo
  rw [show On z0.length s0 ((i + 1:Nat):Int) ((j + 1:Nat):Int) = gm s0 i j from zQ zo zo,if_pos zo] at h; exact h
 have hnw : bB Tryz.prog 85 [bA (tJ zl zz), dN s0] (dO [bR (tJ zl zz) s0, aE .i64 0]) := by
  have h:=uF (z:=tJ zl zz) (s:=s0) (L:=2) (Hm zl hf) (by decide) (by rw [vF]; decide) (by rw [hsh.1]; decide)
  rw [show cD (tJ zl zz) s0 = 0 by rw [hs0]; exact Ya zl sl hz] at h; exact h
 refine bB.intro Tryz.func24 rfl Tryz.ntmps24 rfl (fun cx=>(ts (rn rfl (fU (Ht rfl)) fun B3=>(rn rfl (fU (Ht rfl)) fun B5=>(rn rfl (eG (Ts:=[Is (.slice none 0 0),Is (.slice none 0 0)]) O_32 rfl (fun V=>aW zd (aW zd (aG)))) fun B6=>(ro rfl (cQ cV) (eZ (ts (ro rfl (eJ Df (Ht rfl) rfl) (jN Z_5 (Ht rfl) (cJ 1) (i:=0) rfl (aK rfl) rfl (eZ (ts (ro rfl (eW A_57 Z_57 (Ht rfl) (i:=0) rfl rfl rfl) (ro rfl (cZ Tryz.call21 hB ⟨(Ht rfl),trivial⟩) ?_))))))))))))))
 refine rm rfl (ro rfl (dU (Ht rfl) rfl) (ro rfl (dU (Ht rfl) rfl) (ro rfl (dU (Ht rfl) rfl) (rn rfl (eG (Ts:=[Is (.slice none 0 0),Is (.slice none 0 0)]) O_32 rfl (fun V=>aW zd (aW zd (aG)))) fun B8=>(rn rfl (eG (Ts:=[Is (.slice none 0 0),Is (.slice none 0 0)]) O_38 rfl (fun V=>aW zd (aW zd (aG)))) fun B9=>(gJ Z_32 (Ht rfl) (Ht rfl) rfl (i:=3) rfl (aK rfl) rfl rfl (gJ Z_38 (Ht rfl) (Ht rfl) rfl (i:=4) rfl (aK rfl) rfl rfl ?_)))))))
 refine ra rfl (eZ (cK (ts (rm rfl (ro rfl (eE (Ht rfl)) (eZ (fN (Ht rfl) (by rfl) ?_)))))))
 refine cU (ts (rn rfl (gR (T:=aD Qi.zero) (i:=Tryz.t51) kC iV rfl rfl (cJ 2) rfl gS (El.ag rfl) (by show 88 * _ ≤ _; omega) zo) fun B27=>(ra rfl (eZ (ts (rn rfl (fS (T:=Is (.slice none 0 0)) (i:=Tryz.t29) V_30 sP rfl rfl (cJ 2) rfl (fun _=>rfl) trivial (by show 24 * _ ≤ _; omega) zo) fun B28=>(ra rfl (eZ (cK (ts (ro rfl (cX (cJ 0)) (eZ (eK (lR 6 rfl (uC (e:=51) (s:=5)) (bL [1,2,3,5,6] rfl (by decide) ?_)))))))))))))))
 refine cM (fun (i : Nat) => i ≤ 2) (fun (i : Nat) => 2 - i) (fun (i : Nat) => [(1, NT .i64 2), (5, bP B5 0), (6, bP B6 0), (8, bP B8 0), (11, Is B27), (12, Is (.slice (some ⟨B28, 0, none⟩) 2 2)), (29, NT .i64 i)]) (fun (i : Nat) => [box B5 51 [aC (decide (zz.a < 0)), aH zz.a.natAbs, aC (decide (zz.b < 0)), aH zz.b.natAbs, aH (du zz)], box B6 32 [Is (.slice none 0 0), Is (.slice none 0 0)], box B8 32 [bA z0, dN s0], bM 51 5 B27 ((jR (gv z0) Qi.zero 2 i).map aD), nT B28 29 51 5 (dM aD (jR (fun i => tab 2 fun j => gm s0 i j) [] 2 i))]) 0 (Nat.zero_le _)
  (zS rfl) (aU (aB rfl) (aU (aB rfl) (aU (aB rfl) (aU (aR (by rw [← iI]; exact nO aD 2)) (aU (eT (by rw [← iI,pS]; exact rV aD 2)) aY))))) (fun i hi=>?_)
 refine ts (ro rfl (gV (Ht rfl) (cJ 2)) (eZ (cK (dQ (Ht rfl) (fun hd=>?_) (fun hd=>?_)))))
 ·have hi2 : i < 2 := by simp only [decide_eq_true_eq] at hd; omega
  refine cU (cK (eK (ts (rm rfl (ra rfl (eZ (ts (rm rfl (rm rfl (ro rfl (eW A_32 Z_32 (Ht rfl) (i:=2) rfl rfl rfl) (rm rfl (ro rfl (dW (Ht rfl) (cJ 1) z6) (ro rfl (cZ Tryz.call23 (hrf i hi2) ⟨(Ht rfl),(Ht rfl),trivial⟩) (rm rfl (ro rfl (dU (Ht rfl) rfl) (ro rfl (dU (Ht rfl) rfl) (ro rfl (dE U_29 Z_51 (Ht rfl) (Ht rfl) rfl (i:=3) rfl (by rw [List.length_map,cO]; omega) rfl) ?_)))))))))))))))))
  refine kS Z_51 (Ht rfl) (Ht rfl) (El.ag rfl) (i:=3) rfl rfl (by rw [List.length_map,cO]; omega) rfl ?_
  refine eZ (cK (lR 3 rfl (aR (by rw [fL,jK (f:=gv z0)])) ?_))
  refine oR 4 (i) rfl (uA hi2) (fun v0=>(cY (rm rfl (rm rfl (rn rfl (gR (T:=aD Qi.zero) (i:=Tryz.t51) kC iV rfl rfl (cJ 2) rfl gS (El.ag rfl) (by show 88 * _ ≤ _; omega) zo) fun B44=>(ro rfl (gX U_30 Z_29 (Ht rfl) (Ht rfl) rfl zo (by rw [Nat.mul_one,Nat.zero_add])) ?_))))))
  refine zE Z_29 (Ht rfl) (Ht rfl) (by simp only [dM,List.length_map,cO]; omega) (j:=4) (l:=6) rfl rfl rfl ?_
  refine eZ (cK (bL [0,1,2,3,4,6] rfl (by decide) (cY (ro rfl (cX (cJ 0)) (eZ (eK ?_))))))
  refine cM (fun (j : Nat) => j ≤ 2) (fun (j : Nat) => 2 - j) (fun (j : Nat) => [(1, NT .i64 2), (5, bP B5 0), (6, bP B6 0), (8, bP B8 0), (11, Is B27), (12, Is (.slice (some ⟨B28, 0, none⟩) 2 2)), (13, NT .i64 i), (29, NT .i64 i), (46, NT .i64 j)]) (fun (j : Nat) => [box B5 51 [aC (decide (zz.a < 0)), aH zz.a.natAbs, aC (decide (zz.b < 0)), aH zz.b.natAbs, aH (du zz)], box B6 32 [Is (.slice none 0 0), Is (.slice none 0 0)], box B8 32 [bA z0, dN s0], bM 51 5 B27 ((jR (gv z0) Qi.zero 2 (i + 1)).map aD), Hj B28 29 51 5 (dM aD (jR (fun i => tab 2 fun j => gm s0 i j) [] 2 i)) i B44, bM 51 5 B44 ((jR (fun j => gm s0 i j) Qi.zero 2 j).map aD)]) 0 (Nat.zero_le _)
   (zS rfl) (aU (aB rfl) (aU (aB rfl) (aU (aB rfl) (aU (fun _ _ _ h=>h) (aU (fun _ _ _ h=>h) (aU (aR (by rw [← iI]; exact nO aD 2)) aY)))))) (fun j hj=>?_)
  refine ts (ro rfl (gV (Ht rfl) (cJ 2)) (eZ (cK (dQ (Ht rfl) (fun he=>?_) (fun he=>?_)))))
  ·have hj2 : j < 2 := by simp only [decide_eq_true_eq] at he; omega
   refine cU (cK (eK (ts (rm rfl (ra rfl (eZ (W.D_start (m:=16) (fun b=>cond b ([box B5 51 [aC (decide (zz.a < 0)),aH zz.a.natAbs,aC (decide (zz.b < 0)),aH zz.b.natAbs,aH (du zz)],box B6 32 [Is (.slice none 0 0),Is (.slice none 0 0)],box B8 32 [bA z0,dN s0],bM 51 5 B27 ((jR (gv z0) Qi.zero 2 (i + 1)).map aD),Hj B28 29 51 5 (dM aD (jR (fun i=>tab 2 fun j=>gm s0 i j) [] 2 i)) i B44,bM 51 5 B44 (((jR (fun j=>gm s0 i j) Qi.zero 2 j).map aD).set j (aD (gm s0 i j)))]) _) 15 (W.D_step (Ei:=[(12,_)]) rfl rfl (W.Srcs.cons (W.Src.pre rfl rfl) W.Srcs.nil) rfl (by kernel_rfl) (dX rfl (cX (Ht rfl))) ?_))))))))
   refine W.D_step (Ei:=[(13,_)]) rfl rfl (W.Srcs.cons (W.Src.pre rfl rfl) W.Srcs.nil) rfl (by kernel_rfl) (dX rfl (cX (Ht rfl))) (W.D_step (Ei:=[(50,_),(51,_)]) rfl rfl (W.Srcs.cons (W.Src.op 0 rfl rfl) (W.Srcs.cons (W.Src.op 1 rfl rfl) W.Srcs.nil)) rfl (by kernel_rfl) (dX rfl (gX U_30 Z_29 (Ht rfl) (Ht rfl) rfl zo (by rw [Nat.mul_one,Nat.zero_add]))) ?_)
   refine W.D_step (Ei:=[(52,_)]) rfl rfl (W.Srcs.cons (W.Src.op 2 rfl rfl) W.Srcs.nil) rfl (by kernel_rfl) (dX rfl (mL A_29 Z_29 (Ht rfl) (j:=4) rfl)) (W.D_step (Ei:=[(14,_)]) rfl rfl (W.Srcs.cons (W.Src.pre rfl rfl) W.Srcs.nil) rfl (by kernel_rfl) (dX rfl (cX (Ht rfl))) (W.D_step (Ei:=[(8,_)]) rfl rfl (W.Srcs.cons (W.Src.pre rfl rfl) W.Srcs.nil) rfl (by kernel_rfl) (dX rfl (eW A_32 Z_32 (Ht rfl) (i:=2) rfl rfl rfl)) (W.D_step (Ei:=[(13,_)]) rfl rfl (W.Srcs.cons (W.Src.pre rfl rfl) W.Srcs.nil) rfl (by kernel_rfl) (dX rfl (cX (Ht rfl))) ?_)))
   refine W.D_step (Ei:=[(56,_)]) rfl rfl (W.Srcs.cons (W.Src.op 6 rfl rfl) W.Srcs.nil) rfl (by kernel_rfl) (dX rfl (dW (Ht rfl) (cJ 1) z6)) (W.D_step (Ei:=[(14,_)]) rfl rfl (W.Srcs.cons (W.Src.pre rfl rfl) W.Srcs.nil) rfl (by kernel_rfl) (dX rfl (cX (Ht rfl))) (W.D_step (Ei:=[(58,_)]) rfl rfl (W.Srcs.cons (W.Src.op 8 rfl rfl) W.Srcs.nil) rfl (by kernel_rfl) (dX rfl (dW (Ht rfl) (cJ 1) z6)) (W.D_step (Ei:=[(55,_),(57,_),(59,_)]) rfl rfl (W.Srcs.cons (W.Src.op 5 rfl rfl) (W.Srcs.cons (W.Src.op 7 rfl rfl) (W.Srcs.cons (W.Src.op 9 rfl rfl) W.Srcs.nil))) rfl (by kernel_rfl) (dX rfl (cZ K_25 (hat i j hi2 hj2) ⟨(Ht rfl),(Ht rfl),(Ht rfl),trivial⟩)) ?_)))
   refine W.D_step (Ei:=[(60,_)]) rfl rfl (W.Srcs.cons (W.Src.op 10 rfl rfl) W.Srcs.nil) rfl (by kernel_rfl) (dX rfl (cX (Ht rfl))) (W.D_step (Ei:=[(49,_)]) rfl rfl (W.Srcs.cons (W.Src.op 11 rfl rfl) W.Srcs.nil) rfl (by kernel_rfl) (dX rfl (dU (Ht rfl) rfl)) (W.D_pure (Ei:=[(49,_)]) rfl rfl (W.Srcs.cons (W.Src.op 11 rfl rfl) W.Srcs.nil) rfl (fun _=>dX rfl (dU (Ht rfl) rfl)) (W.D_step (Ei:=[(53,_),(54,_)]) rfl rfl (W.Srcs.cons (W.Src.op 3 rfl rfl) (W.Srcs.cons (W.Src.op 4 rfl rfl) W.Srcs.nil)) rfl (by kernel_rfl) (dX rfl (dE U_29 Z_51 (Ht rfl) (Ht rfl) rfl (i:=5) rfl (by rw [List.length_map,cO]; omega) rfl)) ?_)))
   refine W.D_put (Ei:=[(63,_),(61,_)]) rfl rfl (W.Srcs.cons (W.Src.op 14 rfl rfl) (W.Srcs.cons (W.Src.op 12 rfl rfl) W.Srcs.nil)) rfl (Bj Z_51 (Ht rfl) (Ht rfl) (El.ag rfl) (i:=5) rfl rfl (by rw [List.length_map,cO]; omega)) ?_
   refine W.D_done bF rfl (by kernel_rfl) rfl (W.F_val (W.F_val (W.F_val (W.F_val (W.F_val (W.F_val (W.F_val (W.F_val (W.F_val (W.F_val (W.F_val (W.F_val (W.F_val (W.F_val (W.F_val (W.F_put (W.F_nil (eZ (bH (cY (ro rfl (dW (Ht rfl) (cJ 1) z6) (rm rfl (eZ (gQ (j + 1) hj2 zo (zS rfl) (aU (aB rfl) (aU (aB rfl) (aU (aB rfl) (aU (fun _ _ _ h=>h) (aU (fun _ _ _ h=>h) (aU (aR (by rw [fL]; exact congrArg _ (jK (f:=(fun j=>gm s0 i j))))) aY))))))))))))))))))))))))))))))
  ·obtain rfl : j = 2 := by simp only [decide_eq_false_iff_not] at he; omega
   rw [jJ (fun j=>gm s0 i j)]
   refine gK rfl (bH (kR 4 5 rfl rfl (by decide) (by simp only [dM,List.length_map,cO]; omega) ?_))
   refine cY (ro rfl (dW (Ht rfl) (cJ 1) z6) (rm rfl (eZ (bL [0,1,2,3,4] rfl (by decide) (gQ (i + 1) hi2 zo (zS rfl) (aU (aB rfl) (aU (aB rfl) (aU (aB rfl) (aU (fun _ _ _ h=>h) (aU (eT (by rw [kY]; exact congrArg _ (jK (f:=(fun i=>tab 2 fun j=>gm s0 i j))))) aY))))))))))
 ·obtain rfl : i = 2 := by simp only [decide_eq_false_iff_not] at hd; omega
  rw [jJ,jJ]
  have hzt:tab 2 (gv z0) = z0:=by rw [← hzl]; exact (zN rfl).symm
  have hst:(tab 2 fun i=>tab 2 fun j=>gm s0 i j) = s0:=(qI hsh).symm
  rw [hzt,hst]
  refine gK rfl (ts (rm rfl (rm rfl (ro rfl (dG (Ht rfl) (cJ 1) zo z6) (ro rfl (eW A_51 Z_51 (Ht rfl) (i:=0) rfl rfl rfl) (ro rfl (dE U_29 Z_51 (Ht rfl) (Ht rfl) rfl (i:=3) rfl (by rw [List.length_map]; omega) rfl) ?_))))))
  refine kS Z_51 (Ht rfl) (Ht rfl) (El.ag rfl) (i:=3) rfl rfl (by rw [List.length_map]; omega) rfl ?_
  refine eZ (cK (lR 3 rfl (aR ((fL aD z0 1 zz).trans (by rw [hz0]; rfl)):∀ S m V,_ → (bM 51 5 B27 ((tJ zl zz).map aD)).h S m V) ?_))
  refine gG (i:=3) (tt:=11) rfl rfl gD (gG (i:=4) (tt:=12) rfl rfl (rJ (s:=5) (M:=s0) hsh.1.symm) (cY (rm rfl (rm rfl (ro rfl (cZ Tryz.call85 hnw ⟨(Ht rfl),(Ht rfl),trivial⟩) (rm rfl (ro rfl (dU (Ht rfl) rfl) (ro rfl (dU (Ht rfl) rfl) (rn rfl (eG (Ts:=[Is (.slice none 0 0),Is (.slice none 0 0)]) O_32 rfl (fun V=>aW zd (aW zd (aG)))) fun B15=>(gJ Z_32 (Ht rfl) (Ht rfl) rfl (i:=5) rfl (aK rfl) rfl rfl (ra rfl (eZ ?_))))))))))))
  refine cK (bL [0,1,2,3,4,5] rfl (by decide) (cY (ro rfl (eW A_32 Z_32 (Ht rfl) (i:=5) rfl rfl rfl) (rm rfl (ro rfl (iY (Ht rfl) cV) (gJ Z_32 (Ht rfl) (Ht rfl) rfl (i:=1) rfl (aK rfl) rfl rfl (ra rfl (eZ (bI rfl (fJ (fY A_32 Z_32 rfl (i:=1) rfl rfl) ?_) (eY rfl))))))))))
  exact (fun v V h=>by rw [← hs0]; exact h)
end
section
open Go Go.RowKit
def tU (zl:List Rt) (zz:Qi):List Qi:=((oV 1 zl).map Rt.q).set 0 zz
theorem uR (zl:List Rt) (zz:Qi):(tU zl zz).length = 2:=by rw [tU,List.length_set,List.length_map,oV,aO]; rfl
theorem Gk (zl:List Rt) (zz:Qi):gv (tU zl zz) 0 = zz:=by rw [tU,tC (by rw [List.length_map,oV,aO]; decide),if_pos rfl]
theorem If (zl:List Rt) {zz:Qi} (h:aN zz 2):cC (tU zl zz) 2:=fun x hx=>(List.mem_or_eq_of_mem_set hx).elim (fun k=>(cC.rt:cC ((oV 1 zl).map Rt.q) 2) x k) fun e=>e ▸ h
theorem Ta (zl:List Rt) {zz:Qi} (h:kA zz = true):(tU zl zz).all kA = true:=by
 obtain ⟨_,_,_,hp⟩:=mK (Ag 1 zl [])
 rw [List.all_eq_true] at hp ⊢
 intro x hx
 rcases List.mem_or_eq_of_mem_set hx with k | k
 ·exact hp x k
 ·rw [k]; exact h
theorem Xu (zl sl:List Rt) {zz:Qi} (h:kA zz = true):cD (tU zl zz) (Eo sl) = 0:=by
 have hs:=rD sl
 have hz:=uR zl zz
 rw [cD,if_neg,if_pos (Ta zl h)]
 rintro (h | h | h | h)
 ·omega
 ·omega
 ·exact h (by rw [hs.1,hz])
 ·obtain ⟨r, hr, h2⟩ := List.any_eq_true.1 h
  simp [hs.2 r hr,hz] at h2
theorem Nm {a:Nat} {zl sl:List Rt} {zz:Qi} (hz:kA zz = true) (hf:aN zz 2):bB Tryz.prog 24 [zC a zl sl,NT .i64 1,aD zz] (dO [bR (tU zl zz) (Eo sl),aC true]):=by
 have hzl:((oV 1 zl).map Rt.q).length = 2:=by rw [List.length_map,oV,aO]; rfl
 obtain ⟨z0,hz0⟩:∃ z0,z0 = ((oV 1 zl).map Rt.q):=⟨_,rfl⟩
 obtain ⟨s0,hs0⟩:∃ s0,s0 = Eo sl:=⟨_,rfl⟩
 have hsh:eR s0 2 2:=by rw [hs0]; exact rD sl
 have hB:=Fa (a:=1) (zl:=zl) (sl:=sl) (by decide)
 rw [← hz0] at hzl
 rw [← hz0,show (rq (tY 1 sl)) = s0 from hs0.symm] at hB
 have hsl2:eR s0 z0.length z0.length:=by rw [hzl]; exact hsh
 have hrf : ∀ i, i < 2 → bB Tryz.prog 23 [bR z0 s0, NT .i64 (i + 1)] (dO [aD (gv z0 i), aE .i64 0]) := fun i hi => by
  have h:=Nd (z:=z0) (s:=s0) (i:=((i + 1:Nat):Int)) zo
  rw [show Vs z0 ((i + 1:Nat):Int) = gv z0 i from Dh zo,if_pos zo] at h; exact h
 have hat : ∀ i j, i < 2 → j < 2 → bB Tryz.prog 25 [bR z0 s0, NT .i64 (i + 1), NT .i64 (j + 1)] (dO [aD (gm s0 i j), aE .i64 0]) := fun i j hi hj => by
  have h:=Pa (z:=z0) (s:=s0) (i:=((i + 1:Nat):Int)) (j:=((j + 1:Nat):Int)) hsl2 zo
  rw [show On z0.length s0 ((i + 1:Nat):Int) ((j + 1:Nat):Int) = gm s0 i j from zQ zo zo,if_pos zo] at h; exact h
 have hnw : bB Tryz.prog 85 [bA (tU zl zz), dN s0] (dO [bR (tU zl zz) s0, aE .i64 0]) := by
  have h:=uF (z:=tU zl zz) (s:=s0) (L:=2) (If zl hf) (by decide) (by rw [uR]; decide) (by rw [hsh.1]; decide)
  rw [show cD (tU zl zz) s0 = 0 by rw [hs0]; exact Xu zl sl hz] at h; exact h
 refine bB.intro Tryz.func24 rfl Tryz.ntmps24 rfl (fun cx=>(ts (rn rfl (fU (Ht rfl)) fun B3=>(rn rfl (fU (Ht rfl)) fun B5=>(rn rfl (eG (Ts:=[Is (.slice none 0 0),Is (.slice none 0 0)]) O_32 rfl (fun V=>aW zd (aW zd (aG)))) fun B6=>(ro rfl (cQ cV) (eZ (ts (ro rfl (eJ Df (Ht rfl) rfl) (jN Z_5 (Ht rfl) (cJ 1) (i:=0) rfl (aK rfl) rfl (eZ (ts (ro rfl (eW A_57 Z_57 (Ht rfl) (i:=0) rfl rfl rfl) (ro rfl (cZ Tryz.call21 hB ⟨(Ht rfl),trivial⟩) ?_))))))))))))))
 refine rm rfl (ro rfl (dU (Ht rfl) rfl) (ro rfl (dU (Ht rfl) rfl) (ro rfl (dU (Ht rfl) rfl) (rn rfl (eG (Ts:=[Is (.slice none 0 0),Is (.slice none 0 0)]) O_32 rfl (fun V=>aW zd (aW zd (aG)))) fun B8=>(rn rfl (eG (Ts:=[Is (.slice none 0 0),Is (.slice none 0 0)]) O_38 rfl (fun V=>aW zd (aW zd (aG)))) fun B9=>(gJ Z_32 (Ht rfl) (Ht rfl) rfl (i:=3) rfl (aK rfl) rfl rfl (gJ Z_38 (Ht rfl) (Ht rfl) rfl (i:=4) rfl (aK rfl) rfl rfl ?_)))))))
 refine ra rfl (eZ (cK (ts (rm rfl (ro rfl (eE (Ht rfl)) (eZ (fN (Ht rfl) (by rfl) ?_)))))))
 refine cU (ts (rn rfl (gR (T:=aD Qi.zero) (i:=Tryz.t51) kC iV rfl rfl (cJ 2) rfl gS (El.ag rfl) (by show 88 * _ ≤ _; omega) zo) fun B27=>(ra rfl (eZ (ts (rn rfl (fS (T:=Is (.slice none 0 0)) (i:=Tryz.t29) V_30 sP rfl rfl (cJ 2) rfl (fun _=>rfl) trivial (by show 24 * _ ≤ _; omega) zo) fun B28=>(ra rfl (eZ (cK (ts (ro rfl (cX (cJ 0)) (eZ (eK (lR 6 rfl (uC (e:=51) (s:=5)) (bL [1,2,3,5,6] rfl (by decide) ?_)))))))))))))))
 refine cM (fun (i : Nat) => i ≤ 2) (fun (i : Nat) => 2 - i) (fun (i : Nat) => [(1, NT .i64 1), (5, bP B5 0), (6, bP B6 0), (8, bP B8 0), (11, Is B27), (12, Is (.slice (some ⟨B28, 0, none⟩) 2 2)), (29, NT .i64 i)]) (fun (i : Nat) => [box B5 51 [aC (decide (zz.a < 0)), aH zz.a.natAbs, aC (decide (zz.b < 0)), aH zz.b.natAbs, aH (du zz)], box B6 32 [Is (.slice none 0 0), Is (.slice none 0 0)], box B8 32 [bA z0, dN s0], bM 51 5 B27 ((jR (gv z0) Qi.zero 2 i).map aD), nT B28 29 51 5 (dM aD (jR (fun i => tab 2 fun j => gm s0 i j) [] 2 i))]) 0 (Nat.zero_le _)
  (zS rfl) (aU (aB rfl) (aU (aB rfl) (aU (aB rfl) (aU (aR (by rw [← iI]; exact nO aD 2)) (aU (eT (by rw [← iI,pS]; exact rV aD 2)) aY))))) (fun i hi=>?_)
 refine ts (ro rfl (gV (Ht rfl) (cJ 2)) (eZ (cK (dQ (Ht rfl) (fun hd=>?_) (fun hd=>?_)))))
 ·have hi2 : i < 2 := by simp only [decide_eq_true_eq] at hd; omega
  refine cU (cK (eK (ts (rm rfl (ra rfl (eZ (ts (rm rfl (rm rfl (ro rfl (eW A_32 Z_32 (Ht rfl) (i:=2) rfl rfl rfl) (rm rfl (ro rfl (dW (Ht rfl) (cJ 1) z6) (ro rfl (cZ Tryz.call23 (hrf i hi2) ⟨(Ht rfl),(Ht rfl),trivial⟩) (rm rfl (ro rfl (dU (Ht rfl) rfl) (ro rfl (dU (Ht rfl) rfl) (ro rfl (dE U_29 Z_51 (Ht rfl) (Ht rfl) rfl (i:=3) rfl (by rw [List.length_map,cO]; omega) rfl) ?_)))))))))))))))))
  refine kS Z_51 (Ht rfl) (Ht rfl) (El.ag rfl) (i:=3) rfl rfl (by rw [List.length_map,cO]; omega) rfl ?_
  refine eZ (cK (lR 3 rfl (aR (by rw [fL,jK (f:=gv z0)])) ?_))
  refine oR 4 (i) rfl (uA hi2) (fun v0=>(cY (rm rfl (rm rfl (rn rfl (gR (T:=aD Qi.zero) (i:=Tryz.t51) kC iV rfl rfl (cJ 2) rfl gS (El.ag rfl) (by show 88 * _ ≤ _; omega) zo) fun B44=>(ro rfl (gX U_30 Z_29 (Ht rfl) (Ht rfl) rfl zo (by rw [Nat.mul_one,Nat.zero_add])) ?_))))))
  refine zE Z_29 (Ht rfl) (Ht rfl) (by simp only [dM,List.length_map,cO]; omega) (j:=4) (l:=6) rfl rfl rfl ?_
  refine eZ (cK (bL [0,1,2,3,4,6] rfl (by decide) (cY (ro rfl (cX (cJ 0)) (eZ (eK ?_))))))
  refine cM (fun (j : Nat) => j ≤ 2) (fun (j : Nat) => 2 - j) (fun (j : Nat) => [(1, NT .i64 1), (5, bP B5 0), (6, bP B6 0), (8, bP B8 0), (11, Is B27), (12, Is (.slice (some ⟨B28, 0, none⟩) 2 2)), (13, NT .i64 i), (29, NT .i64 i), (46, NT .i64 j)]) (fun (j : Nat) => [box B5 51 [aC (decide (zz.a < 0)), aH zz.a.natAbs, aC (decide (zz.b < 0)), aH zz.b.natAbs, aH (du zz)], box B6 32 [Is (.slice none 0 0), Is (.slice none 0 0)], box B8 32 [bA z0, dN s0], bM 51 5 B27 ((jR (gv z0) Qi.zero 2 (i + 1)).map aD), Hj B28 29 51 5 (dM aD (jR (fun i => tab 2 fun j => gm s0 i j) [] 2 i)) i B44, bM 51 5 B44 ((jR (fun j => gm s0 i j) Qi.zero 2 j).map aD)]) 0 (Nat.zero_le _)
   (zS rfl) (aU (aB rfl) (aU (aB rfl) (aU (aB rfl) (aU (fun _ _ _ h=>h) (aU (fun _ _ _ h=>h) (aU (aR (by rw [← iI]; exact nO aD 2)) aY)))))) (fun j hj=>?_)
  refine ts (ro rfl (gV (Ht rfl) (cJ 2)) (eZ (cK (dQ (Ht rfl) (fun he=>?_) (fun he=>?_)))))
  ·have hj2 : j < 2 := by simp only [decide_eq_true_eq] at he; omega
   refine cU (cK (eK (ts (rm rfl (ra rfl (eZ (W.D_start (m:=16) (fun b=>cond b ([box B5 51 [aC (decide (zz.a < 0)),aH zz.a.natAbs,aC (decide (zz.b < 0)),aH zz.b.natAbs,aH (du zz)],box B6 32 [Is (.slice none 0 0),Is (.slice none 0 0)],box B8 32 [bA z0,dN s0],bM 51 5 B27 ((jR (gv z0) Qi.zero 2 (i + 1)).map aD),Hj B28 29 51 5 (dM aD (jR (fun i=>tab 2 fun j=>gm s0 i j) [] 2 i)) i B44,bM 51 5 B44 (((jR (fun j=>gm s0 i j) Qi.zero 2 j).map aD).set j (aD (gm s0 i j)))]) _) 15 (W.D_step (Ei:=[(12,_)]) rfl rfl (W.Srcs.cons (W.Src.pre rfl rfl) W.Srcs.nil) rfl (by kernel_rfl) (dX rfl (cX (Ht rfl))) ?_))))))))
   refine W.D_step (Ei:=[(13,_)]) rfl rfl (W.Srcs.cons (W.Src.pre rfl rfl) W.Srcs.nil) rfl (by kernel_rfl) (dX rfl (cX (Ht rfl))) (W.D_step (Ei:=[(50,_),(51,_)]) rfl rfl (W.Srcs.cons (W.Src.op 0 rfl rfl) (W.Srcs.cons (W.Src.op 1 rfl rfl) W.Srcs.nil)) rfl (by kernel_rfl) (dX rfl (gX U_30 Z_29 (Ht rfl) (Ht rfl) rfl zo (by rw [Nat.mul_one,Nat.zero_add]))) ?_)
   refine W.D_step (Ei:=[(52,_)]) rfl rfl (W.Srcs.cons (W.Src.op 2 rfl rfl) W.Srcs.nil) rfl (by kernel_rfl) (dX rfl (mL A_29 Z_29 (Ht rfl) (j:=4) rfl)) (W.D_step (Ei:=[(14,_)]) rfl rfl (W.Srcs.cons (W.Src.pre rfl rfl) W.Srcs.nil) rfl (by kernel_rfl) (dX rfl (cX (Ht rfl))) (W.D_step (Ei:=[(8,_)]) rfl rfl (W.Srcs.cons (W.Src.pre rfl rfl) W.Srcs.nil) rfl (by kernel_rfl) (dX rfl (eW A_32 Z_32 (Ht rfl) (i:=2) rfl rfl rfl)) (W.D_step (Ei:=[(13,_)]) rfl rfl (W.Srcs.cons (W.Src.pre rfl rfl) W.Srcs.nil) rfl (by kernel_rfl) (dX rfl (cX (Ht rfl))) ?_)))
   refine W.D_step (Ei:=[(56,_)]) rfl rfl (W.Srcs.cons (W.Src.op 6 rfl rfl) W.Srcs.nil) rfl (by kernel_rfl) (dX rfl (dW (Ht rfl) (cJ 1) z6)) (W.D_step (Ei:=[(14,_)]) rfl rfl (W.Srcs.cons (W.Src.pre rfl rfl) W.Srcs.nil) rfl (by kernel_rfl) (dX rfl (cX (Ht rfl))) (W.D_step (Ei:=[(58,_)]) rfl rfl (W.Srcs.cons (W.Src.op 8 rfl rfl) W.Srcs.nil) rfl (by kernel_rfl) (dX rfl (dW (Ht rfl) (cJ 1) z6)) (W.D_step (Ei:=[(55,_),(57,_),(59,_)]) rfl rfl (W.Srcs.cons (W.Src.op 5 rfl rfl) (W.Srcs.cons (W.Src.op 7 rfl rfl) (W.Srcs.cons (W.Src.op 9 rfl rfl) W.Srcs.nil))) rfl (by kernel_rfl) (dX rfl (cZ K_25 (hat i j hi2 hj2) ⟨(Ht rfl),(Ht rfl),(Ht rfl),trivial⟩)) ?_)))
   refine W.D_step (Ei:=[(60,_)]) rfl rfl (W.Srcs.cons (W.Src.op 10 rfl rfl) W.Srcs.nil) rfl (by kernel_rfl) (dX rfl (cX (Ht rfl))) (W.D_step (Ei:=[(49,_)]) rfl rfl (W.Srcs.cons (W.Src.op 11 rfl rfl) W.Srcs.nil) rfl (by kernel_rfl) (dX rfl (dU (Ht rfl) rfl)) (W.D_pure (Ei:=[(49,_)]) rfl rfl (W.Srcs.cons (W.Src.op 11 rfl rfl) W.Srcs.nil) rfl (fun _=>dX rfl (dU (Ht rfl) rfl)) (W.D_step (Ei:=[(53,_),(54,_)]) rfl rfl (W.Srcs.cons (W.Src.op 3 rfl rfl) (W.Srcs.cons (W.Src.op 4 rfl rfl) W.Srcs.nil)) rfl (by kernel_rfl) (dX rfl (dE U_29 Z_51 (Ht rfl) (Ht rfl) rfl (i:=5) rfl (by rw [List.length_map,cO]; omega) rfl)) ?_)))
   refine W.D_put (Ei:=[(63,_),(61,_)]) rfl rfl (W.Srcs.cons (W.Src.op 14 rfl rfl) (W.Srcs.cons (W.Src.op 12 rfl rfl) W.Srcs.nil)) rfl (Bj Z_51 (Ht rfl) (Ht rfl) (El.ag rfl) (i:=5) rfl rfl (by rw [List.length_map,cO]; omega)) ?_
   refine W.D_done bF rfl (by kernel_rfl) rfl (W.F_val (W.F_val (W.F_val (W.F_val (W.F_val (W.F_val (W.F_val (W.F_val (W.F_val (W.F_val (W.F_val (W.F_val (W.F_val (W.F_val (W.F_val (W.F_put (W.F_nil (eZ (bH (cY (ro rfl (dW (Ht rfl) (cJ 1) z6) (rm rfl (eZ (gQ (j + 1) hj2 zo (zS rfl) (aU (aB rfl) (aU (aB rfl) (aU (aB rfl) (aU (fun _ _ _ h=>h) (aU (fun _ _ _ h=>h) (aU (aR (by rw [fL]; exact congrArg _ (jK (f:=(fun j=>gm s0 i j))))) aY))))))))))))))))))))))))))))))
  ·obtain rfl : j = 2 := by simp only [decide_eq_false_iff_not] at he; omega
   rw [jJ (fun j=>gm s0 i j)]
   refine gK rfl (bH (kR 4 5 rfl rfl (by decide) (by simp only [dM,List.length_map,cO]; omega) ?_))
   refine cY (ro rfl (dW (Ht rfl) (cJ 1) z6) (rm rfl (eZ (bL [0,1,2,3,4] rfl (by decide) (gQ (i + 1) hi2 zo (zS rfl) (aU (aB rfl) (aU (aB rfl) (aU (aB rfl) (aU (fun _ _ _ h=>h) (aU (eT (by rw [kY]; exact congrArg _ (jK (f:=(fun i=>tab 2 fun j=>gm s0 i j))))) aY))))))))))
 ·obtain rfl : i = 2 := by simp only [decide_eq_false_iff_not] at hd; omega
  rw [jJ,jJ]
  have hzt:tab 2 (gv z0) = z0:=by rw [← hzl]; exact (zN rfl).symm
  have hst:(tab 2 fun i=>tab 2 fun j=>gm s0 i j) = s0:=(qI hsh).symm
  rw [hzt,hst]
  refine gK rfl (ts (rm rfl (rm rfl (ro rfl (dG (Ht rfl) (cJ 1) zo z6) (ro rfl (eW A_51 Z_51 (Ht rfl) (i:=0) rfl rfl rfl) (ro rfl (dE U_29 Z_51 (Ht rfl) (Ht rfl) rfl (i:=3) rfl (by rw [List.length_map]; omega) rfl) ?_))))))
  refine kS Z_51 (Ht rfl) (Ht rfl) (El.ag rfl) (i:=3) rfl rfl (by rw [List.length_map]; omega) rfl ?_
  refine eZ (cK (lR 3 rfl (aR ((fL aD z0 0 zz).trans (by rw [hz0]; rfl)):∀ S m V,_ → (bM 51 5 B27 ((tU zl zz).map aD)).h S m V) ?_))
  refine gG (i:=3) (tt:=11) rfl rfl gD (gG (i:=4) (tt:=12) rfl rfl (rJ (s:=5) (M:=s0) hsh.1.symm) (cY (rm rfl (rm rfl (ro rfl (cZ Tryz.call85 hnw ⟨(Ht rfl),(Ht rfl),trivial⟩) (rm rfl (ro rfl (dU (Ht rfl) rfl) (ro rfl (dU (Ht rfl) rfl) (rn rfl (eG (Ts:=[Is (.slice none 0 0),Is (.slice none 0 0)]) O_32 rfl (fun V=>aW zd (aW zd (aG)))) fun B15=>(gJ Z_32 (Ht rfl) (Ht rfl) rfl (i:=5) rfl (aK rfl) rfl rfl (ra rfl (eZ ?_))))))))))))
  refine cK (bL [0,1,2,3,4,5] rfl (by decide) (cY (ro rfl (eW A_32 Z_32 (Ht rfl) (i:=5) rfl rfl rfl) (rm rfl (ro rfl (iY (Ht rfl) cV) (gJ Z_32 (Ht rfl) (Ht rfl) rfl (i:=1) rfl (aK rfl) rfl rfl (ra rfl (eZ (bI rfl (fJ (fY A_32 Z_32 rfl (i:=1) rfl rfl) ?_) (eY rfl))))))))))
  exact (fun v V h=>by rw [← hs0]; exact h)
end
section
open Go Go.RowKit
section
variable {P:Program} {n:Nat} {E:cH} {H:Hp}
variable {d:Option Tmp} {t:TypeId} {pos:String} {af:Array Edge} {g:Option (Nat × Bool)}
theorem Hu {x y : Operand} {i B o' : Nat} {BT : TypeId} {Ts Ws : List Ty} {T : Ty} [hsh : dC T 1 false] (hS : ∀ w, (sizeOf t).run P w = .ok 1 w) (hx : bC E x (bP B o')) (hy : bC E y T)
  (hH:H[i]? = some (box B BT Ts)) (hlt:o' < Ts.length) (hW:Ts.set o' T = Ws) {t':TypeId} {H':Hp} (hH':H.set i (box B BT Ws) = H') :
  W.PutTy P n E H H' ⟨none,.store t x y,t',pos,af,none⟩:=by subst hW; subst hH'; exact a2G hS hx hy hH hlt
theorem Ns {x y : Operand} {m e s : Nat} {tn : TypeId} {i : TypeInfo} {z : Value} {kd kn : IntKind} (ht : P.underlying t = some (.slice e)) (htn : P.underlying tn = some (.int kn)) (hi : P.info? e = some i) (hz : i.zero = some z) (hs : i.size = s) (hzs : z.cells.size = s) (hs0 : 0 < s)
  (hx:bC E x (Is (.slice none 0 0))) (hy:bC E y (aE kd (m:Int))) (h0:0 < m) (hb:m * i.bytes ≤ 281474976710656) (hm:m ≤ 9223372036854775807) {t':TypeId} :
  iC P n E H ⟨d,.call ⟨.builtin .append,#[x,y],#[t,tn]⟩,t',pos,af,g⟩ (Nat × Nat) (fun q=>Is (.slice (some ⟨q.1,0,none⟩) m q.2)) (fun q=>bM e s (.slice (some ⟨q.1,0,none⟩) 0 q.2) []):=iC.of fun cx X a w V hi' hsl=>by
 have ex:a.eval x = .slice none 0 0:=hx n V a hsl
 have ey:a.eval y = .int kd (m:Int):=hy n V a hsl
 have hr:=Lib.run_append_nil_zeros (P:=P) w t tn t' e i z kd kn ht htn hi hz m h0 zo zo hb
 have hge:=grownCap_ge w m 0 e
 have hcm:grownCap w m 0 e ≤ maxLen:=grownCap_le_maxLen w m 0 e (by simp only [maxLen]; omega)
 subst hs
 refine ⟨(w.heap.size,grownCap w m 0 e),_,_,?_,rfl,(hi'.drew).alloc (ob:=.cells (Builtin.zeroCells z.cells m ++ Builtin.zeroCells z.cells (grownCap w m 0 e - m)) e) (fun mm hm'=>⟨[],⟨trivial,by simp,by simp [cR]⟩,.inr ⟨w.heap.size,grownCap w m 0 e,_,rfl,rfl,hm',Nat.zero_le _,hcm,?_,by simp [cR]⟩⟩)⟩
 ·simp [execOp,resolve,invoke,builtin,ex,ey,hr,Sem.run_bind,Result.andThen]
 ·simp only [Array.size_append, size_zeroCells, hzs, ← Nat.add_mul]
  congr 1; omega
theorem Lt {x : Operand} {ad : Option Addr} {l cap : Nat} {e : TypeId} {ta : TypeId} (hU : ∀ w, (underlying ta).run P w = .ok (.slice e) w) (hx : bC E x (Is (.slice ad l cap))) :
  aF P n E H ⟨d,.call ⟨.builtin .cap,#[x],#[ta]⟩,t,pos,af,g⟩ (aE .i64 cap) :=
 dR fun a V w hs => by
  have e1:a.eval x = .slice ad l cap:=hx n V a hs
  exact ⟨.int .i64 cap,by simp [execOp,resolve,e1,invoke,builtin,Builtin.cap_,Sem.run_bind,hU,Result.andThen,goInt],rfl⟩
theorem Cj {x hiO : Operand} {ad : Option Addr} {l cap m s : Nat} {kd : IntKind} {e : TypeId} (hU : ∀ w, (underlying t).run P w = .ok (.slice e) w) (hS : ∀ w, (sizeOf e).run P w = .ok s w) (hx : bC E x (Is (.slice ad l cap))) (hh : bC E hiO (aE kd (m : Int))) (h1 : m ≤ cap) {t' : TypeId} :
  aF P n E H ⟨d,.slice t x none (some hiO) none,t',pos,af,g⟩ (Is (.slice ad m cap)) :=
 dR fun a V w hs => by
  have e1:a.eval x = .slice ad l cap:=hx n V a hs
  have eh:a.eval hiO = .int kd (m:Int):=hh n V a hs
  have had:(ad.map fun x:Addr=>x.add 0) = ad:=by cases ad <;> simp [Addr.add]
  refine ⟨.slice ad m cap,?_,rfl⟩
  simp [execOp,e1,eh,Instr.sliceAt,Instr.slice,Instr.sliceBounds,Instr.sliceBound,asIntOf,Sem.run_bind,hU,hS,Result.andThen,h1,had]
end
end
section
open Go Go.RowKit
theorem a2b:Tryz.prog.underlying 3 = some (.int .i64):=by kernel_rfl
end
section
open Go Go.RowKit
theorem a06 {m:Nat} (hm:m ≤ 1000):jG Tryz.prog 205 [Is (.slice none 0 0),NT .i64 m] [] (Value) (fun v=>Is v) (fun v=>[bM 51 5 v []]) (fun _=>True):=by
 refine jG.intro Tryz.func205 rfl Tryz.ntmps205 rfl (fun cx Z=>(ts (ro rfl (cQ cV) (eZ (cK (ts (rm rfl (ro rfl (gV (Ht rfl) (cJ 0)) (eZ (fN (Ht rfl) (by simp) ?_))))))))))
 refine cU (cK (ts (rm rfl (rm rfl (ro rfl (Lt U_29 (Ht rfl)) (rm rfl (ro rfl (jV U_29 (Ht rfl)) (ro rfl (dG (Ht rfl) (Ht rfl) zo z6) (ro rfl (dG (Ht rfl) (Ht rfl) zo z6) (ra rfl (eZ (ts (rm rfl (ro rfl (fA (Ht rfl) (cJ 0)) (eZ (dQ (Ht rfl) (fun hb=>?_) (fun hb=>?_)))))))))))))))))
 ·have h0 : 0 < m := by simp only [decide_eq_true_eq] at hb; omega
  refine cY (rm rfl (rm rfl (ro rfl (Lt U_29 (Ht rfl)) (ro rfl (Cj U_29 Z_51 (Ht rfl) (Ht rfl) (Nat.le_refl _)) (rm rfl (rn rfl (Ns (i:=Tryz.t51) kC a2b iV rfl rfl rfl (by decide) (Ht rfl) (Ht rfl) zo (by show _ * 88 ≤ _; omega) zo) fun q22=>(rm rfl (ro rfl (jV U_29 (Ht rfl)) (ro rfl (Cj U_29 Z_51 (Ht rfl) (Ht rfl) (Nat.zero_le _)) (ra rfl (eZ (ts (rm rfl (ra rfl (eZ ?_)))))))))))))))
  exact lW _ trivial [0,1] ⟨⟨_,rfl,fun _ _ _ h=>h⟩,⟨_,rfl,fun _ _ _ h=>h⟩,trivial⟩ (by decide) (yN rfl (eY rfl))
 ·obtain rfl : m = 0 := by simp only [decide_eq_false_iff_not] at hb; omega
  refine rA 51 5 (cU (ts (rm rfl (ra rfl (eZ ?_)))))
  exact lW _ trivial [0,1] ⟨⟨_,rfl,fun _ _ _ h=>h⟩,⟨_,rfl,fun _ _ _ h=>h⟩,trivial⟩ (by decide) (yN rfl (eY rfl))
abbrev cat (ls:List (List Qi)) (i:Nat):List Qi:=(ls.take i).flatten
theorem Fz {ls:List (List Qi)} {i:Nat} (h:i < ls.length):cat ls (i + 1) = cat ls i ++ ls.getD i []:=by
 simp only [cat]
 rw [List.take_succ_eq_append_getElem h,List.flatten_append]
 simp [List.getD,h]
theorem Mm (ls:List (List Qi)):cat ls ls.length = ls.flatten:=by rw [cat,List.take_length]
theorem Rz {ls:List (List Qi)} {i:Nat} (h:i ≤ ls.length):(cat ls i).length ≤ ls.flatten.length:=by
 have e:ls.flatten = (ls.take i).flatten ++ (ls.drop i).flatten:=by rw [← List.flatten_append,List.take_append_drop]
 show (ls.take i).flatten.length ≤ _
 rw [e,List.length_append]; omega
theorem Uo {ls:List (List Qi)} (hl:ls.length ≤ 1000) (hf:ls.flatten.length ≤ 1000):bB Tryz.prog 116 [jT 1 (ls.map bA)] (bA ls.flatten):=by
 refine bB.intro Tryz.func116 rfl Tryz.ntmps116 rfl (fun cx=>(ts (ro rfl (cQ cV) (eZ (ts (ro rfl (cQ (cJ 0)) (eZ (cK (ts (rm rfl (ro rfl (dK U_30 (Ht rfl) aA) (ro rfl (cX (cJ 0)) (eZ (eK ?_))))))))))))))
 refine cM (fun (i : Nat) => i ≤ ls.length) (fun (i : Nat) => ls.length - i) (fun (i : Nat) => [(0, jT 1 (ls.map bA)), (3, NT .i64 (cat ls i).length), (9, jT 1 (ls.map bA)), (10, NT .i64 ls.length), (11, NT .i64 i)]) (fun (i : Nat) => []) 0 (Nat.zero_le _)
  (zS rfl) aY (fun i hi=>?_)
 refine ts (ro rfl (gV (Ht rfl) (Ht rfl)) (eZ (cK (dQ (Ht rfl) (fun hd=>?_) (fun hd=>?_)))))
 ·have hin : i < ls.length := by simp only [decide_eq_true_eq] at hd; omega
  have hcn:=Fz hin
  have hcl:=Rz (ls:=ls) (i:=i + 1) hin
  rw [hcn,List.length_append] at hcl
  refine cU (cK (eK (ts (ro rfl (dZ U_30 Z_29 (Ht rfl) (Ht rfl) rfl (eQ (dY (d:=[]) zo))) (ro rfl (dV A_29 Z_29 (Ht rfl)) (ra rfl (eZ (ts (rm rfl (rm rfl (ro rfl (dK U_29 (Ht rfl) aA) (ro rfl (dW (Ht rfl) (Ht rfl) (by show _ < 9223372036854775808; omega)) (ra rfl (eZ (ts (rm rfl (ro rfl (gV (Ht rfl) (cJ 0)) (eZ (fN (Ht rfl) (by simp) ?_)))))))))))))))))))
  refine cU (bH (cY (ro rfl (dW (Ht rfl) (cJ 1) z6) (rm rfl (eZ (gQ (i + 1) hin zo (aQ rfl (aZ rfl (lI (by rw [hcn,List.length_append])) (zS rfl))) aY))))))
 ·have hin : i = ls.length := by simp only [decide_eq_false_iff_not] at hd; omega
  rw [hin,Mm]
  refine gK rfl (ts (rm rfl (nP Tryz.call205 (a06 (m:=ls.flatten.length) hf) ⟨cV,(Ht rfl),trivial⟩ rfl (fun v24 _=>(ra rfl (eZ (cK (ts (rm rfl (ro rfl (dK U_30 (Ht rfl) aA) (ro rfl (cX (cJ 0)) (eZ (eK ?_)))))))))))))
  refine fT (fun (j : Nat) (v : Value) => j ≤ ls.length) (fun (j : Nat) (v : Value) => ls.length - j) (fun (j : Nat) (v : Value) => [(0, jT 1 (ls.map bA)), (6, Is v), (25, jT 1 (ls.map bA)), (26, NT .i64 ls.length), (27, NT .i64 j)]) (fun (j : Nat) (v : Value) => [bM 51 5 v ((cat ls j).map aD)]) 0 _ (Nat.zero_le _)
   (zS rfl) (aU (aR rfl) aY) (fun j v hj=>?_)
  refine ts (ro rfl (gV (Ht rfl) (Ht rfl)) (eZ (cK (dQ (Ht rfl) (fun he=>?_) (fun he=>?_)))))
  ·have hjn : j < ls.length := by simp only [decide_eq_true_eq] at he; omega
   have hcn:=Fz hjn
   have hcl:=Rz (ls:=ls) (i:=j + 1) hjn
   rw [hcn,List.length_append] at hcl
   refine cU (cK (eK (ts (ro rfl (dZ U_30 Z_29 (Ht rfl) (Ht rfl) rfl (eQ (dY (d:=[]) zo))) (ro rfl (dV A_29 Z_29 (Ht rfl)) (ra rfl (eZ (cY (rm rfl (rm rfl (Bi (inf:=Tryz.t51) kC iV rfl rfl rfl (Ht rfl) (Ht rfl) (i:=0) rfl (fun T hT=>by obtain ⟨x,_,rfl⟩:=List.mem_map.1 hT; exact El.ag rfl) (by show _ * 88 ≤ _; simp only [List.length_map]; omega) (by simp only [List.length_map]; omega) rfl (fun v2=>?_))))))))))))
   refine ra rfl (eZ (bH (cY (ro rfl (dW (Ht rfl) (cJ 1) z6) (rm rfl (eZ (gQ (j + 1,v2) hjn (by dsimp only; omega) (zS rfl) (aU (aR (by rw [hcn,List.map_append])) aY))))))))
  ·have hjn : j = ls.length := by simp only [decide_eq_false_iff_not] at he; omega
   rw [hjn,Mm]
   refine gK rfl (gG (i:=0) (tt:=6) rfl rfl gD (ts (rm rfl (ra rfl (eZ ?_)))))
   exact fK rfl (eY rfl)
theorem Ql {z zb:List Qi} {a b:List (List Qi)} {x y i j:Nat} (ha:eR a x x) (hb:eR b y y) (hx:x ≤ 100) (hy:y ≤ 100) (hi:i < x + y) (hj:j < x + y):bB Tryz.prog 115 [NT .i64 i,NT .i64 j,PT (NT .i64 x),PT (bR z a),PT (bR zb b)] (aD (gm (zM a b x y) i j)):=by
 have hal:=ha.1
 have hbl:=hb.1
 rw [oT hi hj]
 refine bB.intro Tryz.func115 rfl Tryz.ntmps115 rfl (fun cx=>(ts (rn rfl (eG (Ts:=[Is (.bool false),Is (.slice none 0 0),Is (.bool false),Is (.slice none 0 0),Is (.slice none 0 0)]) O_51 rfl (fun V=>aW zd (aW zd (aW zd (aW zd (aW zd (aG))))))) fun B7=>(eZ (cK (eK (ts (rm rfl (ro rfl (dV A_3 Z_3 (Ht rfl)) (ro rfl (gV (Ht rfl) (Ht rfl)) (rm rfl (fX rfl rfl (eU rfl rfl (Ht rfl) (fun h=>cX (Ht rfl))) ?_))))))))))))
 refine fX rfl rfl (eU rfl rfl (Ht rfl) (fun h=>dV A_3 Z_3 (Ht rfl))) (fX rfl rfl (eU rfl rfl (Ht rfl) (fun h=>gV (fW rfl h) (fW rfl h))) (ro rfl (eA (Ht rfl) (fun h=>(fW rfl h))) (ra rfl (eZ (dQ (Ht rfl) (fun h1=>?_) (fun h1=>?_))))))
 ·have h2 : i < x ∧ j < x := by simpa using h1
  have har:=ha.row h2.1
  refine ts (ro rfl (jI dI (Ht rfl) rfl) (ro rfl (dV A_30 Z_30 (Ht rfl)) (rm rfl (ro rfl (dZ U_30 Z_29 (Ht rfl) (Ht rfl) rfl (eQ (dY (d:=[]) zo))) (ro rfl (dV A_29 Z_29 (Ht rfl)) (rm rfl (ro rfl (dZ U_29 Z_51 (Ht rfl) (Ht rfl) rfl (eQ (dY (d:=Qi.zero) zo))) (ro rfl (dV A_51 Z_51 (Ht rfl)) (gJ Z_51 (Ht rfl) (Ht rfl) rfl (i:=0) rfl (aK rfl) rfl rfl (eZ (fK rfl (fJ (fY A_51 Z_51 rfl (i:=0) rfl rfl) ?_))))))))))))
  exact (gP (by rw [if_pos h2.1,if_pos h2.2]))
 ·have h2 : ¬ (i < x ∧ j < x) := by simpa using h1
  refine ts (rm rfl (ro rfl (dV A_3 Z_3 (Ht rfl)) (ro rfl (mQ (Ht rfl) (Ht rfl)) (rm rfl (fX rfl rfl (eU rfl rfl (Ht rfl) (fun h=>cX (Ht rfl))) (fX rfl rfl (eU rfl rfl (Ht rfl) (fun h=>dV A_3 Z_3 (Ht rfl))) (fX rfl rfl (eU rfl rfl (Ht rfl) (fun h=>mQ (fW rfl h) (fW rfl h))) (ro rfl (eA (Ht rfl) (fun h=>(fW rfl h))) (ra rfl (eZ (dQ (Ht rfl) (fun h3=>?_) (fun h3=>?_))))))))))))
  ·have h4 : x ≤ i ∧ x ≤ j := by simpa using h3
   have hbr:=hb.row (i:=i - x) zo
   refine cK (fV (m:=10) (dp 4 rfl (jI dI (Ht rfl) rfl) (dq 34 0 rfl (dV A_30 Z_30 (Ht rfl)) (dp 0 rfl (cX (Ht rfl)) (dp 2 rfl (dV A_3 Z_3 (Ht rfl)) (dS 36 2 37 3 rfl (dG (Ht rfl) (Ht rfl) zo z6) (dS 35 1 38 4 rfl (dZ U_30 Z_29 (Ht rfl) (Ht rfl) rfl (eQ (dY (d:=[]) zo))) (dq 39 5 rfl (dV A_29 Z_29 (Ht rfl)) (dp 1 rfl (cX (Ht rfl)) (dp 2 rfl (dV A_3 Z_3 (Ht rfl)) ?_))))))))))
   refine dS 41 7 42 8 rfl (dG (Ht rfl) (Ht rfl) zo z6) (fG bF rfl (by kernel_rfl) (zF (zF (aJ (aJ (aV (ro rfl (dZ U_29 Z_51 (Ht rfl) (Ht rfl) rfl (eQ (dY (d:=Qi.zero) zo))) (ro rfl (dV A_51 Z_51 (Ht rfl)) (gJ Z_51 (Ht rfl) (Ht rfl) rfl (i:=0) rfl (aK rfl) rfl rfl (eZ (fK rfl (fJ (fY A_51 Z_51 rfl (i:=0) rfl rfl) ?_))))))))))))
   exact (gP (by rw [if_neg zo,if_pos h4.2]))
  ·have h4 : ¬ (x ≤ i ∧ x ≤ j) := by simpa using h3
   have h5 : Qi.ofInt (0 : Nat) = (if i < x then if j < x then gm a i j else Qi.zero else if x ≤ j then gm b (i - x) (j - x) else Qi.zero) := by
    by_cases e:i < x
    ·rw [if_pos e,if_neg zo]; rfl
    ·rw [if_neg e,if_neg zo]; rfl
   refine cU (bH (ts (ro rfl (cZ K_109 (sH (n:=0) (by decide) (by decide)) ⟨(cJ 0),trivial⟩) (gJ Z_51 (Ht rfl) (Ht rfl) rfl (i:=0) rfl (aK rfl) rfl rfl (eZ (fK rfl (fJ (fY A_51 Z_51 rfl (i:=0) rfl rfl) ?_)))))))
   exact (gP h5)
theorem a0a {z zb:List Qi} {a b:List (List Qi)} (ha:eR a z.length z.length) (hb:eR b zb.length zb.length) (hx:z.length ≤ 100) (hy:zb.length ≤ 100):bB Tryz.prog 30 [bR z a,bR zb b] (dO [bR (Wb z zb) (Zo z zb a b),aE .i64 (Ve z.length zb.length)]):=by
 refine bB.intro Tryz.func30 rfl Tryz.ntmps30 rfl (fun cx=>(ts (rn rfl (fU (Ht rfl)) fun B2=>(rn rfl (fU (Ht rfl)) fun B3=>(rn rfl (eG (Ts:=[Is (.slice none 0 0),Is (.slice none 0 0)]) O_32 rfl (fun V=>aW zd (aW zd (aG)))) fun B4=>(ro rfl (cQ (cJ 0)) (eZ (cK (Y.D_start (m:=12) [] (bY (Ei:=[(2,_)]) rfl rfl (bQ (bJ rfl rfl) bX) rfl rfl (dX rfl (eJ eO (Ht rfl) rfl)) (bY (Ei:=[(9,_)]) rfl rfl (bQ (bZ 0 rfl rfl) bX) rfl rfl (dX rfl (fQ A_29 Z_29 (Ht rfl) (i:=0) rfl rfl)) ?_)))))))))))
 refine bY (Ei:=[(10,_)]) rfl rfl (bQ (bZ 1 rfl rfl) bX) rfl rfl (dX rfl (dK U_29 (Ht rfl) aA)) (bY (Ei:=[(2,_)]) rfl rfl (bQ (bJ rfl rfl) bX) rfl rfl (dX rfl (eJ eO (Ht rfl) rfl)) (bY (Ei:=[(12,_)]) rfl rfl (bQ (bZ 3 rfl rfl) bX) rfl rfl (dX rfl (fQ A_29 Z_29 (Ht rfl) (i:=0) rfl rfl)) (bY (Ei:=[(13,_)]) rfl rfl (bQ (bZ 4 rfl rfl) bX) rfl rfl (dX rfl (dK U_29 (Ht rfl) aA)) ?_)))
 refine bY (Ei:=[(3,_)]) rfl rfl (bQ (bJ rfl rfl) bX) rfl rfl (dX rfl (eJ eO (Ht rfl) rfl)) (bY (Ei:=[(15,_)]) rfl rfl (bQ (bZ 6 rfl rfl) bX) rfl rfl (dX rfl (fQ A_29 Z_29 (Ht rfl) (i:=1) rfl rfl)) (bY (Ei:=[(16,_)]) rfl rfl (bQ (bZ 7 rfl rfl) bX) rfl rfl (dX rfl (dK U_29 (Ht rfl) aA)) (bY (Ei:=[(14,_),(17,_)]) rfl rfl (bQ (bZ 5 rfl rfl) (bQ (bZ 8 rfl rfl) bX)) rfl rfl (dX rfl (dW (Ht rfl) (Ht rfl) z6)) ?_)))
 refine Y.D_newp (Ei:=[]) (fun bb=>box bb 3 [NT .i64 z.length]) 11 rfl rfl rfl bX rfl rfl (by kernel_rfl) (eG (Ts:=[Is (.int .i64 0)]) O_3 rfl (fun V=>aW zd (aG))) (Y.D_putN (Ei:=[(11,_)]) 10 rfl rfl rfl rfl rfl rfl (bQ (bZ 2 rfl rfl) bX) (fun bb=>Hu Z_3 (Ht rfl) (Ht rfl) (i:=0) rfl (aK rfl) rfl rfl) (Y.D_done bF rfl (by kernel_rfl) rfl (by simp [Y.okP]) rfl rfl (bU (bU (bU (bU (bU (bU (bU (bU (bU (bU (Y.F_newp (fun B6=>Y.F_putN (Y.F_nil ?_)))))))))))))))
 refine ra rfl (eZ (cK (ts (rm rfl (ro rfl (fA (Ht rfl) (cJ 8)) (eZ (dQ (Ht rfl) (fun hb1=>?_) (fun hb1=>?_))))))))
 ·have h2 : 8 < z.length + zb.length := by simpa using hb1
  have he:=Zp h2
  refine ts (ro rfl (aF.imp (iU ) iS) (gJ Z_32 (Ht rfl) (Ht rfl) rfl (i:=2) rfl (aK rfl) rfl rfl (ro rfl (cQ (cJ 4)) (eZ (bI rfl (fJ (fY A_32 Z_32 rfl (i:=2) rfl rfl) ?_) (fJ (eY rfl) ?_))))))
  ·exact (fun v V h=>by rw [Wb,Zo,iH,iH,he]; exact h)
  ·exact (aM he.symm)
 ·have h2 : ¬ 8 < z.length + zb.length := by simpa using hb1
  have he:=Ss h2
  refine cU (cK (gG (i:=0) (tt:=2) rfl rfl fR (gG (i:=1) (tt:=3) rfl rfl fR (gG (i:=3) (tt:=6) rfl rfl iB (cY (rm rfl (ro rfl (lS (γ:=Fin (z.length + zb.length) × Fin (z.length + zb.length)) (Ts:=fun x=>[NT .i64 x.1.1,NT .i64 x.2.1]) (U:=fun x=>aD (gm (zM a b z.length zb.length) x.1.1 x.2.1)) Tryz.call115 (fun x=>Ql ha hb hx hy x.1.2 x.2.2) ⟨(Ht rfl),(Ht rfl),(Ht rfl),trivial⟩) (ro rfl (cZ K_114 (eX (yY (n:=z.length + zb.length) (f:=fun i j=>gm (zM a b z.length zb.length) i j) zo) (kB (congrArg _ (qI (yO a b z.length zb.length)).symm))) ⟨(Ht rfl),(Ht rfl),trivial⟩) ?_))))))))
  refine ra rfl (eZ (ts (ro rfl (jI eO (Ht rfl) rfl) (ro rfl (dV A_29 Z_29 (Ht rfl)) (ro rfl (jI eO (Ht rfl) rfl) (ro rfl (dV A_29 Z_29 (Ht rfl)) (ro rfl (dH (xs:=[.tmp 26,.tmp 28]) U_30 Z_29 O_29 (cW (Ht rfl) (cW (Ht rfl) cG)) rfl rfl rfl) (ro rfl (cZ Tryz.call116 (eX (Uo (ls:=[z,zb]) (by simp) (by simp; omega)) (kB (Us:=(z ++ zb).map aD) (by simp))) ⟨(Ht rfl),trivial⟩) ?_))))))))
  refine rm rfl (ro rfl (qL (Ht rfl) (Ht rfl)) (gJ Z_32 (Ht rfl) (Ht rfl) rfl (i:=2) rfl (aK rfl) rfl rfl (ro rfl (cQ (cJ 0)) (eZ (bI rfl (fJ (fY A_32 Z_32 rfl (i:=2) rfl rfl) ?_) (fJ (eY rfl) ?_))))))
  ·exact (fun v V h=>by rw [Wb,Zo,iH,iH,he]; exact h)
  ·exact (aM he.symm)
theorem Me {z:List Qi} {s:List (List Qi)} {q:Int} {o:List Int} (hl:z.length ≤ 1000) (ho:o.length ≤ 1000):bB Tryz.prog 125 [bR z s,aE .i64 q,jT 1 (o.map (aE .i64))] (aE .i64 (dP z.length q o)):=by
 refine bB.intro Tryz.func125 rfl Tryz.ntmps125 rfl (fun cx=>(ts (rn rfl (fU (Ht rfl)) fun B3=>(ro rfl (cQ (cJ 0)) (eZ (cK (eK (ts (ro rfl (eW A_32 Z_32 (Ht rfl) (i:=0) rfl rfl rfl) (rm rfl (ro rfl (cZ K_106 Ca ⟨(Ht rfl),(Ht rfl),trivial⟩) (ro rfl (eE (Ht rfl)) (ra rfl (eZ (dQ (Ht rfl) (fun hb1=>?_) (fun hb1=>?_))))))))))))))))
 ·have h2 : ¬ (1 ≤ q ∧ q ≤ (z.length : Int)) := by simpa only [Bool.not_eq_true', decide_eq_false_iff_not] using hb1
  refine ts (ro rfl (cQ (cJ 1)) (eZ (fK rfl (fJ (eY rfl) ?_))))
  exact (aM (if_pos h2).symm)
 ·have h2 : 1 ≤ q ∧ q ≤ (z.length : Int) := by simpa using hb1
  refine ts (rm rfl (rm rfl (ro rfl (cZ Tryz.call95 (sZ (l:=o) (v:=q) zo) ⟨(Ht rfl),(Ht rfl),trivial⟩) (ra rfl (eZ (dQ (Ht rfl) (fun hb2=>?_) (fun hb2=>?_)))))))
  ·refine ts (ro rfl (cQ (cJ 8)) (eZ (fK rfl (fJ (eY rfl) ?_))))
   exact (aM (by rw [dP,if_neg (fun k=>k h2),if_pos hb2]; rfl))
  ·refine cU (bH (ts (ro rfl (cQ (cJ 0)) (eZ (fK rfl (fJ (eY rfl) ?_))))))
   exact (aM (by rw [dP,if_neg (fun k=>k h2),if_neg (by rw [hb2]; decide)]; rfl))
theorem Yu {z:List Qi} {s:List (List Qi)} {l:List Int} (hs:eR s z.length z.length) (hl:z.length ≤ 1000) (hll:l.length ≤ 1000):bB Tryz.prog 33 [bR z s,jT 1 (l.map (aE .i64))] (dO [bR (Qg z l) (Vo z s l),aE .i64 (Hz z.length l)]):=by
 refine bB.intro Tryz.func33 rfl Tryz.ntmps33 rfl (fun cx=>(ts (rn rfl (fU (Ht rfl)) fun B2=>(rn rfl (eG (Ts:=[Is (.slice none 0 0),Is (.slice none 0 0)]) O_32 rfl (fun V=>aW zd (aW zd (aG)))) fun B4=>(ro rfl (cQ (cJ 0)) (eZ (cK (ts (rm rfl (ro rfl (dK U_72 (Ht rfl) aA) (ro rfl (eJ eO (Ht rfl) rfl) (ro rfl (fQ A_29 Z_29 (Ht rfl) (i:=0) rfl rfl) (ro rfl (dK U_29 (Ht rfl) aA) (ro rfl (iR (Ht rfl) (Ht rfl)) ?_))))))))))))))
 refine eZ (dQ (Ht rfl) (fun hb1=>?_) (fun hb1=>?_))
 ·have h2 : l.length ≠ z.length := by simpa using hb1
  have he:=Qv h2
  refine ts (ro rfl (aF.imp (iU ) iS) (gJ Z_32 (Ht rfl) (Ht rfl) rfl (i:=1) rfl (aK rfl) rfl rfl (ro rfl (cQ (cJ 4)) (eZ (bI rfl (fJ (fY A_32 Z_32 rfl (i:=1) rfl rfl) ?_) (fJ (eY rfl) ?_))))))
  ·exact (fun v V h=>by rw [Qg,Vo,iH,iH,he]; exact h)
  ·exact (aM he.symm)
 ·have h2 : l.length = z.length := by simpa using hb1
  have hok:=Tg h2
  refine cU (cK (ts (rm rfl (ro rfl (dK U_72 (Ht rfl) aA) (ro rfl (cX (cJ 0)) (eZ (eK ?_)))))))
  refine cM (fun (i : Nat) => i ≤ l.length ∧ ∀ j, j < i → (fun i => dP z.length (l.getD i 0) (l.take i)) j = 0) (fun (i : Nat) => l.length - i) (fun (i : Nat) => [(1, jT 1 (l.map (aE .i64))), (2, bP B2 0), (4, bP B4 0), (16, jT 1 (l.map (aE .i64))), (17, NT .i64 l.length), (18, NT .i64 i)]) (fun (i : Nat) => [box B2 32 [bA z, dN s], box B4 32 [Is (.slice none 0 0), Is (.slice none 0 0)]]) 0 ⟨Nat.zero_le _, fun j h => by omega⟩
   (zS rfl) (aU (aB rfl) (aU (aB rfl) aY)) (fun i ⟨hi,h0⟩=>?_)
  refine ts (ro rfl (gV (Ht rfl) (Ht rfl)) (eZ (cK (dQ (Ht rfl) (fun hd=>?_) (fun hd=>?_)))))
  ·have hin : i < l.length := by simp only [decide_eq_true_eq] at hd; omega
   refine cU (cK (eK (ts (rm rfl (ro rfl (dZ U_72 Z_3 (Ht rfl) (Ht rfl) rfl (eQ (dY (d:=0) zo))) (ro rfl (dV A_3 Z_3 (Ht rfl)) (ra rfl (ra rfl (eZ (cK (fV (m:=5) (dp 2 rfl (eW A_32 Z_32 (Ht rfl) (i:=0) rfl rfl rfl) (dp 7 rfl (cX (Ht rfl)) (dp 1 rfl (cX (Ht rfl)) (dp 6 rfl (cX (Ht rfl)) (dS 25 2 26 3 rfl (pM U_72 Z_3 (Ht rfl) (Ht rfl) (fun m e=>by cases e) zo (by rw [List.length_map]; omega) (Us:=(l.take i).map (aE .i64)) (by rw [Int.toNat_natCast,List.map_take])) ?_))))))))))))))))
   refine fG bF rfl (by kernel_rfl) (zF (aJ (aV (ro rfl (cZ Tryz.call125 (Me (q:=l.getD i 0) (o:=l.take i) hl (by rw [List.length_take]; omega)) ⟨(Ht rfl),(Ht rfl),(Ht rfl),trivial⟩) ?_))))
   refine ra rfl (eZ (ts (rm rfl (ro rfl (fB (Ht rfl) cV) (eZ (dQ (Ht rfl) (fun he=>?_) (fun he=>?_)))))))
   ·have h3 : (fun i => dP z.length (l.getD i 0) (l.take i)) i ≠ 0 := by simpa using he
    have he2:Hz z.length l = dP z.length (l.getD i 0) (l.take i):=hok.trans (pR h0 h3 hin)
    refine ts (ro rfl (aF.imp (iU ) iS) (rm rfl (gJ Z_32 (Ht rfl) (Ht rfl) rfl (i:=1) rfl (aK rfl) rfl rfl (ra rfl (eZ (bI rfl (fJ (fY A_32 Z_32 rfl (i:=1) rfl rfl) ?_) (fJ (eY rfl) ?_)))))))
    ·exact (fun v V h=>by rw [Qg,Vo,iH,iH,he2,if_neg h3,if_neg h3]; exact h)
    ·exact (aM he2.symm)
   ·have h3 : (fun i => dP z.length (l.getD i 0) (l.take i)) i = 0 := by simpa using he
    refine cU (bH (cY (ro rfl (dW (Ht rfl) (cJ 1) z6) (rm rfl (eZ (bL [0,1] rfl (by decide) ?_))))))
    refine gQ (i + 1) ⟨hin, fun j h => by
      by_cases e:j = i
      ·rw [e]; exact h3
      ·exact h0 j zo⟩ zo (zS rfl) (aU (aB rfl) (aU (aB rfl) aY))
  ·have hin : i = l.length := by simp only [decide_eq_false_iff_not] at hd; omega
   have h3:sT z.length l = 0:=iP (by rw [hin] at h0; exact h0)
   have he:Hz z.length l = 0:=hok.trans h3
   refine gK rfl (ts (ro rfl (eW A_32 Z_32 (Ht rfl) (i:=0) rfl rfl rfl) (ro rfl (cX (bC.to (Ht rfl) (kB (Hh h3)))) (nP Tryz.call122 (Ek (Q:=uN l) (m:=l.length) hs (a0J h3) (Gp l) hll hl) ⟨(Ht rfl),(Ht rfl),trivial⟩ rfl (fun B36 _=>(gJ Z_32 (Ht rfl) (Ht rfl) rfl (i:=1) rfl (aK rfl) rfl rfl (ro rfl (cQ (cJ 0)) (eZ (tG 1 2 1 rfl rfl rfl (by decide) (a29 (q:=fun _=>True) (M:=tO s (uN l)) (by rw [(Rb s (uN l)).1,Gp])) ?_)))))))))
   refine bI rfl (fJ (fY A_32 Z_32 rfl (i:=1) rfl rfl) ?_) (fJ (eY rfl) ?_)
   ·exact (fun v V h=>by rw [Qg,Vo,iH,iH,he]; exact h)
   ·exact (aM he.symm)
end
section
open Go Go.RowKit
section
variable {P:Program} {n:Nat} {E:cH} {H:Hp}
variable {d:Option Tmp} {t:TypeId} {pos:String} {af:Array Edge} {g:Option (Nat × Bool)}
theorem Ug {f : FuncId} {xs : List Operand} {tys : Array TypeId} {Ts : List Ty} {U T0 T1 : Ty} {A : SA} {j tt : Nat} (hc : ∀ args w, (callFunc f args).run P w = .ok (.enter f args) w) (hF : bB P f Ts U)
  (hA:H[j]? = some A) (hl:fI E tt = some T0) (hz:∀ v S V,T0.p v V → A.h S V V → T1.p v V) (hU:∀ v V V',U.p v V → U.p v V') (ha:pQ ((tt,T1) :: E) xs Ts) :
  aF P n E H ⟨d,.call ⟨.value (.func f),xs.toArray,tys⟩,t,pos,af,g⟩ U:=fun cx X a w V hi hs K Q hK=>by
 have hrun : (execOp a.eval ⟨d, .call ⟨.value (.func f), xs.toArray, tys⟩, t, pos, af, g⟩).run P w = .ok (.enter f (xs.map a.eval).toArray) w := by
  simp [execOp,resolve,Act.eval,Deferred.ofValue,invoke,hc]
 simp only [Oper.wp,hrun,Oper.upon_enter]
 obtain ⟨F,h1,h2⟩:=hi.hp
 have hjl:=(List.getElem?_eq_some_iff.1 hA).1
 obtain ⟨k1,k2⟩:=h1 j A (by rw [List.getElem?_append_left hjl]; exact hA)
 let V1:aS:=fun b=>if b ∈ F j then w.heap[b]? else V b
 have hle : mD V V1 := fun b o hb => by
  have:b ∉ F j:=fun hf=>by have:=(k2 b hf).1; rw [hb] at this; cases this
  simp only [V1,if_neg this]; exact hb
 have hon : ∀ b o, V1 b = some o → w.heap[b]? = some o := fun b o hb => by
  by_cases hf:b ∈ F j
  ·simp only [V1,if_pos hf] at hb; exact hb
  ·simp only [V1,if_neg hf] at hb; exact hi.on b o hb
 have hA1:A.h (F j) V1 V1:=A.mono (A.loc k1 fun b hb=>by simp only [V1,if_pos hb]; rfl) hle
 have hsl : eL n ((tt, T1) :: E) V1 a := by
  have hs':=hs.mono hle
  refine ⟨hs'.1,hs'.2.1,fun t' T hT=>?_⟩
  rw [cL] at hT
  by_cases e:tt = t'
  ·subst e
   rw [if_pos rfl] at hT; obtain rfl:=Option.some.inj hT
   obtain ⟨v,q1,q2⟩:=hs'.2.2 _ _ hl
   exact ⟨v,q1,hz v (F j) V1 q2 hA1⟩
  ·rw [if_neg e] at hT; exact hs'.2.2 t' T hT
 refine (hF _ V1 w hon (pQ.all hsl ha)).mono ?_
 rintro e w' ⟨v,V',rfl,m1,m2,m3,m4,m5⟩
 exact hK v w' V (hi.after (mD.refl V) (fun b o hb=>m2 b o (m1 b o (hle b o hb))) (fun b o hb h0=>by rw [hb] at h0; cases h0) m4) (mD.refl V) (hU v V' V m5)
theorem Oo {x i : Operand} {q : Nat} {Ts : List Ty} {T : Ty} {kd : IntKind} {e : TypeId} {len : Nat} (hU : ∀ w, (underlying t).run P w = .ok (.array len e) w) (hS : ∀ w, (sizeOf e).run P w = .ok 1 w) (hg : ∀ w, (isAgg e).run P w = .ok false w)
  (hx:bC E x (eD Ts)) (hi:bC E i (NT kd q)) (hl:q < len) (hT:Ts[q]? = some T) {t':TypeId}:aF P n E H ⟨d,.index t x i,t',pos,af,g⟩ T :=
 dR fun a V w hs => by
  obtain ⟨vs,e1,e4⟩:=hx n V a hs
  have ei:a.eval i = .int kd (q:Int):=hi n V a hs
  obtain ⟨u,e5,e6⟩:=e4.all.get hT
  exact ⟨u,by simp [execOp,e1,ei,Instr.index,asIntOf,Sem.run_bind,hU,hS,hg,part,Result.andThen,hl,e5],e6⟩
end
end
section
open Go Go.RowKit
theorem Jb {n : Nat} {E : cH} {H : Hp} {d : Option Tmp} {t : TypeId} {pos : String} {af : Array Edge} {g : Option (Nat × Bool)} {x0 x1 : Operand} {T0 T1 : Ty} [s0 : dC T0 1 false] (h0 : bC E x0 T0) [s1 : dC T1 1 false] (h1 : bC E x1 T1) :
  aF Tryz.prog n E H ⟨d,.build 71 #[(0,x0),(1,x1)],t,pos,af,g⟩ (eD [T0,T1]) :=
 iA (parts := [(0, x0), (1, x1)]) fun a V w hs => by
  have p0:=h0 n V a hs
  generalize e0:a.eval x0 = v0 at p0
  have q0:=(s0.ok v0 V p0).2.2 rfl
  have p1:=h1 n V a hs
  generalize e1:a.eval x1 = v1 at p1
  have q1:=(s1.ok v1 V p1).2.2 rfl
  refine ⟨.agg #[v0,v1],?_,[v0,v1],rfl,aW (⟨p0,q0⟩) (aW (⟨p1,q1⟩) (aG))⟩
  simp [e0,e1,Instr.build,Instr.fill,Sem.run_bind,Result.andThen,fM,q0.cells,q1.cells,Tryz.zeroValue71,U_71,Z_3]
end
section
open Go Go.RowKit
theorem Vf {z:List Qi} {S:List (List Qi)} {js:List (Int × Int)} {L:Nat} (hfz:cC z L) (hL:1 ≤ L) (hLb:L ≤ 1000000) (hz:z.length ≤ 1000) (hj:js.length ≤ 100):bB Tryz.prog 117 [bR z S,JsT js] (dO [jT 1 ((jeL z js).map (aE .i64)),aE .i64 (Am z js)]):=by
 refine bB.intro Tryz.func117 rfl Tryz.ntmps117 rfl (fun cx=>(ts (rn rfl (fU (Ht rfl)) fun B2=>(ro rfl (cQ cV) (ro rfl (cQ (cJ 0)) (eZ (ts (ro rfl (cQ cV) (eZ (cK (cK (rA 3 1 (cY (rm rfl (ro rfl (dK U_26 (Ht rfl) aA) (ro rfl (cX (cJ 0)) (eZ (eK ?_))))))))))))))))))
 refine fT (fun (k : Nat) (vG : Value) => k ≤ js.length ∧ ∀ j, j < k → uP z js j = 0) (fun (k : Nat) (vG : Value) => js.length - k) (fun (k : Nat) (vG : Value) => [(1, JsT js), (2, bP B2 0), (6, Is vG), (12, JsT js), (13, NT .i64 js.length), (14, NT .i64 k)]) (fun (k : Nat) (vG : Value) => [box B2 32 [bA z, dN S], bM 3 1 vG ((nS (js.take k)).map (aE .i64))]) 0 _ ⟨Nat.zero_le _, fun j h => by omega⟩
  (zS rfl) (aU (aB rfl) (aU (aR rfl) aY)) (fun k vG ⟨hk,h0⟩=>?_)
 refine ts (ro rfl (gV (Ht rfl) (Ht rfl)) (eZ (cK (dQ (Ht rfl) (fun hd=>?_) (fun hd=>?_)))))
 ·have hkn : k < js.length := by simp only [decide_eq_true_eq] at hd; omega
  have hjk:=qO (js.take k)
  refine cU (cK (eK (ts (ro rfl (dZ U_26 Z_71 (Ht rfl) (Ht rfl) rfl (eQ (dY (d:=(0,0)) hkn))) (ro rfl (dV Tryz.isAgg71 Z_71 (Ht rfl)) (rn rfl (eG (Ts:=[Is (.int .i64 0),Is (.int .i64 0)]) Tryz.zeroValue71 rfl (fun V=>aW zd (aW zd (aG)))) fun B8=>(gJ Z_71 (Ht rfl) (Ht rfl) rfl (i:=2) rfl (aK rfl) rfl rfl (eZ (cK (cK (gG (i:=2) (tt:=8) rfl rfl fR (cY (ro rfl (dV Tryz.isAgg71 Z_71 (Ht rfl)) ?_)))))))))))))
  refine ro rfl (cX (cJ 0)) (eZ (eK (bL [0,1] rfl (by decide) ?_)))
  refine fT (fun (i : Nat) (vI : Value) => i ≤ 2 ∧ ∀ x, x < i → Ea z js k x = 0) (fun (i : Nat) (vI : Value) => 2 - i) (fun (i : Nat) (vI : Value) => [(1, JsT js), (2, bP B2 0), (6, Is vI), (8, PT (JT (lY js k))), (12, JsT js), (13, NT .i64 js.length), (14, NT .i64 k), (18, JT (lY js k)), (19, NT .i64 i)]) (fun (i : Nat) (vI : Value) => [box B2 32 [bA z, dN S], bM 3 1 vI ((nS (js.take k) ++ (Hn (lY js k)).take i).map (aE .i64))]) 0 _ ⟨Nat.zero_le _, fun x h => by omega⟩
   (zS rfl) (aU (aB rfl) (aU (aR (by rw [List.take_zero,List.append_nil])) aY)) (fun i vI ⟨hi,h1⟩=>?_)
  refine ts (ro rfl (gV (Ht rfl) (cJ 2)) (eZ (cK (dQ (Ht rfl) (fun he=>?_) (fun he=>?_)))))
  ·have hi2 : i < 2 := by simp only [decide_eq_true_eq] at he; omega
   have hol:(nS (js.take k) ++ (Hn (lY js k)).take i).length ≤ 300:=by rw [List.length_append,hjk,List.length_take,List.length_take]; omega
   refine cU (cK (eK (ts (ro rfl (Oo U_71 Z_3 A_3 (Ht rfl) (Ht rfl) zo (a09 hi2)) (ra rfl (eZ (cK (ts (ro rfl (eW A_32 Z_32 (Ht rfl) (i:=0) rfl rfl rfl) (rm rfl (rm rfl (ro rfl (Ug Tryz.call125 (Me (z:=z) (s:=S) (q:=(Hn (lY js k)).getD i 0) (o:=nS (js.take k) ++ (Hn (lY js k)).take i) hz zo) (j:=1) (tt:=24) rfl rfl gD (fun _ _ _ h=>h) ⟨(Ht rfl),(Ht rfl),(Ht rfl),trivial⟩) (ra rfl (eZ (ts (rm rfl (ro rfl (fB (Ht rfl) cV) (eZ (dQ (Ht rfl) (fun hf=>?_) (fun hf=>?_))))))))))))))))))))
   ·have h3 : Ea z js k i ≠ 0 := by simp only [Bool.not_eq_true', decide_eq_false_iff_not] at hf; exact hf
    have h4:=a2m hi2 h1 h3
    have h5:Ax z js = Ea z js k i:=(pR h0 (by rw [h4]; exact h3) hkn).trans h4
    have h6:Am z js = Ea z js k i:=(Te (by rw [h5]; exact h3)).trans h5
    refine ts (rm rfl (ro rfl (cQ cV) (ra rfl (eZ (bI rfl (fJ (eY rfl) ?_) (fJ (eY rfl) ?_))))))
    ·exact (fun v V h=>by rw [jeL,iH,h6,if_neg h3]; exact iT v V h)
    ·exact (aM h6.symm)
   ·have h3 : Ea z js k i = 0 := by simp only [Bool.not_eq_false', decide_eq_true_eq] at hf; exact hf
    refine cU (cY (rm rfl (rm rfl (ro rfl (dH (xs:=[.tmp 30]) U_72 Z_3 O_3 (cW (Ht rfl) cG) rfl rfl rfl) (mX (inf:=Tryz.t3) Af yJ rfl rfl rfl (Ht rfl) (Ht rfl) (i:=1) rfl (by simp) (fun T hT=>by simp at hT; subst hT; exact El.one) (by show _ * 8 ≤ _; simp only [List.length_map,List.length_cons,List.length_nil]; omega) (by simp only [List.length_map,List.length_cons,List.length_nil]; omega) rfl (fun v2=>?_))))))
    refine ra rfl (eZ (bH (cY (ro rfl (dW (Ht rfl) (cJ 1) z6) (rm rfl (eZ ?_))))))
    refine gQ (i + 1, v2) ⟨hi2, fun x hx => by
      by_cases e:x = i
      ·rw [e]; exact h3
      ·exact h1 x zo⟩ (by dsimp only; omega) (zS rfl) (aU (aB rfl) (aU (aR (by rw [Rv hi2,← List.append_assoc,List.map_append (l₁:=nS (js.take k) ++ (Hn (lY js k)).take i)]; rfl)) aY))
  ·obtain rfl : i = 2 := by simp only [decide_eq_false_iff_not] at he; omega
   obtain ⟨⟨p1,p2⟩,⟨p3,p4⟩,h3⟩:=a2s h1
   have hrow:nS (js.take (k + 1)) = nS (js.take k) ++ (Hn (lY js k)).take 2:=Fw hkn
   haveI g1:=hfz.get hL ((lY js k).1 - 1).toNat
   haveI g2:=hfz.get hL ((lY js k).2 - 1).toNat
   refine gK rfl (cK (fV (m:=14) (dp 2 rfl (eJ eO (Ht rfl) rfl) (dq 34 0 rfl (fQ A_29 Z_29 (Ht rfl) (i:=0) rfl rfl) (dp 8 rfl (Lj U_71 Z_3 (Ht rfl) cV rfl (by decide) rfl) (dq 36 2 rfl (dV A_3 Z_3 (Ht rfl)) (dq 37 3 rfl (gM (Ht rfl) cV (r:=((((lY js k).1 - 1).toNat:Nat):Int)) ((tD (z:=(lY js k).1 - 1) zo).trans zo)) ?_)))))))
   refine dS 35 1 38 4 rfl (dZ U_29 Z_51 (Ht rfl) (Ht rfl) rfl (eQ (dY (d:=Qi.zero) zo))) (dq 39 5 rfl (dV A_51 Z_51 (Ht rfl)) (dp 2 rfl (eJ eO (Ht rfl) rfl) (dq 41 7 rfl (fQ A_29 Z_29 (Ht rfl) (i:=0) rfl rfl) (dp 8 rfl (Lj U_71 Z_3 (Ht rfl) cV rfl (by decide) rfl) (dq 43 9 rfl (dV A_3 Z_3 (Ht rfl)) (dq 44 10 rfl (gM (Ht rfl) cV (r:=((((lY js k).2 - 1).toNat:Nat):Int)) ((tD (z:=(lY js k).2 - 1) zo).trans zo)) ?_))))))
   refine dS 42 8 45 11 rfl (dZ U_29 Z_51 (Ht rfl) (Ht rfl) rfl (eQ (dY (d:=Qi.zero) zo))) (dq 46 12 rfl (dV A_51 Z_51 (Ht rfl)) (fG bF rfl (by kernel_rfl) (zF (zF (zF (aJ (aJ (aV (ro rfl (cZ Tryz.call139 (Ep (x:=gv z ((lY js k).1 - 1).toNat) (y:=gv z ((lY js k).2 - 1).toNat) (L:=L) (M:=L) zo zo) ⟨(Ht rfl),(Ht rfl),trivial⟩) (ro rfl (eE (Ht rfl)) ?_))))))))))
   refine eZ (dQ (Ht rfl) (fun hg=>?_) (fun hg=>?_))
   ·have h4 : uP z js k = 40 := by rw [h3, if_neg (by simpa using hg)]
    have h5:Ax z js = 40:=(pR h0 (by rw [h4]; decide) hkn).trans h4
    have h6:Am z js = 40:=(Te (by rw [h5]; decide)).trans h5
    refine ts (ro rfl (cQ cV) (ro rfl (cQ (cJ 40)) (eZ (bI rfl (fJ (eY rfl) ?_) (fJ (eY rfl) ?_)))))
    ·exact (fun v V h=>by rw [jeL,iH,h6]; exact iT v V h)
    ·exact (aM h6.symm)
   ·have h4 : uP z js k = 0 := by rw [h3, if_pos (by simpa using hg)]
    refine cU (bH (cY (ro rfl (dW (Ht rfl) (cJ 1) z6) (rm rfl (eZ ?_)))))
    refine gQ (k + 1, vI) ⟨hkn, fun j h => by
      by_cases e:j = k
      ·rw [e]; exact h4
      ·exact h0 j zo⟩ (by dsimp only; omega) (zS rfl) (aU (aB rfl) (aU (aR (by rw [hrow])) aY))
 ·obtain rfl : k = js.length := by simp only [decide_eq_false_iff_not] at hd; omega
  have h2:Ax z js = 0:=iP h0
  have hll:=qO js
  rw [List.take_length]
  refine gK rfl (cK (ts (rm rfl (ro rfl (nM U_72 (Ht rfl) (i:=1) rfl aA) (ro rfl (fA (Ht rfl) (cJ 0)) (rm rfl (fX rfl rfl (eU rfl rfl (Ht rfl) (fun h=>cX (Ht rfl))) (fX rfl rfl (eU rfl rfl (Ht rfl) (fun h=>nM U_72 (fW rfl h) (i:=1) rfl aA)) (fX rfl rfl (eU rfl rfl (Ht rfl) (fun h=>eJ eO (Ht rfl) rfl)) (fX rfl rfl (eU rfl rfl (Ht rfl) (fun h=>fQ A_29 Z_29 (fW rfl h) (i:=0) rfl rfl)) (fX rfl rfl (eU rfl rfl (Ht rfl) (fun h=>dK U_29 (fW rfl h) aA)) ?_)))))))))))
  refine fX rfl rfl (eU rfl rfl (Ht rfl) (fun h=>cB (fW rfl h) (fW rfl h))) (ro rfl (eA (Ht rfl) (fun h=>(fW rfl h))) (eZ (dQ (Ht rfl) (fun hc=>?_) (fun hc=>?_))))
  ·have h3 : 0 < 2 * js.length ∧ 2 * js.length = z.length := by simpa [hll] using hc
   have h6:Am z js = 4:=a00 h2 h3
   refine ts (ro rfl (cQ cV) (ro rfl (cQ (cJ 4)) (eZ (bI rfl (fJ (eY rfl) ?_) (fJ (eY rfl) ?_)))))
   ·exact (fun v V h=>by rw [jeL,iH,h6]; exact iT v V h)
   ·exact (aM h6.symm)
  ·have h3 : ¬ (0 < 2 * js.length ∧ 2 * js.length = z.length) := by simpa [hll] using hc
   have h6:Am z js = 0:=a0D h2 h3
   refine gG (i:=1) (tt:=6) rfl rfl gD (cU (ts (rm rfl (ra rfl (ro rfl (cQ (cJ 0)) (eZ (bI rfl (fJ (eY rfl) ?_) (fJ (eY rfl) ?_))))))))
   ·exact (kB (by rw [jeL,iH,h6]; rfl))
   ·exact (aM h6.symm)
end
section
open Go Go.RowKit
section
variable {P:Program} {R:iG} {cx:Cx} {n:Nat} {k:List It} {E:cH} {H:Hp}
theorem HH.two {base:Nat} {w:World} {V:aS} {Z:SA} {X:Hp} (h:HH base w V (Z :: X)):HH base w V [Z,gH (SA.emp :: X)]:=by
 have h1:HH base w V ((Z :: X).set 0 SA.emp ++ [Z]):=h.last rfl
 have h2:HH base w V (gH (SA.emp :: X) :: [Z]):=HH.repack h1
 exact h2.pick (is:=[1,0]) ⟨⟨_,rfl,fun _ _ _ h=>h⟩,⟨_,rfl,fun _ _ _ h=>h⟩,trivial⟩ (by decide)
theorem jG.pack {f : FuncId} {Ts : List Ty} {γ : Type} {U : γ → Ty} {X : γ → Hp} {Q : γ → Prop} (h : jG P f Ts [] γ U X Q) : jG P f Ts [] γ U (fun x => [gH (SA.emp :: X x)]) Q :=
 fun cx Z vs V w h1 h2=>(h cx Z vs V w h1 h2).mono fun e w' ⟨v,V',x,a,b,c,d,e'⟩=>⟨v,V',x,a,b,c.withHH c.hp.two,d,e'⟩
theorem a1z {X Y:Hp} (h:Tr P R cx n k E (X ++ Y)):Tr P R cx n k E (gH X :: Y):=fun a w ⟨V,hin,hs⟩=>h a w ⟨V,hin.withHH hin.hp.unpack,hs⟩
end
namespace W
variable {P:Program} {R:iG} {cx:Cx} {n:Nat} {k:List It} {E:cH} {H:Hp} {Hf:Bool → Hp} {p:Nat}
end W
end
section
open Go Go.RowKit
theorem Xt {z:List Qi} {s:List (List Qi)} {Q:List Nat} {m:Nat} (hs:eR s z.length z.length) (hQ:∀ x,x ∈ Q → x < z.length) (hm:Q.length = m) (hm2:m ≤ 1000) (hl:z.length ≤ 1000):jG Tryz.prog 122 [bR z s,gY (Q.map Nat.succ)] [] (Nat × Nat) (fun B=>eD [Is (.slice (some ⟨B.1,0,none⟩) m m),Is (.slice (some ⟨B.2,0,none⟩) m m)]) (fun B=>[bM 51 5 (.slice (some ⟨B.1,0,none⟩) m m) ((nN z Q).map aD),nT B.2 29 51 5 (dM aD (tO s Q))]) (fun _=>True):=by
 have hll:(Q.map Nat.succ).length = m:=by rw [List.length_map]; exact hm
 refine jG.intro Tryz.func122 rfl Tryz.ntmps122 rfl (fun cx Z=>(ts (rn rfl (fU (Ht rfl)) fun B2=>(rn rfl (pV (Ht rfl)) fun B3=>(rn rfl (eG (Ts:=[Is (.slice none 0 0),Is (.slice none 0 0)]) O_32 rfl (fun V=>aW zd (aW zd (aG)))) fun B4=>(eZ (cK (gG (i:=1) (tt:=2) rfl rfl fR (gG (i:=2) (tt:=3) rfl rfl iB (cY (ro rfl (dV A_72 Z_72 (Ht rfl)) (ro rfl (dK U_72 (Ht rfl) (by rw [List.length_map,hll])) ?_))))))))))))
 refine rn rfl (Nr (T:=aD Qi.zero) (i:=Tryz.t51) kC iV rfl rfl (Ht rfl) rfl gS (El.ag rfl) (by show 88 * _ ≤ _; omega) zo) fun B10=>ra rfl (eZ (cK (ts (ro rfl (dV A_72 Z_72 (Ht rfl)) (ro rfl (dK U_72 (Ht rfl) (by rw [List.length_map,hll])) ?_)))))
 refine ro rfl (cX (cJ 0)) (eZ (eK (bL [0,3,4] rfl (by decide) ?_)))
 refine cM (fun (i : Nat) => i ≤ m) (fun (i : Nat) => m - i) (fun (i : Nat) => [(2, PT (bR z s)), (3, PT (gY (Q.map Nat.succ))), (4, bP B4 0), (5, Is (.slice (some ⟨B10, 0, none⟩) m m)), (11, gY (Q.map Nat.succ)), (12, NT .i64 m), (13, NT .i64 i)]) (fun (i : Nat) => [Z, box B4 32 [Is (.slice none 0 0), Is (.slice none 0 0)], bM 51 5 (.slice (some ⟨B10, 0, none⟩) m m) ((jR (fun i => gv z (fC Q i)) Qi.zero m i).map aD)]) 0 (Nat.zero_le _)
  (zS rfl) (aU (fun _ _ _ h=>h) (aU (fun _ _ _ h=>h) (aU (aR (by rw [← iI]; exact nO aD m)) aY))) (fun i hi=>?_)
 refine ts (ro rfl (gV (Ht rfl) (Ht rfl)) (eZ (cK (dQ (Ht rfl) (fun hd=>?_) (fun hd=>?_)))))
 ·simp only [decide_eq_true_eq] at hd
  have hki:fC Q i < z.length:=Ev hQ zo
  refine cU (cK (eK (ts (rm rfl (ro rfl (dZ U_72 Z_3 (Ht rfl) (Ht rfl) rfl (eQ (nU zo))) (ro rfl (dV A_3 Z_3 (Ht rfl)) (ra rfl (ra rfl (eZ (cY (rm rfl (rm rfl (ro rfl (jI eO (Ht rfl) rfl) (ro rfl (dV A_29 Z_29 (Ht rfl)) (rm rfl (ro rfl (aF.nat (dG (Ht rfl) (cJ 1) zo z6) (show fC Q i + 1 - 1 = fC Q i by omega)) (ro rfl (dZ U_29 Z_51 (Ht rfl) (Ht rfl) rfl (eQ (dY (d:=Qi.zero) hki))) ?_)))))))))))))))))
  refine ro rfl (dV A_51 Z_51 (Ht rfl)) (ro rfl (dE U_29 Z_51 (Ht rfl) (Ht rfl) rfl (i:=2) rfl (by rw [List.length_map,cO]; omega) rfl) ?_)
  refine kS Z_51 (Ht rfl) (Ht rfl) (El.ag rfl) (i:=2) rfl rfl (by rw [List.length_map,cO]; omega) rfl ?_
  refine eZ (bH (cY (ro rfl (dW (Ht rfl) (cJ 1) z6) (rm rfl (eZ (gQ (i + 1) hd zo (zS rfl) (aU (fun _ _ _ h=>h) (aU (fun _ _ _ h=>h) (aU (aR (by rw [fL,← jK (f:=(fun i=>gv z (fC Q i)))])) aY)))))))))
 ·simp only [decide_eq_false_iff_not] at hd
  obtain rfl:m = i:=Nat.le_antisymm zo hi
  rw [jJ]
  rw [show nN z Q = tab m fun i=>gv z (fC Q i) from by rw [nN,hm],show tO s Q = tab m fun i=>tab m fun j=>gm s (fC Q i) (fC Q j) from by rw [tO,hm]]
  refine gK rfl (ts (rm rfl (ro rfl (dV A_72 Z_72 (Ht rfl)) (ro rfl (dK U_72 (Ht rfl) (by rw [List.length_map,hll])) ?_))))
  refine ro rfl (lS (γ:=Fin m × Fin m) (Ts:=fun x=>[NT .i64 x.1.1,NT .i64 x.2.1]) (U:=fun x=>aD (gm s (fC Q x.1.1) (fC Q x.2.1))) Tryz.call206 (fun x=>Ml hs hQ hm hm2 hl x.1.2 x.2.2) ⟨(Ht rfl),(Ht rfl),trivial⟩) (nP K_114 (Er (n:=m) (f:=fun i j=>gm s (fC Q i) (fC Q j)) zo) ⟨(Ht rfl),(Ht rfl),trivial⟩ rfl (fun B32 _=>(ro rfl (qL (Ht rfl) (Ht rfl)) (gJ Z_32 (Ht rfl) (Ht rfl) rfl (i:=1) rfl (aK rfl) rfl rfl (eZ ?_)))))
  exact lW (B10,B32) trivial [0,2,3] ⟨⟨_,rfl,fun _ _ _ h=>h⟩,⟨_,rfl,fun _ _ _ h=>h⟩,⟨_,rfl,fun _ _ _ h=>h⟩,trivial⟩ (by decide) (yN rfl (fY A_32 Z_32 rfl (i:=1) rfl rfl))
end
section
open Go Go.RowKit
theorem Wz {z : List Qi} {s : List (List Qi)} (hl : z.length ≤ 1000) : bB Tryz.prog 121 [bR z s, Is (.slice none 0 0)] (gY ((nL [] z.length).map Nat.succ)) :=
 (Ee (z := z) (s := s) (G := []) hl (by simp)).arg fun vs V h => match vs, h with
  | [_,b],⟨h1,h2,_⟩=>⟨h1,iT b V h2,trivial⟩
end
section
open Go Go.RowKit
section
variable {P:Program} {n:Nat} {E:cH} {H:Hp}
variable {d:Option Tmp} {t:TypeId} {pos:String} {af:Array Edge} {g:Option (Nat × Bool)}
theorem hJ {x i : Operand} {B o q r s : Nat} {kd : IntKind} {j : Int} {e : TypeId} {len : Nat} (hU : ∀ w, (underlying t).run P w = .ok (.array len e) w) (hS : ∀ w, (sizeOf e).run P w = .ok s w)
  (hx:bC E x (bP B o)) (hi:bC E i (aE kd j)) (hj:j = (q:Int)) (hl:q < len) (hr:o + q * s = r) {t':TypeId}:aF P n E H ⟨d,.indexAddr t x i,t',pos,af,g⟩ (bP B r) :=
 dR fun a V w hs => by
  have e1:a.eval x = .pointer (some ⟨B,o,none⟩):=hx n V a hs
  have ei:a.eval i = .int kd j:=hi n V a hs
  subst hj hr
  exact ⟨.pointer (some ⟨B,o + q * s,none⟩),by simp [execOp,e1,ei,Instr.indexAt,Instr.sureAddr,asIntOf,Sem.run_bind,hU,hS,Result.andThen,hl,gF],rfl⟩
theorem Wq {x : Operand} {arr e : TypeId} {s : Nat} {Us Ws : List Ty} (hU : ∀ w, (underlying arr).run P w = .ok (.array 2 e) w) (hx : bC E x (jT s [eD Us, eD Ws])) (hl : Us.length = s) {t' : TypeId} :
  aF P n E H ⟨d,.sliceToArrayPointer arr x,t',pos,af,g⟩ (PT (eD (Us ++ Ws))) :=
 dR fun a V w hs => by
  obtain ⟨a0,cap,e1,hcap,h3⟩:=hx n V a hs
  obtain ⟨b,o,x0,ea,⟨c,BT,fr,l2,l3⟩,c0,us,rfl,hu⟩:=h3 0 _ rfl
  obtain ⟨b',o',x1,ea',⟨c',BT',fr',l2',l3'⟩,c1,ws,rfl,hw⟩:=h3 1 _ rfl
  subst ea
  obtain ⟨rfl,rfl⟩:b = b' ∧ o = o':=by simpa using ea'
  obtain ⟨rfl,rfl,rfl⟩:c = c' ∧ BT = BT' ∧ fr = fr':=by rw [l2] at l2'; simpa using l2'
  have hlu:us.length = s:=hu.length.trans hl
  refine ⟨.pointer (some ⟨b,o,none⟩),by simp [execOp,e1,Instr.arrayAt,Sem.run_bind,hU,Result.andThen,pure,Sem.run],b,o,.agg (us ++ ws).toArray,rfl,⟨c,BT,fr,l2,fun j u hj=>?_⟩,us ++ ws,rfl,hu.append hw⟩
  simp only [Value.cells,List.getElem?_toArray] at hj
  by_cases c2:j < us.length
  ·rw [List.getElem?_append_left c2] at hj
   have:=l3 j u (by simpa [Value.cells] using hj)
   rw [show o + j = o + 0 * s + j by omega]; exact this
  ·rw [List.getElem?_append_right zo] at hj
   have:=l3' (j - us.length) u (by simpa [Value.cells] using hj)
   rw [show o + j = o + 1 * s + (j - us.length) by omega]; exact this
end
end
end Go.Proofs.YteohomnhncjcnaaGreat
