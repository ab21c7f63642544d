/- What functions of the program compute, proved by walks over their code, and the plain mathematics of it; a part of the proof in the last text. -/
import Derived.Test.YteohomnhncjcnaaGreatP03
set_option linter.unusedVariables false
set_option linter.unusedSimpArgs false
set_option maxRecDepth 100000
set_option maxHeartbeats 4000000
namespace Go.Proofs.YteohomnhncjcnaaGreat
section
open Go Go.RowKit
theorem Zo {M:List (List Qi)} {n m L B:Nat} (hs:eR M n m) (hf:bT M L) (hL:1 ≤ L) (hg:6 * dD L n + 4 ≤ 17592186044415) (hnm:n ≤ m) (hm:m ≤ 1000):jH Tryz.prog 194 [Is (.slice (some ⟨B,0,none⟩) n n)] [nJ B 29 51 5 (dO aE M)] (Unit) (fun _=>dN [NT .i64 (cH M n).2.1,aD .i64 (cH M n).2.2]) (fun _=>[nJ B 29 51 5 (dO aE (cH M n).1)]) (fun _=>True):=by
 have hs1:=hs.1
 refine jH.intro Tryz.func194 rfl Tryz.ntmps194 rfl (fun cx Z=>(ts (ro rfl (cQ (cJ 0)) (ro rfl (cQ (cJ 0)) (eZ (ts (ro rfl (cQ (cJ 0)) (eZ (cK (ts (rm rfl (ro rfl (jU U_30 (Ht rfl)) (ro rfl (cX (cJ 0)) (eZ (eK (Lo 1 rfl (fun vs hvs=>?_)))))))))))))))))
 have hvs2:Hds vs n:=by have h:=hvs; rw [List.length_map,hs1] at h; exact h
 refine uG (fun (c : Nat) (sw : Nat) (vs : List Value) (A : List (List Qi)) => (c ≤ n ∧ sw ≤ c) ∧ cH M c = (A, sw, -1) ∧ Hds vs n) (fun (c : Nat) (sw : Nat) (vs : List Value) (A : List (List Qi)) => n - c) (fun (c : Nat) (sw : Nat) (vs : List Value) (A : List (List Qi)) => [(0, Is (.slice (some ⟨B, 0, none⟩) n n)), (4, NT .i64 sw), (12, NT .i64 n), (13, NT .i64 c)]) (fun (c : Nat) (sw : Nat) (vs : List Value) (A : List (List Qi)) => [Z, kC B 29 51 5 vs vs (dO aE A)]) 0 0 vs M ⟨⟨Nat.zero_le _, Nat.le_refl _⟩, rfl, hvs2⟩
  (zS rfl) (dL.refl _) (fun c sw vs A ⟨⟨hc,hsw⟩,hA,hvs⟩=>?_)
 refine ts (ro rfl (gV (Ht rfl) (Ht rfl)) (eZ (cK (dQ (Ht rfl) (fun hcn=>?_) (fun hcn=>?_)))))
 ·simp only [decide_eq_true_eq] at hcn
  have hvl:=hvs.len
  have hAs:eR A n m:=by have h:=pJ hs hc; rw [hA] at h; exact h
  have hAf:bT A (dD L c):=by have h:=zC hs hf hL hc; rw [hA] at h; exact h
  have hAl:=hAs.1
  have hgr:dD L c ≤ dD L n:=pQ L hc
  have hG1:1 ≤ dD L c:=Nat.le_trans hL (sL L c)
  refine cU (cK (eK (ts (rm rfl (ra rfl (eZ (ts (rm rfl (ra rfl (eZ (cK (eK ?_))))))))))))
  refine cM (fun (p : Nat) => (c ≤ p ∧ p ≤ n) ∧ ∀ r, c ≤ r → r < p → gm A r c = Qi.zero) (fun (p : Nat) => n - p) (fun (p : Nat) => [(0, Is (.slice (some ⟨B, 0, none⟩) n n)), (4, NT .i64 sw), (5, NT .i64 c), (6, NT .i64 p), (12, NT .i64 n), (13, NT .i64 c)]) (fun (p : Nat) => [Z, kC B 29 51 5 vs vs (dO aE A)]) c ⟨⟨Nat.le_refl _, hc⟩, fun r h1 h2 => by omega⟩
   (zS rfl) (dL.refl _) (fun p ⟨⟨hcp,hpn⟩,hz⟩=>?_)
  haveI fp:aN (gm A p c) (dD L c):=hAf.get hG1 p c
  refine cK (ts (rm rfl (rm rfl (ro rfl (jU U_30 (Ht rfl)) (ro rfl (gV (Ht rfl) (Ht rfl)) (rm rfl (fX rfl rfl (eU rfl rfl (Ht rfl) (fun h=>cX (Ht rfl))) (fX rfl rfl (eU rfl rfl (Ht rfl) (fun h=>cX (Ht rfl))) (fX rfl rfl (eU rfl rfl (Ht rfl) (fun h=>gX U_30 Z_29 (fW rfl h) (fW rfl h) rfl (by first | omega | (simp at h; omega)) (by rw [Nat.mul_one,Nat.zero_add]))) ?_)))))))))
  refine fX rfl rfl (eU rfl rfl (Ht rfl) (fun h=>lB A_29 Z_29 (fW rfl h) (j:=1) rfl (by simp at h; omega))) ?_
  refine fX rfl rfl (eU rfl rfl (Ht rfl) (fun h=>cX (Ht rfl))) (fX rfl rfl (eU rfl rfl (Ht rfl) (fun h=>nK U_29 Z_51 (fW rfl h) (fW rfl h) rfl (j:=1) rfl zo (by simp at h; omega) (by simp at h; rw [hAs.row h]; omega))) ?_)
  refine fX rfl rfl (eU rfl rfl (Ht rfl) (fun h=>rI A_51 Z_51 (fW rfl h) (j:=1) rfl zo (by simp at h; omega) (by simp at h; rw [hAs.row h]; omega))) ?_
  refine fX rfl rfl (eU rfl rfl (Ht rfl) (fun h=>bD bN (fW rfl h))) (fX rfl rfl (eU rfl rfl (Ht rfl) (fun h=>aP oY K_27 (sE (x:=gm A p c) (L:=dD L c) zo) (fW rfl h) trivial)) (fX rfl rfl (eU rfl rfl (Ht rfl) (fun h=>eH (fW rfl h))) (ro rfl (eA (Ht rfl) (fun h=>(fW rfl h))) (eZ (dQ (Ht rfl) (fun he=>?_) (fun he=>?_))))))
  ·have he2 : p < n ∧ gm A p c = Qi.zero := by simpa using he
   refine cU (eK (cY (rm rfl (ro rfl (dW (Ht rfl) (cJ 1) z6) (ra rfl (eZ (bH ?_)))))))
   refine gQ (p + 1) ⟨⟨by omega, by omega⟩, fun r h1 h2 => by
     by_cases e:r = p
     ·rw [e]; exact he2.2
     ·exact hz r h1 zo⟩ zo (zS rfl) (dL.refl _)
  ·have hpv : pv A c n = p := a2m hcp hpn hz (fun h => by simp at he; exact he h)
   refine gK rfl (cK (ts (rm rfl (rm rfl (ro rfl (jU U_30 (Ht rfl)) (ro rfl (cB (Ht rfl) (Ht rfl)) (eZ (dQ (Ht rfl) (fun hp=>?_) (fun hp=>?_)))))))))
   ·have hp2 : p = n := by simpa using hp
    have hend:=Rw hs1 hA (by rw [hpv]; exact hp2) hcn
    refine ts (rm rfl (rm rfl (ra rfl (ra rfl (eZ ?_)))))
    exact lR () trivial [0,1] ⟨⟨_,rfl,fun _ _ _ h=>h⟩,⟨_,rfl,(fun S w V h=>fA (by rw [hend]) S w V (yG (by rw [List.length_map]; omega) S w V h))⟩,trivial⟩ (by decide) (a0T rfl (fJ (eY rfl) (lL (by rw [hend]))) (fJ (eY rfl) (aM (by rw [hend]))))
   ·have hp2 : p < n := by simp at hp; omega
    have hpz:=(qL (M:=A) (c:=c) (n:=n) hc).2.2.2 (by rw [hpv]; exact hp2)
    rw [hpv] at hpz
    have hnx:=Pn hs1 hA hpv hp2
    refine cU (cK (Yk (fun (q:Nat) (us:List Value) (D:List (List Qi))=>(q = sw + (if p = c then 0 else 1) ∧ D = (if p = c then A else swp [] A p c)) ∧ Hds us n) (fun (q:Nat) (us:List Value) (D:List (List Qi))=>[(0,Is (.slice (some ⟨B,0,none⟩) n n)),(4,NT .i64 q),(5,NT .i64 c),(12,NT .i64 n),(13,NT .i64 c)]) (fun (q:Nat) (us:List Value) (D:List (List Qi))=>[Z,kC B 29 51 5 us us (dO aE D)]) ?_ (fun q us D ⟨⟨hq,hD⟩,hus⟩=>?_)))
    ·refine ts (rm rfl (rm rfl (ro rfl (iV (Ht rfl) (Ht rfl)) (eZ (dQ (Ht rfl) (fun hpc => ?_) (fun hpc => ?_))))))
     ·have hpc2 : ¬ p = c := by simpa using hpc
      refine cK (Y.D_start (m:=14) [(13,1,kC B 29 51 5 (vs.set p (hd vs c)) vs (dO aE A))] (Y.D_step (Ei:=[(0,_)]) rfl rfl (bQ (bJ rfl rfl) bX) rfl rfl (by kernel_rfl) (dX rfl (cX (Ht rfl))) (Y.D_step (Ei:=[(6,_)]) rfl rfl (bQ (bJ rfl rfl) bX) rfl rfl (by kernel_rfl) (dX rfl (cX (Ht rfl))) (bY (Ei:=[(0,_)]) rfl rfl (bQ (bJ rfl rfl) bX) rfl rfl (dX rfl (cX (Ht rfl))) (bY (Ei:=[(5,_)]) rfl rfl (bQ (bJ rfl rfl) bX) rfl rfl (dX rfl (cX (Ht rfl))) ?_)))))
      refine Y.D_step (Ei:=[(0,_)]) rfl rfl (bQ (bJ rfl rfl) bX) rfl rfl (by kernel_rfl) (dX rfl (cX (Ht rfl))) (Y.D_step (Ei:=[(5,_)]) rfl rfl (bQ (bJ rfl rfl) bX) rfl rfl (by kernel_rfl) (dX rfl (cX (Ht rfl))) (Y.D_step (Ei:=[(48,_),(49,_)]) rfl rfl (bQ (bZ 4 rfl rfl) (bQ (bZ 5 rfl rfl) bX)) rfl rfl (by kernel_rfl) (dX rfl (gX U_30 Z_29 (Ht rfl) (Ht rfl) rfl zo (by rw [Nat.mul_one,Nat.zero_add]))) ?_))
      refine Y.D_step (Ei:=[(50,_)]) rfl rfl (bQ (bZ 6 rfl rfl) bX) rfl rfl (by kernel_rfl) (dX rfl (lB A_29 Z_29 (Ht rfl) (j:=1) rfl zo)) (Y.D_step (Ei:=[(0,_)]) rfl rfl (bQ (bJ rfl rfl) bX) rfl rfl (by kernel_rfl) (dX rfl (cX (Ht rfl))) (Y.D_step (Ei:=[(6,_)]) rfl rfl (bQ (bJ rfl rfl) bX) rfl rfl (by kernel_rfl) (dX rfl (cX (Ht rfl))) (Y.D_step (Ei:=[(52,_),(53,_)]) rfl rfl (bQ (bZ 8 rfl rfl) (bQ (bZ 9 rfl rfl) bX)) rfl rfl (by kernel_rfl) (dX rfl (gX U_30 Z_29 (Ht rfl) (Ht rfl) rfl zo (by rw [Nat.mul_one,Nat.zero_add]))) ?_)))
      refine Y.D_step (Ei:=[(54,_)]) rfl rfl (bQ (bZ 10 rfl rfl) bX) rfl rfl (by kernel_rfl) (dX rfl (lB A_29 Z_29 (Ht rfl) (j:=1) rfl zo)) (Y.D_step (Ei:=[(44,_),(45,_)]) rfl rfl (bQ (bZ 0 rfl rfl) (bQ (bZ 1 rfl rfl) bX)) rfl rfl (by kernel_rfl) (dX rfl (gX U_30 Z_29 (Ht rfl) (Ht rfl) rfl zo (by rw [Nat.mul_one,Nat.zero_add]))) ?_)
      refine Y.D_putI (Ei:=[(56,_),(51,_)]) 1 rfl rfl rfl (bQ (bZ 12 rfl rfl) (bQ (bZ 7 rfl rfl) bX)) (.head _) rfl (Un Z_29 (Ht rfl) (Ht rfl) (hvs.pl c zo) (i:=p) (hs:=vs) zo) (Y.D_done bF rfl (by kernel_rfl) rfl (by simp [Y.okP]) rfl rfl (bU (bU (bU (bU (bU (bU (bU (bU (bU (bU (bU (bU (bU (Y.F_putI (Y.F_nil ?_))))))))))))))))
      refine ro rfl (gX U_30 Z_29 (Ht rfl) (Ht rfl) rfl zo (by rw [Nat.mul_one,Nat.zero_add])) ?_
      refine a1Z Z_29 (Ht rfl) (Ht rfl) (j:=1) rfl (hvs.pl p zo) (by rw [List.length_set]; omega) rfl ?_
      refine eZ (lT 1 rfl (Ny (hs:=swp Da vs p c) (p:=p) (c:=c) zo zo zo) (cY (rm rfl (ro rfl (dW (Ht rfl) (cJ 1) z6) (ra rfl (eZ (aT (sw + 1,swp Da vs p c,swp [] A p c) ⟨⟨by rw [if_neg hpc2],by rw [if_neg hpc2]⟩,hvs.swp hp2 hcn⟩ (zS rfl) (dL.refl _))))))))
     ·have hpc2 : p = c := by simpa using hpc
      refine cU (aT (sw,vs,A) ⟨⟨by rw [if_pos hpc2]; rfl,by rw [if_pos hpc2]⟩,hvs⟩ (zS rfl) (dL.refl _))
    ·have hul := hus.len
     rw [← hq,← hD] at hnx
     have hDs:eR D n m:=by rw [hD]; split; exact hAs; exact xR hAs hp2 hcn
     have hDf:bT D (dD L c):=by rw [hD]; split; exact hAf; exact Lx hAf
     have hDl:=hDs.1
     have hDz : gm D c c ≠ Qi.zero := by
      rw [hD]; split
      ·rename_i e; rw [e] at hpz; exact hpz
      ·show gv (fH (swp [] A p c) c) c ≠ _
       rw [Dn zo]; exact hpz
     refine ts (rm rfl (ro rfl (dW (Ht rfl) (cJ 1) z6) (ra rfl (eZ (eK ?_)))))
     refine cM (fun (r : Nat) => c < r ∧ r ≤ n) (fun (r : Nat) => n - r) (fun (r : Nat) => [(0, Is (.slice (some ⟨B, 0, none⟩) n n)), (4, NT .i64 q), (5, NT .i64 c), (7, NT .i64 r), (12, NT .i64 n), (13, NT .i64 c)]) (fun (r : Nat) => [Z, kC B 29 51 5 us us (dO aE (mC D c r))]) (c + 1) ⟨Nat.lt_succ_self _, hcn⟩
      (zS rfl) (aU (fun _ _ _ h=>h) (aU (xW (congrArg _ Kf)) aY)) (fun r ⟨hcr,hrn⟩=>?_)
     refine cK (ts (rm rfl (rm rfl (ro rfl (jU U_30 (Ht rfl)) (ro rfl (gV (Ht rfl) (Ht rfl)) (eZ (dQ (Ht rfl) (fun hr=>?_) (fun hr=>?_))))))))
     ·simp only [decide_eq_true_eq] at hr
      obtain ⟨X,hX⟩:∃ X,X = mC D c r:=⟨_,rfl⟩
      have hXr:fH X r = fH D r:=by rw [hX]; exact uU zo zo
      have hXc:fH X c = fH D c:=by rw [hX]; exact uU zo zo
      have hXl:X.length = n:=by rw [hX,rW]; exact hDl
      have hXrl:(fH X r).length = m:=by rw [hXr]; exact hDs.row hr
      have hXcl:(fH X c).length = m:=by rw [hXc]; exact hDs.row hcn
      have hXrg:(X.getD r []).length = m:=hXrl
      have hXcg:(X.getD c []).length = m:=hXcl
      have hXfr:cC (fH X r) (dD L c):=by rw [hXr]; exact hDf.row r
      have hXfc:cC (fH X c) (dD L c):=by rw [hXc]; exact hDf.row c
      haveI g1:aN (gm X r c) (dD L c):=hXfr.get hG1 c
      haveI g2:aN (gm X c c) (dD L c):=hXfc.get hG1 c
      have hXz:gm X c c ≠ Qi.zero:=by show gv (fH X c) c ≠ _; rw [hXc]; exact hDz
      haveI g3:aN (gm X r c / gm X c c) (dD L c + 3 * dD L c + 2):=⟨g1.fit.div g2.fit hXz⟩
      have hend:=Ra (D:=D) (r:=r) (c:=c) zo hcr
      rw [← hX] at hend ⊢
      refine cU (cK (eK (cK (Y.D_start (m:=21) [] (bY (Ei:=[(0,_)]) rfl rfl (bQ (bJ rfl rfl) bX) rfl rfl (dX rfl (cX (Ht rfl))) (bY (Ei:=[(7,_)]) rfl rfl (bQ (bJ rfl rfl) bX) rfl rfl (dX rfl (cX (Ht rfl))) (bY (Ei:=[(69,_),(70,_)]) rfl rfl (bQ (bZ 0 rfl rfl) (bQ (bZ 1 rfl rfl) bX)) rfl rfl (dX rfl (gX U_30 Z_29 (Ht rfl) (Ht rfl) rfl zo (by rw [Nat.mul_one,Nat.zero_add]))) ?_)))))))
      refine bY (Ei:=[(71,_)]) rfl rfl (bQ (bZ 2 rfl rfl) bX) rfl rfl (dX rfl (lB A_29 Z_29 (Ht rfl) (j:=1) rfl zo)) (bY (Ei:=[(5,_)]) rfl rfl (bQ (bJ rfl rfl) bX) rfl rfl (dX rfl (cX (Ht rfl))) (bY (Ei:=[(72,_),(73,_)]) rfl rfl (bQ (bZ 3 rfl rfl) (bQ (bZ 4 rfl rfl) bX)) rfl rfl (dX rfl (nK U_29 Z_51 (Ht rfl) (Ht rfl) rfl (j:=1) rfl zo zo zo)) (bY (Ei:=[(74,_)]) rfl rfl (bQ (bZ 5 rfl rfl) bX) rfl rfl (dX rfl (rI A_51 Z_51 (Ht rfl) (j:=1) rfl zo zo zo)) ?_)))
      refine bY (Ei:=[(75,_)]) rfl rfl (bQ (bZ 6 rfl rfl) bX) rfl rfl (dX rfl (bD bN (Ht rfl))) (bY (Ei:=[(0,_)]) rfl rfl (bQ (bJ rfl rfl) bX) rfl rfl (dX rfl (cX (Ht rfl))) (bY (Ei:=[(5,_)]) rfl rfl (bQ (bJ rfl rfl) bX) rfl rfl (dX rfl (cX (Ht rfl))) (bY (Ei:=[(77,_),(78,_)]) rfl rfl (bQ (bZ 8 rfl rfl) (bQ (bZ 9 rfl rfl) bX)) rfl rfl (dX rfl (gX U_30 Z_29 (Ht rfl) (Ht rfl) rfl zo (by rw [Nat.mul_one,Nat.zero_add]))) ?_)))
      refine bY (Ei:=[(79,_)]) rfl rfl (bQ (bZ 10 rfl rfl) bX) rfl rfl (dX rfl (lB A_29 Z_29 (Ht rfl) (j:=1) rfl zo)) (bY (Ei:=[(5,_)]) rfl rfl (bQ (bJ rfl rfl) bX) rfl rfl (dX rfl (cX (Ht rfl))) (bY (Ei:=[(80,_),(81,_)]) rfl rfl (bQ (bZ 11 rfl rfl) (bQ (bZ 12 rfl rfl) bX)) rfl rfl (dX rfl (nK U_29 Z_51 (Ht rfl) (Ht rfl) rfl (j:=1) rfl zo zo zo)) (bY (Ei:=[(82,_)]) rfl rfl (bQ (bZ 13 rfl rfl) bX) rfl rfl (dX rfl (rI A_51 Z_51 (Ht rfl) (j:=1) rfl zo zo zo)) ?_)))
      refine bY (Ei:=[(76,_),(83,_)]) rfl rfl (bQ (bZ 7 rfl rfl) (bQ (bZ 14 rfl rfl) bX)) rfl rfl (dX rfl (aP jT K_40 (xE (x:=gm X r c) (y:=gm X c c) (L:=dD L c) (M:=dD L c) zo) (Ht rfl) ⟨(Ht rfl),trivial⟩)) (bY (Ei:=[(84,_)]) rfl rfl (bQ (bZ 15 rfl rfl) bX) rfl rfl (dX rfl (cX (Ht rfl))) (bY (Ei:=[(68,_)]) rfl rfl (bQ (bZ 16 rfl rfl) bX) rfl rfl (dX rfl (dU (Ht rfl) rfl)) (bY (Ei:=[(68,_)]) rfl rfl (bQ (bZ 16 rfl rfl) bX) rfl rfl (dX rfl (dU (Ht rfl) rfl)) ?_)))
      refine Y.D_newp (Ei:=[]) (fun bb=>box bb 51 [aC (decide ((gm X r c / gm X c c).a < 0)),aH (gm X r c / gm X c c).a.natAbs,aC (decide ((gm X r c / gm X c c).b < 0)),aH (gm X r c / gm X c c).b.natAbs,aH (du (gm X r c / gm X c c))]) 20 rfl rfl rfl bX rfl rfl (by kernel_rfl) (eG (Ts:=[Is (.bool false),Is (.slice none 0 0),Is (.bool false),Is (.slice none 0 0),Is (.slice none 0 0)]) O_51 rfl (fun V=>aW zd (aW zd (aW zd (aW zd (aW zd (aG))))))) ?_
      refine Y.D_putN (Ei:=[(85,_)]) 19 rfl rfl rfl rfl rfl rfl (bQ (bZ 17 rfl rfl) bX) (fun bb=>lQ Z_51 (Ht rfl) (Ht rfl) rfl (i:=0) rfl (aK rfl) rfl rfl) (Y.D_done bF rfl (by kernel_rfl) rfl (by simp [Y.okP]) rfl rfl (bU (bU (bU (bU (bU (bU (bU (bU (bU (bU (bU (bU (bU (bU (bU (bU (bU (bU (bU (Y.F_newp (fun B8=>Y.F_putN (Y.F_nil ?_)))))))))))))))))))))))
      refine ra rfl (eZ (ts (rm rfl (ro rfl (dW (Ht rfl) (cJ 1) z6) (ra rfl (eZ (eK ?_)))))))
      refine cM (fun (k : Nat) => c < k ∧ k ≤ m) (fun (k : Nat) => m - k) (fun (k : Nat) => [(0, Is (.slice (some ⟨B, 0, none⟩) n n)), (4, NT .i64 q), (5, NT .i64 c), (7, NT .i64 r), (8, bO B8 0), (10, NT .i64 k), (12, NT .i64 n), (13, NT .i64 c)]) (fun (k : Nat) => [Z, kC B 29 51 5 us us (dO aE (X.set r (kY (fH X r) (fH X c) c k))), box B8 51 [aC (decide ((gm X r c / gm X c c).a < 0)), aH (gm X r c / gm X c c).a.natAbs, aC (decide ((gm X r c / gm X c c).b < 0)), aH (gm X r c / gm X c c).b.natAbs, aH (du (gm X r c / gm X c c))]]) (c + 1) ⟨Nat.lt_succ_self _, by omega⟩
       (zS rfl) (aU (fun _ _ _ h=>h) (aU (xW (by rw [← Iv,a1k zo])) (aU (aB rfl) aY))) (fun k ⟨hck,hkm⟩=>?_)
      obtain ⟨Y,hY⟩:∃ Y,Y = (X.set r (kY (fH X r) (fH X c) c k)):=⟨_,rfl⟩
      have hYl:Y.length = n:=by rw [hY,List.length_set]; exact hXl
      have hYrl:(fH Y r).length = m:=by rw [hY,Dp zo,uD]; exact hXrl
      have hYcl:(fH Y c).length = m:=by rw [hY,wQ zo]; exact hXcl
      have hYrg:(Y.getD r []).length = m:=hYrl
      have hYcg:(Y.getD c []).length = m:=hYcl
      rw [← hY]
      refine cK (ts (rm rfl (rm rfl (rm rfl (ro rfl (gX U_30 Z_29 (Ht rfl) (Ht rfl) rfl zo (by rw [Nat.mul_one,Nat.zero_add])) ?_)))))
      refine ro rfl (lB A_29 Z_29 (Ht rfl) (j:=1) rfl zo) (ro rfl (Xs U_29 (Ht rfl) (j:=1) rfl zo zo) (ro rfl (gV (Ht rfl) (Ht rfl)) (eZ (dQ (Ht rfl) (fun hk=>?_) (fun hk=>?_)))))
      ·have hk2 : k < m := by simp only [decide_eq_true_eq] at hk; omega
       have e1:gm Y r k = gv (fH X r) k:=by rw [hY]; exact a2K zo zo hck
       have e2:gm Y c k = gv (fH X c) k:=by rw [hY]; exact a2a zo
       haveI y1:aN (gm Y r k) (dD L c):=by rw [e1]; exact hXfr.get hG1 k
       haveI y2:aN (gm Y c k) (dD L c):=by rw [e2]; exact hXfc.get hG1 k
       have hst:=Uz (X:=X) (r:=r) (c:=c) (k:=k) zo zo zo hck
       rw [← hY] at hst
       refine cU (cK (eK (fV (m:=24) (dp 0 rfl (cX (Ht rfl)) (dp 7 rfl (cX (Ht rfl)) (dS 98 0 99 1 rfl (gX U_30 Z_29 (Ht rfl) (Ht rfl) rfl zo (by rw [Nat.mul_one,Nat.zero_add])) ?_))))))
       refine dq 100 2 rfl (lB A_29 Z_29 (Ht rfl) (j:=1) rfl zo) (dp 10 rfl (cX (Ht rfl)) (dp 0 rfl (cX (Ht rfl)) (dp 7 rfl (cX (Ht rfl)) (dS 103 5 104 6 rfl (gX U_30 Z_29 (Ht rfl) (Ht rfl) rfl zo (by rw [Nat.mul_one,Nat.zero_add])) ?_))))
       refine dq 105 7 rfl (lB A_29 Z_29 (Ht rfl) (j:=1) rfl zo) (dp 10 rfl (cX (Ht rfl)) (dS 106 8 107 9 rfl (nK U_29 Z_51 (Ht rfl) (Ht rfl) rfl (j:=1) rfl zo zo zo) (dq 108 10 rfl (rI A_51 Z_51 (Ht rfl) (j:=1) rfl zo zo zo) (dq 109 11 rfl (bD bN (Ht rfl)) (dp 8 rfl (eW A_51 Z_51 (Ht rfl) (i:=2) rfl rfl rfl) (dq 111 13 rfl (bD bN (Ht rfl)) (dp 0 rfl (cX (Ht rfl)) (dp 5 rfl (cX (Ht rfl)) (dS 113 15 114 16 rfl (gX U_30 Z_29 (Ht rfl) (Ht rfl) rfl zo (by rw [Nat.mul_one,Nat.zero_add])) ?_)))))))))
       refine dq 115 17 rfl (lB A_29 Z_29 (Ht rfl) (j:=1) rfl zo) (dp 10 rfl (cX (Ht rfl)) (dS 116 18 117 19 rfl (nK U_29 Z_51 (Ht rfl) (Ht rfl) rfl (j:=1) rfl zo zo zo) (dq 118 20 rfl (rI A_51 Z_51 (Ht rfl) (j:=1) rfl zo zo zo) (dS 112 14 119 21 rfl (aP cI K_45 (kW (x:=gm X r c / gm X c c) (y:=gm Y c k) (L:=dD L c + 3 * dD L c + 2) (M:=dD L c) zo) (Ht rfl) ⟨(Ht rfl),trivial⟩) (dS 110 12 120 22 rfl (aP jE K_44 (uO (x:=gm Y r k) (y:=gm X r c / gm X c c * gm Y c k) (L:=dD L c) (M:=dD L c + 3 * dD L c + 2 + dD L c + 1) zo) (Ht rfl) ⟨(Ht rfl),trivial⟩) ?_)))))
       refine fG bF rfl (by kernel_rfl) (zF (zF (zF (zF (zF (zF (aV (ro rfl (nK U_29 Z_51 (Ht rfl) (Ht rfl) rfl (j:=1) rfl zo zo zo) (a2Q Z_51 (Ht rfl) (Ht rfl) (j:=1) rfl (El.ag rfl) (F:=aE) (z:=gm Y r k - gm X r c / gm X c c * gm Y c k) zo zo zo rfl (eZ (bH (cY ?_))))))))))))
       refine rm rfl (ro rfl (dW (Ht rfl) (cJ 1) z6) (ra rfl (eZ (gQ (k + 1) ⟨by omega,hk2⟩ zo (zS rfl) (aU (fun _ _ _ h=>h) (aU (xW (congrArg _ hst)) (aU (aB rfl) aY)))))))
      ·have hk3 : k = m := by simp only [decide_eq_false_iff_not] at hk; omega
       subst hk3
       refine gK rfl (bH (cY (rm rfl (ro rfl (dW (Ht rfl) (cJ 1) z6) (ra rfl (eZ (bL [0,1] rfl (by decide) (gQ (r + 1) ⟨by omega,hr⟩ zo (zS rfl) (aU (fun _ _ _ h=>h) (aU (xW (by rw [hY,← hend,hDs.row hr])) aY))))))))))
     ·simp only [decide_eq_false_iff_not] at hr
      obtain rfl:r = n:=Nat.le_antisymm hrn zo
      refine gK rfl (bH (cY (ro rfl (dW (Ht rfl) (cJ 1) z6) (rm rfl (eZ (gQ (c + 1,q,us,mC D c r) ⟨⟨hcn,by show q ≤ c + 1; rw [hq]; split <;> omega⟩,hnx,hus⟩ (by dsimp only; omega) (zS rfl) (dL.refl _)))))))
 ·simp only [decide_eq_false_iff_not] at hcn
  obtain rfl:c = n:=Nat.le_antisymm hc zo
  have hvl:=hvs.len
  have hAs:eR A c m:=by have h:=pJ hs hc; rw [hA] at h; exact h
  refine gK rfl (ts (rm rfl (ra rfl (ro rfl (cQ cV) (eZ ?_)))))
  exact lR () trivial [0,1] ⟨⟨_,rfl,fun _ _ _ h=>h⟩,⟨_,rfl,(fun S w V h=>fA (by rw [hA]) S w V (yG (by rw [List.length_map,hAs.1]; exact hvl) S w V h))⟩,trivial⟩ (by decide) (a0T rfl (fJ (eY rfl) (lL (by rw [hA]))) (fJ (eY rfl) (aM (by rw [hA]))))
end
section
open Go Go.RowKit
abbrev Fv (M bs:List (List Qi)) (i:Nat):List Qi:=fH M i ++ bs.map fun b=>gv b i
def lK (M bs:List (List Qi)) (n:Nat):List (List Qi):=tab n (Fv M bs)
theorem Xy {r:List Qi} {bs:List (List Qi)} {i j:Nat} (h:j < bs.length):(r ++ (bs.take j).map fun b=>gv b i) ++ [gv (bs.getD j []) i] = r ++ (bs.take (j + 1)).map fun b=>gv b i:=by
 rw [List.append_assoc,List.take_add_one,List.map_append]
 simp [List.getD,h]
theorem nV {M bs:List (List Qi)} {n m:Nat} (h:eR M n m):eR (lK M bs n) n (m + bs.length):=by
 refine ⟨aO _ _,fun r hr=>?_⟩
 obtain ⟨i,hi,rfl⟩:=jB.1 hr
 rw [List.length_append,List.length_map,h.row hi]
theorem Bq {M bs : List (List Qi)} {n L : Nat} (h : bT M L) (hb : bT bs L) (hL : 1 ≤ L) : bT (lK M bs n) L := fun r hr x hx => by
 obtain ⟨i,hi,rfl⟩:=jB.1 hr
 rcases List.mem_append.1 hx with h1 | h1
 ·exact h.row i x h1
 ·obtain ⟨b, hb1, rfl⟩ := List.mem_map.1 h1
  exact cC.get (hb b hb1) hL i
theorem Pg {M:List (List Qi)} {n m:Nat} (h:eR M n m):lK M [] n = M:=by
 have:lK M [] n = tab n (fH M):=cP fun i _=>by simp [Fv]
 rw [this]; exact (yQ (h:=h.1)).symm
def nF (U : List (List Qi)) (x : List Qi) (n c : Nat) : Nat → Qi
 | 0=>gm U c n
 | k + 1=>nF U x n c k - gm U c (c + 1 + k) * gv x (c + 1 + k)
def oQ (U : List (List Qi)) (n : Nat) : Nat → List Qi
 | 0=>tab n fun _=>Qi.zero
 | j + 1=>(oQ U n j).set (n - (j + 1)) (nF U (oQ U n j) n (n - (j + 1)) j / gm U (n - (j + 1)) (n - (j + 1)))
theorem uE (U : List (List Qi)) (n : Nat) : ∀ j, (oQ U n j).length = n
 | 0=>aO _ _
 | j + 1=>by rw [oQ,List.length_set,uE U n j]
def sR (M:List (List Qi)) (b:List Qi) (n:Nat):List (List Qi) × Nat × Int:=cH (lK M [b] n) n
def mB (M:List (List Qi)) (b:List Qi) (n:Nat):Int:=if 0 ≤ (sR M b n).2.2 then 6 else 0
def mA (M:List (List Qi)) (b:List Qi) (n:Nat):List Qi:=oQ (sR M b n).1 n n
def pE (G : Nat) : Nat → Nat
 | 0=>G
 | j + 1=>j * (pE G j + G + 2) + 4 * G + 2
theorem uC (G j:Nat):pE G j ≤ pE G (j + 1):=by
 cases j with
 | zero=>simp only [pE]; omega
 | succ j =>
  have:pE G (j + 1) + G + 2 ≤ (j + 1) * (pE G (j + 1) + G + 2):=Nat.le_mul_of_pos_left _ zo
  rw [show pE G (j + 1 + 1) = (j + 1) * (pE G (j + 1) + G + 2) + 4 * G + 2 from rfl]
  omega
theorem Ep (G : Nat) : ∀ j, G ≤ pE G j
 | 0=>Nat.le_refl _
 | j + 1=>Nat.le_trans (Ep G j) (uC G j)
theorem yV (G : Nat) : ∀ {i j : Nat}, i ≤ j → pE G i ≤ pE G j
 | i,0,h=>by rw [show i = 0 by omega]; exact Nat.le_refl _
 | i, j + 1, h => by
  by_cases e:i = j + 1
  ·rw [e]; exact Nat.le_refl _
  ·exact Nat.le_trans (yV G (show i ≤ j by omega)) (uC G j)
theorem pU {M : List (List Qi)} {n m : Nat} (hs : eR M n m) : ∀ {c : Nat}, c ≤ n → (cH M c).2.2 < 0 → ∀ i, i < c → gm (cH M c).1 i i ≠ Qi.zero
 | 0,_,_,i,hi=>by omega
 | c + 1, hc, hst, i, hi => by
  have sh:=pJ hs (c:=c) zo
  obtain ⟨_,i2,i3,i4⟩:=qL (M:=(cH M c).1) (c:=c) (n:=M.length) (by rw [hs.1]; omega)
  simp only [cH] at hst ⊢
  split at hst
  ·rename_i h0; omega
  ·rename_i h0
   rw [if_neg h0]
   split at hst
   ·simp at hst; omega
   ·rename_i h1
    rw [if_neg h1]
    have ih:=pU hs (c:=c) zo zo
    have hl : ∀ X : List (List Qi), X.length = n → gm (mC X c M.length) i i = gm X i i := fun X hX => by
     show gv (fH (mC X c M.length) i) i = _
     rw [uU zo zo]
    by_cases e:pv (cH M c).1 c M.length = c
    ·rw [if_pos e, hl _ sh.1]
     by_cases e2:i = c
     ·rw [e2]; have:=i4 (by have:=hs.1; omega); rw [e] at this; exact this
     ·exact ih i zo
    ·have hpl : pv (cH M c).1 c M.length < n := by rw [← hs.1]; omega
     rw [if_neg e,hl _ ((Ea _ _ _ _).trans sh.1)]
     by_cases e2:i = c
     ·rw [e2]
      show gv (fH (swp [] _ _ c) c) c ≠ _
      rw [Dn (by rw [sh.1]; omega)]
      exact i4 (by have:=hs.1; omega)
     ·have : fH (swp [] (cH M c).1 (pv (cH M c).1 c M.length) c) i = fH (cH M c).1 i := by
       simp only [fH,swp,List.getD]
       rw [List.getElem?_set_ne (Ne.symm e2),List.getElem?_set_ne zo]
      show gv (fH (swp [] _ _ c) i) i ≠ _
      rw [this]; exact ih i zo
theorem xQ {U : List (List Qi)} {x : List Qi} {n c G X : Nat} (hU : bT U G) (hx : cC x X) (hG : 1 ≤ G) (hX : 1 ≤ X) : ∀ k, aN (nF U x n c k) (G + k * (G + X + 2))
 | 0=>(hU.get hG c n).le zo
 | k + 1 => by
  haveI f1:=xQ (n:=n) (c:=c) hU hx hG hX k
  haveI f2:=hU.get hG c (c + 1 + k)
  haveI f3:=hx.get hX (c + 1 + k)
  have:aN (nF U x n c (k + 1)) (G + k * (G + X + 2) + (G + X + 1) + 1):=by unfold nF; infer_instance
  exact this.le (by rw [Nat.add_mul]; omega)
theorem a12 {U:List (List Qi)} {x:List Qi} {n c G X j:Nat} (hU:bT U G) (hx:cC x X) (hG:1 ≤ G) (hX:1 ≤ X) (hz:gm U c c ≠ Qi.zero):aN (nF U x n c j / gm U c c) (j * (X + G + 2) + 4 * G + 2):=by
 have f1:=xQ (n:=n) (c:=c) hU hx hG hX j
 have f2:=hU.get hG c c
 have:aN (nF U x n c j / gm U c c) (G + j * (G + X + 2) + 3 * G + 2):=⟨f1.fit.div f2.fit hz⟩
 exact this.le (by rw [Nat.add_comm X G]; omega)
theorem Kb {U : List (List Qi)} {n G : Nat} (hU : bT U G) (hG : 1 ≤ G) (hz : ∀ i, i < n → gm U i i ≠ Qi.zero) : ∀ j, j ≤ n → cC (oQ U n j) (pE G j)
 | 0,_=>cC.tab fun _ _=>aN.zero hG
 | j + 1, hj => fun y hy => by
  have ih:=Kb hU hG hz j zo
  rcases List.mem_or_eq_of_mem_set hy with h1 | h1
  ·exact (ih y h1).le (uC G j)
  ·rw [h1]; exact a12 hU ih hG (Nat.le_trans hG (Ep G j)) (hz _ zo)
theorem Se {M:List (List Qi)} {b:List Qi} {n:Nat} (h:eR M n n):eR (sR M b n).1 n (n + 1):=pJ (nV h) (Nat.le_refl n)
theorem Gc {M:List (List Qi)} {b:List Qi} {n L:Nat} (h:eR M n n) (hM:bT M L) (hb:cC b L) (hL:1 ≤ L):bT (sR M b n).1 (dD L n):=zC (nV h) (Bq hM (fun r hr=>by simp at hr; subst hr; exact hb) hL) hL (Nat.le_refl n)
theorem Sw {M : List (List Qi)} {b : List Qi} {n L : Nat} (h : eR M n n) (hM : bT M L) (hb : cC b L) (hL : 1 ≤ L) (hE : (sR M b n).2.2 < 0) : cC (mA M b n) (pE (dD L n) n) :=
 Kb (Gc h hM hb hL) (Nat.le_trans hL (sL L n)) (pU (nV h) (Nat.le_refl n) hE) n (Nat.le_refl n)
def Bm (n i:Nat):List Qi:=(tab n fun _=>Qi.zero).set i (Qi.ofInt 1)
def Pr (n:Nat):List (List Qi):=tab n (Bm n)
theorem uW (n:Nat):eR (Pr n) n n:=⟨aO _ _,fun r hr=>by obtain ⟨i,_,rfl⟩:=jB.1 hr; rw [Bm,List.length_set,aO]⟩
theorem nT:aN (Qi.ofInt 1) 1:=⟨Qi.Fit.int (L:=1) (by decide) (by decide)⟩
theorem Pk {n i L : Nat} (h : 1 ≤ L) : cC (Bm n i) L := fun x hx => by
 rcases List.mem_or_eq_of_mem_set hx with h1 | h1
 ·obtain ⟨_,_,rfl⟩:=jB.1 h1; exact aN.zero h
 ·rw [h1]; exact nT.le h
theorem Lz {n L:Nat} (h:1 ≤ L):bT (Pr n) L:=fun r hr=>by obtain ⟨i,_,rfl⟩:=jB.1 hr; exact Pk h
theorem a0d {M:List (List Qi)} {b:List Qi} {n:Nat} (h:¬ 0 ≤ (sR M b n).2.2):(sR M b n).2.2 < 0:=by omega
theorem nG (F:Qi → Ty) (n:Nat):List.replicate n (F Qi.zero) = (tab n fun _=>Qi.zero).map F:=by rw [mN,vB]
theorem a2p {n j:Nat} (h:(0:Int) ≤ (n:Int) - 1 - (j:Int)):j < n:=by omega
theorem a38 {n j:Nat} (h:(n:Int) - 1 - (j:Int) < 0):n ≤ j:=by omega
theorem Ui {G X k j:Nat} (h:k < j):k * (G + X + 2) + (G + X + 2) ≤ j * (X + G + 2):=by
 rw [Nat.add_comm X G,← Nat.succ_mul]; exact Nat.mul_le_mul_right _ h
end
section
open Go Go.RowKit
theorem Ga {M:List (List Qi)} {n:Nat} (h:eR M n n) (h1:1 ≤ n) (hn:n ≤ 32):bB Tryz.prog 174 [dM M] (aC true):=by
 have hl:=h.1
 refine bB.intro Tryz.func174 rfl Tryz.ntmps174 rfl (fun cx=>(ts (ro rfl (cQ cV) (eZ (ts (rm rfl (ro rfl (cZ Tryz.call240 (Nt h h1 hn hn) ⟨(Ht rfl),trivial⟩) (rm rfl (ro rfl (dU (Ht rfl) rfl) (ro rfl (dU (Ht rfl) rfl) (ra rfl (ra rfl (eZ (ts (rm rfl (rm rfl (fX rfl rfl (eU rfl rfl (Ht rfl) (fun h=>cX (Ht rfl))) (fX rfl rfl (eU rfl rfl (Ht rfl) (fun h=>cX (Ht rfl))) (fX rfl rfl (eU rfl rfl (Ht rfl) (fun h=>dK U_30 (fW rfl h) aA)) (fX rfl rfl (eU rfl rfl (Ht rfl) (fun h=>cB (fW rfl h) (fW rfl h))) ?_))))))))))))))))))))
 refine ro rfl (eA (Ht rfl) (fun h=>(fW rfl h))) (ra rfl (eZ (fK rfl (fJ (eY rfl) ?_))))
 exact (eN (by simp [hl]))
theorem Bs {M bs:List (List Qi)} {n m:Nat} (hM:eR M n m) (hb:∀ b,b ∈ bs → n ≤ b.length) (hn:n ≤ 1000) (hm:m ≤ 1000) (hbl:bs.length ≤ 1000):jH Tryz.prog 193 [dM M,dM bs] [] (Nat) (fun B=>Is (.slice (some ⟨B,0,none⟩) n n)) (fun B=>[nJ B 29 51 5 (dO aE (lK M bs n))]) (fun _=>True):=by
 have hMl:=hM.1
 refine jH.intro Tryz.func193 rfl Tryz.ntmps193 rfl (fun cx Z=>(ts (ro rfl (cQ cV) (eZ (ts (rm rfl (ro rfl (dK U_30 (Ht rfl) aA) (rn rfl (fS (T:=Is (.slice none 0 0)) (i:=Tryz.t29) V_30 sC rfl rfl (Ht rfl) rfl (fun _=>rfl) trivial (by show 24 * _ ≤ _; omega) zo) fun B12=>(ra rfl (eZ (cK (ts (rm rfl (ro rfl (dK U_30 (Ht rfl) aA) (ro rfl (cX (cJ 0)) (eZ (eK (lT 1 rfl (uL (e:=51) (s:=5)) ?_))))))))))))))))))
 refine cM (fun (i : Nat) => i ≤ M.length) (fun (i : Nat) => M.length - i) (fun (i : Nat) => [(0, dM M), (1, dM bs), (5, Is (.slice (some ⟨B12, 0, none⟩) M.length M.length)), (13, dM M), (14, NT .i64 M.length), (15, NT .i64 i)]) (fun (i : Nat) => [Z, nJ B12 29 51 5 (dO aE (jR (Fv M bs) [] M.length i))]) 0 (Nat.zero_le _)
  (zS rfl) (aU (fun _ _ _ h=>h) (aU (fA (by rw [← iH,pO]; exact rH aE M.length)) aY)) (fun i hi=>?_)
 refine ts (ro rfl (gV (Ht rfl) (Ht rfl)) (eZ (cK (dQ (Ht rfl) (fun hd0=>?_) (fun hd0=>?_)))))
 ·simp only [decide_eq_true_eq] at hd0
  have hrl:(fH M i).length = m:=hM.row zo
  have hrl2:(M.getD i []).length = m:=hrl
  refine oS 1 (i) rfl (tZ hd0) (fun v0=>(cU (cK (eK (ts (rm rfl (ro rfl (dZ U_30 Z_29 (Ht rfl) (Ht rfl) rfl (eQ (dY (d:=[]) hd0))) (ro rfl (dV A_29 Z_29 (Ht rfl)) (ra rfl (ra rfl (eZ (ts (rm rfl (rm rfl (rm rfl (nN Tryz.call158 (Gd (l:=M.getD i []) zo) ⟨(Ht rfl),trivial⟩ rfl (fun v1 _=>(ro rfl (gX U_30 Z_29 (Ht rfl) (Ht rfl) rfl zo (by rw [Nat.mul_one,Nat.zero_add])) ?_))))))))))))))))))
  refine yX Z_29 (Ht rfl) (Ht rfl) (by simp only [dO,List.length_map,cO]; omega) (j:=1) (l:=3) rfl rfl rfl ?_
  refine eZ (ts (rm rfl (ro rfl (dK U_30 (Ht rfl) aA) (ro rfl (cX (cJ 0)) (eZ (eK (bL [0,1,3] rfl (by decide) ?_)))))))
  refine fT (fun (j : Nat) (v : Value) => j ≤ bs.length) (fun (j : Nat) (v : Value) => bs.length - j) (fun (j : Nat) (v : Value) => [(0, dM M), (1, dM bs), (5, Is (.slice (some ⟨B12, 0, none⟩) M.length M.length)), (6, NT .i64 i), (13, dM M), (14, NT .i64 M.length), (15, NT .i64 i), (25, dM bs), (26, NT .i64 bs.length), (27, NT .i64 j)]) (fun (j : Nat) (v : Value) => [Z, Gx B12 29 51 5 (dO aE (jR (Fv M bs) [] M.length i)) i v, bM 51 5 v ((fH M i ++ (bs.take j).map fun b => gv b i).map aE)]) 0 v1 (Nat.zero_le _)
   (zS rfl) (aU (fun _ _ _ h=>h) (aU (fun _ _ _ h=>h) (aU (aR (by simp)) aY))) (fun j v hj=>?_)
  refine ts (ro rfl (gV (Ht rfl) (Ht rfl)) (eZ (cK (dQ (Ht rfl) (fun he=>?_) (fun he=>?_)))))
  ·simp only [decide_eq_true_eq] at he
   have hbj:i < (bs.getD j []).length:=by have h1:=hb (bs.getD j []) (by rw [Eg he]; exact List.getElem_mem _); omega
   refine cU (cK (eK (ts (ro rfl (dZ U_30 Z_29 (Ht rfl) (Ht rfl) rfl (eQ (dY (d:=[]) he))) (ro rfl (dV A_29 Z_29 (Ht rfl)) (ra rfl (eZ (Y.D_startA (m:=12) [] 11 2 rfl rfl (bY (Ei:=[(5,_)]) rfl rfl (bQ (bJ rfl rfl) bX) rfl rfl (dX rfl (cX (Ht rfl))) (bY (Ei:=[(6,_)]) rfl rfl (bQ (bJ rfl rfl) bX) rfl rfl (dX rfl (cX (Ht rfl))) (bY (Ei:=[(5,_)]) rfl rfl (bQ (bJ rfl rfl) bX) rfl rfl (dX rfl (cX (Ht rfl))) ?_)))))))))))
   refine bY (Ei:=[(6,_)]) rfl rfl (bQ (bJ rfl rfl) bX) rfl rfl (dX rfl (cX (Ht rfl))) (bY (Ei:=[(33,_),(34,_)]) rfl rfl (bQ (bZ 2 rfl rfl) (bQ (bZ 3 rfl rfl) bX)) rfl rfl (dX rfl (gX U_30 Z_29 (Ht rfl) (Ht rfl) rfl zo (by rw [Nat.mul_one,Nat.zero_add]))) ?_)
   refine bY (Ei:=[(35,_)]) rfl rfl (bQ (bZ 4 rfl rfl) bX) rfl rfl (dX rfl (mH A_29 Z_29 (Ht rfl) (j:=1) rfl)) (bY (Ei:=[(9,_)]) rfl rfl (bQ (bJ rfl rfl) bX) rfl rfl (dX rfl (cX (Ht rfl))) (bY (Ei:=[(6,_)]) rfl rfl (bQ (bJ rfl rfl) bX) rfl rfl (dX rfl (cX (Ht rfl))) (bY (Ei:=[(37,_),(38,_)]) rfl rfl (bQ (bZ 6 rfl rfl) (bQ (bZ 7 rfl rfl) bX)) rfl rfl (dX rfl (dZ U_29 Z_51 (Ht rfl) (Ht rfl) rfl (eQ (dY (d:=Qi.zero) hbj)))) ?_)))
   refine bY (Ei:=[(39,_)]) rfl rfl (bQ (bZ 8 rfl rfl) bX) rfl rfl (dX rfl (dV A_51 Z_51 (Ht rfl))) (bY (Ei:=[(40,_)]) rfl rfl (bQ (bZ 9 rfl rfl) bX) rfl rfl (dX rfl (dH (xs:=[.tmp 40]) U_29 Z_51 O_51 (cW (Ht rfl) cG) rfl rfl rfl)) (Y.D_app (Ei:=[(36,_),(41,_)]) rfl rfl rfl rfl (bQ (bZ 5 rfl rfl) (bQ (bZ 10 rfl rfl) bX)) rfl (Gr (inf:=Tryz.t51) kD iS rfl rfl rfl (Ht rfl) (Ht rfl) (by simp) (fun T hT=>by simp at hT; subst hT; exact El.ag rfl) (by show _ * 88 ≤ _; simp only [List.length_map,List.length_append,List.length_take,List.length_cons,List.length_nil]; omega) (by simp only [List.length_map,List.length_append,List.length_take,List.length_cons,List.length_nil]; omega)) ?_))
   refine Y.D_done bF rfl (by kernel_rfl) rfl (by simp [Y.okP]) rfl rfl (bU (bU (bU (bU (bU (bU (bU (bU (bU (bU (bU (Y.F_app (fun v2=>Y.F_nil ?_)))))))))))))
   refine ro rfl (gX U_30 Z_29 (Ht rfl) (Ht rfl) rfl zo (by rw [Nat.mul_one,Nat.zero_add])) ?_
   refine yX Z_29 (Ht rfl) (Ht rfl) (by simp only [dO,List.length_map,cO]; omega) (j:=1) (l:=3) rfl rfl rfl ?_
   refine eZ (bH (cY (ro rfl (dW (Ht rfl) (cJ 1) z6) (rm rfl (eZ (bL [0,1,3] rfl (by decide) (gQ (j + 1,v2) he (by dsimp only; omega) (zS rfl) (aU (fun _ _ _ h=>h) (aU (fun _ _ _ h=>h) (aU (aR ((Uj aE _ (gv (bs.getD j []) i)).trans (congrArg _ (Xy he)))) aY))))))))))
  ·simp only [decide_eq_false_iff_not] at he
   obtain rfl:bs.length = j:=Nat.le_antisymm zo hj
   refine gK rfl (bH (kR 1 2 rfl rfl (by decide) (by simp only [dO,List.length_map,cO]; omega) ?_))
   refine cY (ro rfl (dW (Ht rfl) (cJ 1) z6) (rm rfl (eZ (bL [0,1] rfl (by decide) (gQ (i + 1) hd0 zo (zS rfl) (aU (fun _ _ _ h=>h) (aU (fA (by rw [List.take_length,kZ,← jI (f:=Fv M bs)])) aY)))))))
 ·simp only [decide_eq_false_iff_not] at hd0
  obtain rfl:i = M.length:=Nat.le_antisymm hi zo
  subst hMl
  refine gK rfl (ts (rm rfl (ra rfl (eZ ?_))))
  exact lR B12 trivial [0,1] ⟨⟨_,rfl,fun _ _ _ h=>h⟩,⟨_,rfl,(fA (by rw [jJ]; rfl))⟩,trivial⟩ (by decide) (yO rfl (eY rfl))
end
section
open Go Go.RowKit
theorem a37 {n:Nat} (hn:n ≤ 32):jH Tryz.prog 94 [NT .i64 n] [] (Nat) (fun B=>Is (.slice (some ⟨B,0,none⟩) n n)) (fun B=>[sS vM B 29 51 5 (dO aE (Pr n))]) (fun _=>True):=by
 refine jH.intro Tryz.func94 rfl Tryz.ntmps94 rfl (fun cx Z=>(ts (ro rfl (cQ cV) (eZ (ts (rn rfl (eG (Ts:=[Is (.bool false),Is (.slice none 0 0),Is (.bool false),Is (.slice none 0 0),Is (.slice none 0 0)]) O_51 rfl (fun V=>aW zd (aW zd (aW zd (aW zd (aW zd (aG))))))) fun B3=>(eZ (ts (rm rfl (ro rfl (aF.nat (Wu (Ht rfl) (cJ 0)) (show max n 0 = n by omega)) (ro rfl (aF.nat (Lf (Ht rfl) (cJ 32)) (show min n 32 = n by omega)) ?_)))))))))))
 refine rn rfl (fS (T:=Is (.slice none 0 0)) (i:=Tryz.t29) V_30 sC rfl rfl (Ht rfl) rfl (fun _=>rfl) trivial (by show 24 * _ ≤ _; omega) zo) fun B9=>ra rfl (eZ (cK (ts (rm rfl (ro rfl (jU U_30 (Ht rfl)) (ro rfl (cX (cJ 0)) (eZ (eK (lT 2 rfl (Fh vM ⟨none,0,rfl⟩ (e:=51) (s:=5)) ?_)))))))))
 refine cM (fun (k : Nat) => k ≤ n) (fun (k : Nat) => n - k) (fun (k : Nat) => [(3, bO B3 0), (4, Is (.slice (some ⟨B9, 0, none⟩) n n)), (11, NT .i64 n), (12, NT .i64 k)]) (fun (k : Nat) => [Z, box B3 51 [Is (.bool false), Is (.slice none 0 0), Is (.bool false), Is (.slice none 0 0), Is (.slice none 0 0)], sS vM B9 29 51 5 (dO aE (jR (Bm n) [] n k))]) 0 (Nat.zero_le _)
  (zS rfl) (aU (fun _ _ _ h=>h) (aU (fun _ _ _ h=>h) (aU (fA (by rw [← iH,pO]; exact rH aE n)) aY))) (fun k hk=>?_)
 refine ts (ro rfl (gV (Ht rfl) (Ht rfl)) (eZ (cK (dQ (Ht rfl) (fun hd=>?_) (fun hd=>?_)))))
 ·simp only [decide_eq_true_eq] at hd
  refine Va 2 (k) rfl (tZ hd) (fun v hv=>(cU (cK (eK (ts (rm rfl (ra rfl (eZ (cK (fV (m:=10) (dp 4 rfl (cX (Ht rfl)) (dp 5 rfl (cX (Ht rfl)) (dp 3 rfl (eW A_51 Z_51 (Ht rfl) (i:=1) rfl rfl rfl) (dq 17 2 rfl (bD bN (Ht rfl)) (d0 rfl (cZ Tryz.call77 (Nh (n:=0) (by decide) (by decide)) ⟨(cJ 0),trivial⟩) (dS 18 3 19 4 rfl (aP tF Tryz.call302 Tl (Ht rfl) ⟨(Ht rfl),trivial⟩) (dq 20 5 rfl (dH (xs:=[.tmp 20]) U_29 Z_51 O_51 (cW (Ht rfl) cG) rfl rfl rfl) ?_)))))))))))))))))
  refine dp 4 rfl (cX (Ht rfl)) (dq 22 7 rfl (jU U_30 (Ht rfl)) (C.D_new (Ei:=[(21,_),(23,_)]) rfl rfl rfl (bV (bG 6 rfl rfl) (bV (bG 8 rfl rfl) bW)) (Bi Tryz.call191 (a1d (m:=n) zo zo) ⟨(Ht rfl),(Ht rfl),trivial⟩) (fG bF rfl (by kernel_rfl) (zF (zF (aJ (C.F_new (fun B24=>aV (ro rfl (gX U_30 Z_29 (Ht rfl) (Ht rfl) rfl zo (by rw [Nat.mul_one,Nat.zero_add])) ?_)))))))))
  refine yX Z_29 (Ht rfl) (Ht rfl) (by simp only [dO,List.length_map,cO]; omega) (j:=2) (l:=4) rfl rfl rfl ?_
  refine eZ ?_
  have hB24:=B24.1.2
  refine fV (m:=9) (dp 4 rfl (cX (Ht rfl)) (dp 5 rfl (cX (Ht rfl)) (dS 26 0 27 1 rfl (gX U_30 Z_29 (Ht rfl) (Ht rfl) rfl zo (by rw [Nat.mul_one,Nat.zero_add])) ?_)))
  refine dq 28 2 rfl (mH A_29 Z_29 (Ht rfl) (j:=2) rfl) (dp 5 rfl (cX (Ht rfl)) (dp 3 rfl (eW A_51 Z_51 (Ht rfl) (i:=1) rfl rfl rfl) (dq 31 5 rfl (bD bN (Ht rfl)) (d0 rfl (cZ Tryz.call77 (Nh (n:=1) (by decide) (by decide)) ⟨(cJ 1),trivial⟩) (dS 32 6 33 7 rfl (aP tF Tryz.call302 Tl (Ht rfl) ⟨(Ht rfl),trivial⟩) (fG bF rfl (by kernel_rfl) (zF (zF (aJ (aV (ro rfl (dE U_29 Z_51 (Ht rfl) (Ht rfl) rfl (i:=4) rfl (by simp only [List.length_map,aO]; omega) rfl) ?_)))))))))))
  refine kS Z_51 (Ht rfl) (Ht rfl) (El.ag rfl) (i:=4) rfl rfl (by simp only [List.length_map,aO]; omega) rfl ?_
  refine eZ (bH (kR 2 4 rfl rfl (by decide) (by simp only [dO,List.length_map,cO]; omega) ?_))
  refine cY (ro rfl (dW (Ht rfl) (cJ 1) z6) (rm rfl (eZ (bL [0,1,2] rfl (by decide) (gQ (k + 1) hd zo (zS rfl) (aU (fun _ _ _ h=>h) (aU (fun _ _ _ h=>h) (aU (fA (by rw [← jI (f:=Bm n),← kZ,Bm,← fM])) aY))))))))
 ·simp only [decide_eq_false_iff_not] at hd
  obtain rfl:n = k:=Nat.le_antisymm zo hk
  refine gK rfl (ts (rm rfl (ra rfl (eZ ?_))))
  exact lR B9 trivial [0,2] ⟨⟨_,rfl,fun _ _ _ h=>h⟩,⟨_,rfl,(fA (by rw [jJ]; rfl))⟩,trivial⟩ (by decide) (yO rfl (eY rfl))
theorem a2A {n:Nat} (hn:n ≤ 32):bB Tryz.prog 94 [NT .i64 n] (dM (Pr n)):=(a37 hn).fun fun B _ v S V h1 h2=>qY (s:=5) (M:=Pr n) (uW n).1.symm v S V h1 h2
theorem Mj {M:List (List Qi)} {b:List Qi} {n L:Nat} (hM:eR M n n) (hb:b.length = n) (hf:bT M L) (hfb:cC b L) (hL:1 ≤ L) (h1:1 ≤ n) (hn:n ≤ 32) (hg:6 * dD L n + 4 ≤ 17592186044415) (hx:pE (dD L n) (n + 1) ≤ 17592186044415):bB Tryz.prog 96 [dM M,bA b] (dN [bA (iI (mB M b n) (mA M b n)),aD .i64 (mB M b n)]):=by
 have hMl:=hM.1
 have hcs:eR (lK M [b] n) n (n + 1):=nV hM
 have hcf:bT (lK M [b] n) L:=Bq hf (fun r hr=>by simp at hr; subst hr; exact hfb) hL
 obtain ⟨U,hU⟩:∃ U,U = (sR M b n).1:=⟨_,rfl⟩
 have hUs:eR U n (n + 1):=by rw [hU]; exact Se hM
 have hUl:=hUs.1
 have hUf:bT U (dD L n):=by rw [hU]; exact Gc hM hf hfb hL
 have hG1:1 ≤ dD L n:=Nat.le_trans hL (sL L n)
 refine bB.intro Tryz.func96 rfl Tryz.ntmps96 rfl (fun cx=>(ts (ro rfl (cQ cV) (ro rfl (cQ (cJ 0)) (eZ (cK (ts (rm rfl (ro rfl (cZ Tryz.call174 (Ga hM h1 hn) ⟨(Ht rfl),trivial⟩) (ro rfl (eH (Ht rfl)) (rm rfl (fX rfl rfl (eU rfl rfl (Ht rfl) (fun h=>cX (Ht rfl))) (fX rfl rfl (eU rfl rfl (Ht rfl) (fun h=>dK U_29 (fW rfl h) aA)) (fX rfl rfl (eU rfl rfl (Ht rfl) (fun h=>cX (Ht rfl))) (fX rfl rfl (eU rfl rfl (Ht rfl) (fun h=>dK U_30 (fW rfl h) aA)) ?_)))))))))))))))
 refine fX rfl rfl (eU rfl rfl (Ht rfl) (fun h=>iV (fW rfl h) (fW rfl h))) (ro rfl (kX (Ht rfl) (fun h=>(fW rfl h))) (eZ (fN (Ht rfl) (by simp [hMl,hb]) ?_)))
 refine cU (ts (rm rfl (ro rfl (dK U_30 (Ht rfl) (by rw [List.length_map,hMl])) ?_)))
 refine ra rfl (eZ (ts (rm rfl (rm rfl (ro rfl (dH (xs:=[.tmp 26]) U_30 Z_29 O_29 (cW (Ht rfl) cG) rfl rfl rfl) (nN Tryz.call193 (Bs (M:=M) (bs:=[b]) (n:=n) (m:=n) hM (fun r hr=>by simp at hr; subst hr; omega) zo zo (by simp)) ⟨(Ht rfl),(Ht rfl),trivial⟩ rfl (fun B28 _=>?_)))))))
 refine ra rfl (eZ (cK (ts (rm rfl (Dy Tryz.call194 (Zo (n:=n) (m:=n + 1) (L:=L) hcs hcf hL hg zo zo) (i:=0) rfl ⟨(Ht rfl),trivial⟩ rfl (fun uu _=>(rm rfl (ro rfl (dU (Ht rfl) rfl) (ro rfl (dU (Ht rfl) rfl) (ra rfl (ra rfl (eZ (ts (rm rfl (ro rfl (lU (Ht rfl) cV) (eZ (dQ (Ht rfl) (fun hs=>?_) (fun hs=>?_))))))))))))))))))
 ·have he : mB M b n = 6 := by rw [mB, if_pos (show 0 ≤ (sR M b n).2.2 from of_decide_eq_true hs)]
  refine ts (ro rfl (cQ cV) (ro rfl (cQ (cJ 6)) (eZ (bI rfl (fJ (eY rfl) ?_) (fJ (eY rfl) ?_)))))
  ·exact (fun v V k=>by rw [he]; exact iT v V k)
  ·exact (aM he.symm)
 ·have hst : ¬ 0 ≤ (sR M b n).2.2 := of_decide_eq_false hs
  have he:mB M b n = 0:=by rw [mB,if_neg hst]
  have hdz:∀ i,i < n → gm U i i ≠ Qi.zero:=by rw [hU]; exact pU hcs (Nat.le_refl n) (a0d hst)
  refine cU (ts (rm rfl (rn rfl (gR (T:=aE Qi.zero) (i:=Tryz.t51) kD iS rfl rfl (Ht rfl) rfl gS (El.ag rfl) (by show 88 * _ ≤ _; omega) zo) fun B37=>(ra rfl (eZ (cK (ts (rm rfl (ro rfl (dG (Ht rfl) (cJ 1) zo z6) (ra rfl (eZ (eK (lT 0 rfl (fA (show dO aE (cH (lK M [b] n) n).1 = dO aE U by rw [hU]; rfl)) (Lo 0 rfl (fun vs hvs=>?_)))))))))))))))
  have hvl:vs.length = n:=by have h:=hvs.len; rw [List.length_map,hUl] at h; exact h
  refine cM (fun (j : Nat) => j ≤ n) (fun (j : Nat) => n - j) (fun (j : Nat) => [(0, Is (.slice (some ⟨B28, 0, none⟩) n n)), (6, NT .i64 n), (9, Is B37), (10, aD .i64 ((n : Int) - 1 - (j : Int)))]) (fun (j : Nat) => [kC B28 29 51 5 vs vs (dO aE U), bM 51 5 B37 ((oQ U n j).map aE)]) 0 (Nat.zero_le _)
   (aQ rfl (aQ rfl (aQ rfl (aZ rfl (aM zo) aX)))) (aU (fun _ _ _ h=>h) (aU (aR (by rw [oQ]; exact nG aE n)) aY)) (fun j hj=>?_)
  refine cK (ts (rm rfl (ro rfl (lU (Ht rfl) cV) (eZ (dQ (Ht rfl) (fun hc=>?_) (fun hc=>?_))))))
  ·have hjn : j < n := a2p (of_decide_eq_true hc)
   obtain ⟨q,hq⟩:∃ q,q = n - (j + 1):=⟨_,rfl⟩
   have hqi:(n:Int) - 1 - (j:Int) = (q:Int):=by omega
   have hqr:(U.getD q []).length = n + 1:=hUs.row zo
   have hXf:=Kb hUf hG1 hdz j hj
   have hXl:=uE U n j
   have hX1:1 ≤ pE (dD L n) j:=Nat.le_trans hG1 (Ep _ _)
   have hxm:=yV (dD L n) (show j + 1 ≤ n + 1 by omega)
   refine cU (cK (eK (ts (rm rfl (rm rfl (ro rfl (gX U_30 Z_29 (Ht rfl) (Ht rfl) hqi zo (by rw [Nat.mul_one,Nat.zero_add])) ?_))))))
   refine ro rfl (lB A_29 Z_29 (Ht rfl) (j:=0) rfl zo) (rm rfl (ro rfl (nK U_29 Z_51 (Ht rfl) (Ht rfl) rfl (j:=0) rfl zo zo zo) (ro rfl (rI A_51 Z_51 (Ht rfl) (j:=0) rfl zo zo zo) (rn rfl (eG (Ts:=[Is (.bool false),Is (.slice none 0 0),Is (.bool false),Is (.slice none 0 0),Is (.slice none 0 0)]) O_51 rfl (fun V=>aW zd (aW zd (aW zd (aW zd (aW zd (aG))))))) fun B11=>?_))))
   refine gJ Z_51 (Ht rfl) (Ht rfl) rfl (i:=2) rfl (aK rfl) rfl rfl (eZ (cK (ts (rm rfl (ro rfl (zT (Ht rfl) cV (r:=((q + 1:Nat):Int)) ((tD (z:=(n:Int) - 1 - (j:Int) + 1) zo).trans zo)) ?_)))))
   refine ra rfl (eZ (eK ?_))
   refine cM (fun (k : Nat) => k ≤ j) (fun (k : Nat) => j - k) (fun (k : Nat) => [(0, Is (.slice (some ⟨B28, 0, none⟩) n n)), (6, NT .i64 n), (9, Is B37), (10, aD .i64 ((n : Int) - 1 - (j : Int))), (11, bO B11 0), (12, NT .i64 (q + 1 + k))]) (fun (k : Nat) => [kC B28 29 51 5 vs vs (dO aE U), bM 51 5 B37 ((oQ U n j).map aE), box B11 51 [aC (decide ((nF U (oQ U n j) n q k).a < 0)), aH (nF U (oQ U n j) n q k).a.natAbs, aC (decide ((nF U (oQ U n j) n q k).b < 0)), aH (nF U (oQ U n j) n q k).b.natAbs, aH (du (nF U (oQ U n j) n q k))]]) 0 (Nat.zero_le _)
    (zS rfl) (aU (fun _ _ _ h=>h) (aU (fun _ _ _ h=>h) (aU (aB rfl) aY))) (fun k hk=>?_)
   refine cK (ts (rm rfl (rm rfl (ro rfl (gV (Ht rfl) (Ht rfl)) (eZ (dQ (Ht rfl) (fun hf=>?_) (fun hf=>?_)))))))
   ·have hkj : k < j := by simp only [decide_eq_true_eq] at hf; omega
    haveI f1:aN (nF U (oQ U n j) n q k) (dD L n + k * (dD L n + pE (dD L n) j + 2)):=xQ hUf hXf hG1 hX1 k
    haveI f2:aN (gm U q (q + 1 + k)) (dD L n):=hUf.get hG1 _ _
    haveI f3:aN (gv (oQ U n j) (q + 1 + k)) (pE (dD L n) j):=hXf.get hX1 _
    have hb1:=Ui (G:=dD L n) (X:=pE (dD L n) j) hkj
    have hb2:pE (dD L n) (j + 1) = j * (pE (dD L n) j + dD L n + 2) + 4 * dD L n + 2:=rfl
    refine cU (cK (eK (fV (m:=15) (dp 11 rfl (eW A_51 Z_51 (Ht rfl) (i:=2) rfl rfl rfl) (dq 58 0 rfl (bD bN (Ht rfl)) (dp 0 rfl (cX (Ht rfl)) (dp 10 rfl (cX (Ht rfl)) (dS 60 2 61 3 rfl (gX U_30 Z_29 (Ht rfl) (Ht rfl) hqi zo (by rw [Nat.mul_one,Nat.zero_add])) ?_))))))))
    refine dq 62 4 rfl (lB A_29 Z_29 (Ht rfl) (j:=0) rfl zo) (dp 12 rfl (cX (Ht rfl)) (dS 63 5 64 6 rfl (nK U_29 Z_51 (Ht rfl) (Ht rfl) rfl (j:=0) rfl zo zo zo) (dq 65 7 rfl (rI A_51 Z_51 (Ht rfl) (j:=0) rfl zo zo zo) (dq 66 8 rfl (bD bN (Ht rfl)) (dp 9 rfl (cX (Ht rfl)) (dp 12 rfl (cX (Ht rfl)) (dS 68 10 69 11 rfl (dE U_29 Z_51 (Ht rfl) (Ht rfl) rfl (i:=1) rfl (by rw [List.length_map]; omega) rfl) ?_)))))))
    refine dq 70 12 rfl (tG A_51 Z_51 (Ht rfl) (i:=1) rfl rfl (eQ (dY (d:=Qi.zero) zo))) (dS 67 9 71 13 rfl (aP cI K_45 (kW (x:=gm U q (q + 1 + k)) (y:=gv (oQ U n j) (q + 1 + k)) (L:=dD L n) (M:=pE (dD L n) j) zo) (Ht rfl) ⟨(Ht rfl),trivial⟩) (fG bF rfl (by kernel_rfl) (zF (zF (zF (aJ (aJ (aJ (aV (ro rfl (aP jE K_44 (uO (x:=(nF U (oQ U n j) n q k)) (y:=gm U q (q + 1 + k) * gv (oQ U n j) (q + 1 + k)) (L:=dD L n + k * (dD L n + pE (dD L n) j + 2)) (M:=dD L n + pE (dD L n) j + 1) zo) (Ht rfl) ⟨(Ht rfl),trivial⟩) ?_))))))))))
    refine gJ Z_51 (Ht rfl) (Ht rfl) rfl (i:=2) rfl (aK rfl) rfl rfl (eZ (bH (cY (rm rfl (ro rfl (dW (Ht rfl) (cJ 1) z6) (ra rfl (eZ (gQ (k + 1) hkj zo (zS rfl) (aU (fun _ _ _ h=>h) (aU (fun _ _ _ h=>h) (aU (aB rfl) aY)))))))))))
   ·obtain rfl : k = j := Nat.le_antisymm hk (by simp only [decide_eq_false_iff_not] at hf; omega)
    haveI f1:aN (nF U (oQ U n k) n q k) (dD L n + k * (dD L n + pE (dD L n) k + 2)):=xQ hUf hXf hG1 hX1 k
    haveI f2:aN (gm U q q) (dD L n):=hUf.get hG1 _ _
    have hb3:k * (pE (dD L n) k + dD L n + 2) = k * (dD L n + pE (dD L n) k + 2):=by rw [Nat.add_comm (pE _ _)]
    have hb2:pE (dD L n) (k + 1) = k * (pE (dD L n) k + dD L n + 2) + 4 * dD L n + 2:=rfl
    refine gK rfl (Y.D_start (m:=17) [(16,1,bM 51 5 B37 (((oQ U n k).map aE).set q (aE ((nF U (oQ U n k) n q k) / gm U q q))))] (Y.D_step (Ei:=[(9,_)]) rfl rfl (bQ (bJ rfl rfl) bX) rfl rfl (by kernel_rfl) (dX rfl (cX (Ht rfl))) (Y.D_step (Ei:=[(10,_)]) rfl rfl (bQ (bJ rfl rfl) bX) rfl rfl (by kernel_rfl) (dX rfl (cX (Ht rfl))) (Y.D_step (Ei:=[(11,_)]) rfl rfl (bQ (bJ rfl rfl) bX) rfl rfl (by kernel_rfl) (dX rfl (eW A_51 Z_51 (Ht rfl) (i:=2) rfl rfl rfl)) ?_))))
    refine Y.D_step (Ei:=[(77,_)]) rfl rfl (bQ (bZ 2 rfl rfl) bX) rfl rfl (by kernel_rfl) (dX rfl (bD bN (Ht rfl))) (Y.D_step (Ei:=[(0,_)]) rfl rfl (bQ (bJ rfl rfl) bX) rfl rfl (by kernel_rfl) (dX rfl (cX (Ht rfl))) (Y.D_step (Ei:=[(10,_)]) rfl rfl (bQ (bJ rfl rfl) bX) rfl rfl (by kernel_rfl) (dX rfl (cX (Ht rfl))) (Y.D_step (Ei:=[(79,_),(80,_)]) rfl rfl (bQ (bZ 4 rfl rfl) (bQ (bZ 5 rfl rfl) bX)) rfl rfl (by kernel_rfl) (dX rfl (gX U_30 Z_29 (Ht rfl) (Ht rfl) hqi zo (by rw [Nat.mul_one,Nat.zero_add]))) ?_)))
    refine Y.D_step (Ei:=[(81,_)]) rfl rfl (bQ (bZ 6 rfl rfl) bX) rfl rfl (by kernel_rfl) (dX rfl (lB A_29 Z_29 (Ht rfl) (j:=0) rfl zo)) (Y.D_step (Ei:=[(10,_)]) rfl rfl (bQ (bJ rfl rfl) bX) rfl rfl (by kernel_rfl) (dX rfl (cX (Ht rfl))) (Y.D_step (Ei:=[(82,_),(83,_)]) rfl rfl (bQ (bZ 7 rfl rfl) (bQ (bZ 8 rfl rfl) bX)) rfl rfl (by kernel_rfl) (dX rfl (nK U_29 Z_51 (Ht rfl) (Ht rfl) hqi (j:=0) rfl zo zo zo)) ?_))
    refine Y.D_step (Ei:=[(84,_)]) rfl rfl (bQ (bZ 9 rfl rfl) bX) rfl rfl (by kernel_rfl) (dX rfl (rI A_51 Z_51 (Ht rfl) (j:=0) rfl zo zo zo)) (Y.D_step (Ei:=[(78,_),(85,_)]) rfl rfl (bQ (bZ 3 rfl rfl) (bQ (bZ 10 rfl rfl) bX)) rfl rfl (by kernel_rfl) (dX rfl (aP jT K_40 (xE (x:=(nF U (oQ U n k) n q k)) (y:=gm U q q) (L:=dD L n + k * (dD L n + pE (dD L n) k + 2)) (M:=dD L n) zo) (Ht rfl) ⟨(Ht rfl),trivial⟩)) (Y.D_step (Ei:=[(86,_)]) rfl rfl (bQ (bZ 11 rfl rfl) bX) rfl rfl (by kernel_rfl) (dX rfl (cX (Ht rfl))) ?_))
    refine Y.D_step (Ei:=[(74,_)]) rfl rfl (bQ (bZ 12 rfl rfl) bX) rfl rfl (by kernel_rfl) (dX rfl (dU (Ht rfl) rfl)) (bY (Ei:=[(74,_)]) rfl rfl (bQ (bZ 12 rfl rfl) bX) rfl rfl (dX rfl (dU (Ht rfl) rfl)) (Y.D_step (Ei:=[(75,_),(76,_)]) rfl rfl (bQ (bZ 0 rfl rfl) (bQ (bZ 1 rfl rfl) bX)) rfl rfl (by kernel_rfl) (dX rfl (dE U_29 Z_51 (Ht rfl) (Ht rfl) hqi (i:=1) rfl (by rw [List.length_map]; omega) rfl)) ?_))
    refine Y.D_putI (Ei:=[(89,_),(87,_)]) 1 rfl rfl rfl (bQ (bZ 15 rfl rfl) (bQ (bZ 13 rfl rfl) bX)) (.head _) rfl (Bv Z_51 (Ht rfl) (Ht rfl) (El.ag rfl) (i:=0) rfl rfl (by rw [List.length_map]; omega)) ?_
    refine Y.D_done bF rfl (by kernel_rfl) rfl (by simp [Y.okP]) rfl rfl (bU (bU (bU (bU (bU (bU (bU (bU (bU (bU (bU (bU (bU (bU (bU (bU (Y.F_putI (Y.F_nil ?_))))))))))))))))))
    refine eZ (bH (cY (rm rfl (ro rfl (gM (Ht rfl) cV (tD zo)) (ra rfl (eZ (bL [0,1] rfl (by decide) (gQ (k + 1) hjn zo (aQ rfl (aQ rfl (aQ rfl (aZ rfl (aM zo) aX)))) (aU (fun _ _ _ h=>h) (aU (aR (by rw [fM,oQ,← hq])) aY))))))))))
  ·obtain rfl : j = n := Nat.le_antisymm hj (a38 (by have h := of_decide_eq_false hc; omega))
   refine gG (i:=1) (tt:=9) rfl rfl fP (gK rfl (ts (rm rfl (ra rfl (ro rfl (cQ (cJ 0)) (eZ (bI rfl (fJ (eY rfl) ?_) (fJ (eY rfl) ?_))))))))
   ·exact (kB (by rw [he,mA,← hU]; rfl))
   ·exact (aM he.symm)
end
section
open Go Go.RowKit
abbrev ek (n k:Nat):List Qi:=(Pr n).getD k []
theorem a1F {n k:Nat} (h:k < n):(ek n k).length = n:=(uW n).row h
theorem a1i {n k L:Nat} (h:1 ≤ L):cC (ek n k) L:=(Lz h).row k
def Jt (M:List (List Qi)) (n:Nat):Int:=jM (fun k=>mB M (ek n k) n) n
def a31 (M:List (List Qi)) (n:Nat):List (List Qi):=tab n fun r=>tab n fun j=>gv (mA M (ek n j) n) r
theorem pX {α:Type} {n i:Nat} {f:Nat → α} {d:α} (h:i < n):(tab n f).getD i d = f i:=by simp [List.getD,cE h]
def rN (M:List (List Qi)) (n k i:Nat):List (List Qi):=tab n fun r=>tab n fun j=>if j < k ∨ j = k ∧ r < i then gv (mA M (ek n j) n) r else gm M r j
theorem pY (M:List (List Qi)) (n k i:Nat):eR (rN M n k i) n n:=eR.tab
theorem Nw {M:List (List Qi)} {n:Nat} (h:eR M n n):M = rN M n 0 0:=by
 rw [rN]
 conv=>lhs; rw [qN h]
 exact cP fun r _=>cP fun j _=>by rw [if_neg zo]
theorem Ve (M : List (List Qi)) (n k : Nat) : rN M n k n = rN M n (k + 1) 0 := cP fun r hr => cP fun j _ => by
 by_cases h:j < k ∨ j = k ∧ r < n
 ·rw [if_pos h,if_pos zo]
 ·rw [if_neg h,if_neg zo]
theorem Td (M:List (List Qi)) (n:Nat):rN M n n 0 = a31 M n:=cP fun r _=>cP fun j hj=>by rw [if_pos zo]
theorem Nq {M:List (List Qi)} {n k i:Nat} (hi:i < n) (hk:k < n):(rN M n k i).set i (((rN M n k i).getD i []).set k (gv (mA M (ek n k) n) i)) = rN M n k (i + 1):=by
 apply List.ext_getElem?
 intro r
 by_cases hr:r < n
 ·by_cases e : r = i
  ·subst e
   rw [List.getElem?_set_self (by rw [(pY _ _ _ _).1]; exact hr),rN,rN,cE (f:=fun r=>tab n fun j=>if j < k ∨ j = k ∧ r < _ + 1 then gv (mA M (ek n j) n) r else gm M r j) hr]
   congr 1
   have:(tab n fun x=>tab n fun j=>if j < k ∨ j = k ∧ x < r then gv (mA M (ek n j) n) x else gm M x j).getD r [] = tab n fun j=>if j < k ∨ j = k ∧ r < r then gv (mA M (ek n j) n) r else gm M r j:=pX hr
   rw [this]
   apply List.ext_getElem?
   intro j
   by_cases hj:j < n
   ·by_cases e2 : j = k
    ·subst e2
     rw [List.getElem?_set_self (by rw [aO]; exact hj),cE hj,if_pos zo]
    ·rw [List.getElem?_set_ne (Ne.symm e2), cE hj, cE hj]
     by_cases e3:j < k
     ·rw [if_pos (.inl e3),if_pos (.inl e3)]
     ·rw [if_neg zo,if_neg zo]
   ·rw [List.getElem?_eq_none (by rw [List.length_set,aO]; omega),List.getElem?_eq_none (by rw [aO]; omega)]
  ·rw [List.getElem?_set_ne (Ne.symm e), rN, rN, cE hr, cE hr]
   congr 1
   refine cP fun j _=>?_
   by_cases e3:j < k ∨ j = k ∧ r < i
   ·rw [if_pos e3,if_pos zo]
   ·rw [if_neg e3,if_neg zo]
 ·rw [List.getElem?_eq_none (by rw [List.length_set,(pY _ _ _ _).1]; omega),List.getElem?_eq_none (by rw [(pY _ _ _ _).1]; omega)]
theorem Wf {M:List (List Qi)} {n k:Nat} (h:∀ i,i < k → mB M (ek n i) n = 0) (hk:k < n) (hx:mB M (ek n k) n ≠ 0):Jt M n = mB M (ek n k) n:=pW h hx hk
theorem Oj {M:List (List Qi)} {n:Nat} (h:∀ i,i < n → mB M (ek n i) n = 0):Jt M n = 0:=iP h
def pmM (m:Bool) (a b:List (List Qi)) (n:Nat):List (List Qi):=tab n fun i=>tab n fun j=>if m = true then gm a i j - gm b i j else gm a i j + gm b i j
theorem a08 {m:Bool} {a b:List (List Qi)} {n:Nat}:eR (pmM m a b n) n n:=eR.tab
theorem a0c {m : Bool} {a b : List (List Qi)} {n L M : Nat} (ha : bT a L) (hb : bT b M) (h1 : 1 ≤ L) (h2 : 1 ≤ M) : bT (pmM m a b n) (L + M + 1) := bT.tab fun i j _ _ => by
 haveI:=ha.get h1 i j; haveI:=hb.get h2 i j
 split
 ·infer_instance
 ·infer_instance
theorem Tb {T : Ty} {s : Nat} : ∀ vs V, gI [T, Is (.slice none 0 0)] vs V → gI [T, jS s []] vs V
 | [_,_],_,⟨h1,h2,h3⟩=>⟨h1,iT _ _ h2,h3⟩
 | [],_,h=>h.elim
 | [_],_,h=>h.2.elim
 | _ :: _ :: _ :: _,_,h=>h.2.2.elim
theorem jH.arg {P : Program} {f : FuncId} {Ts Ts' : List Ty} {As : Hp} {γ : Type} {U : γ → Ty} {As' : γ → Hp} {Q : γ → Prop} (h : jH P f Ts As γ U As' Q) (i : ∀ vs V, gI Ts' vs V → gI Ts vs V) : jH P f Ts' As γ U As' Q :=
 fun cx Z vs V w h1 h2=>h cx Z vs V w h1 (i _ _ h2)
end
section
open Go Go.RowKit
theorem Ox {M:List (List Qi)} {n m:Nat} (hM:eR M n m) (hn:n ≤ 1000) (hm:m ≤ 1000):jH Tryz.prog 193 [dM M,Is (.slice none 0 0)] [] Nat (fun B=>Is (.slice (some ⟨B,0,none⟩) n n)) (fun B=>[nJ B 29 51 5 (dO aE M)]) (fun _=>True):=by
 have h:=Bs (M:=M) (bs:=[]) hM (fun b hb=>by cases hb) hn hm (by simp)
 rw [Pg hM] at h
 exact h.arg Tb
theorem a2J {M:List (List Qi)} {n L:Nat} (hM:eR M n n) (hf:bT M L) (hL:1 ≤ L) (h1:1 ≤ n) (hn:n ≤ 32) (hg:6 * dD L n + 4 ≤ 17592186044415) (hx:pE (dD L n) (n + 1) ≤ 17592186044415):bB Tryz.prog 248 [dM M] (dN [dM (iI (Jt M n) (a31 M n)),aD .i64 (Jt M n)]):=by
 have hMl:=hM.1
 refine bB.intro Tryz.func248 rfl Tryz.ntmps248 rfl (fun cx=>(ts (ro rfl (cQ cV) (ro rfl (cQ (cJ 0)) (eZ (cK (ts (rm rfl (ro rfl (cZ Tryz.call174 (Ga hM h1 hn) ⟨(Ht rfl),trivial⟩) (ro rfl (eH (Ht rfl)) (eZ (fN (Ht rfl) (by rfl) ?_))))))))))))
 refine cU (ts (rm rfl (nN Tryz.call193 (Ox hM zo zo) ⟨(Ht rfl),cV,trivial⟩ rfl (fun B14 _=>(ra rfl (eZ (cK (ts (rm rfl (ro rfl (dK U_30 (Ht rfl) (by rw [List.length_map,hMl])) ?_))))))))))
 refine ro rfl (cZ Tryz.call94 (a2A (n:=n) hn) ⟨(Ht rfl),trivial⟩) (ro rfl (dK U_30 (Ht rfl) aA) (ro rfl (cX (cJ 0)) (eZ (eK ?_))))
 refine cM (fun (k : Nat) => k ≤ n ∧ ∀ i, i < k → mB M (ek n i) n = 0) (fun (k : Nat) => n - k) (fun (k : Nat) => [(0, dM M), (4, Is (.slice (some ⟨B14, 0, none⟩) n n)), (17, dM (Pr n)), (18, NT .i64 n), (19, NT .i64 k)]) (fun (k : Nat) => [nJ B14 29 51 5 (dO aE (rN M n k 0))]) 0 ⟨Nat.zero_le _, fun i h => by omega⟩
  (aQ rfl (aQ rfl (aQ rfl (aZ rfl (lL (uW n).1) (zS rfl))))) (aU (fA (congrArg _ (Nw hM))) aY) (fun k ⟨hk,h0⟩=>?_)
 refine ts (ro rfl (gV (Ht rfl) (Ht rfl)) (eZ (cK (dQ (Ht rfl) (fun hd0=>?_) (fun hd0=>?_)))))
 ·simp only [decide_eq_true_eq] at hd0
  have hel:=a1F hd0
  refine cU (cK (eK (ts (rm rfl (ro rfl (dZ U_30 Z_29 (Ht rfl) (Ht rfl) rfl (eQ (dY (d:=[]) (by rw [(uW n).1]; exact hd0)))) ?_)))))
  refine ro rfl (dV A_29 Z_29 (Ht rfl)) (ra rfl (ra rfl (eZ (ts (rm rfl (rm rfl (ro rfl (cZ Tryz.call96 (Mj (M:=M) (b:=ek n k) (n:=n) (L:=L) hM hel hf (a1i hL) hL h1 hn hg hx) ⟨(Ht rfl),(Ht rfl),trivial⟩) (rm rfl (ro rfl (dU (Ht rfl) rfl) (ro rfl (dU (Ht rfl) rfl) (ra rfl (ra rfl (eZ (cK (ts (rm rfl (ro rfl (fB (Ht rfl) cV) (eZ (dQ (Ht rfl) (fun he=>?_) (fun he=>?_))))))))))))))))))))
  ·have he2 : ¬ mB M (ek n k) n = 0 := by simpa using he
   have hi:=Wf h0 hd0 he2
   refine ts (rm rfl (ro rfl (cQ cV) (ra rfl (eZ (bI rfl (fJ (eY rfl) ?_) (fJ (eY rfl) ?_))))))
   ·exact (fun v V h=>by rw [hi,iI,if_neg he2]; exact iT v V h)
   ·exact (aM hi.symm)
  ·have he2 : mB M (ek n k) n = 0 := by simpa using he
   have hxl:(mA M (ek n k) n).length = n:=uE _ _ _
   refine yK (E':=[(0,_),(4,_),(5,_),(7,_),(17,_),(18,_),(19,_)]) (aQ rfl (aQ rfl (aQ rfl (aZ rfl (kB (Us:=(mA M (ek n k) n).map aE) (by rw [he2]; rfl)) (zS rfl))))) ?_
   refine cU (ts (rm rfl (ro rfl (dK U_29 (Ht rfl) aA) (ro rfl (cX (cJ 0)) (eZ (eK ?_))))))
   refine cM (fun (i : Nat) => i ≤ n) (fun (i : Nat) => n - i) (fun (i : Nat) => [(0, dM M), (4, Is (.slice (some ⟨B14, 0, none⟩) n n)), (5, NT .i64 k), (7, bA (mA M (ek n k) n)), (17, dM (Pr n)), (18, NT .i64 n), (19, NT .i64 k), (34, NT .i64 n), (35, NT .i64 i)]) (fun (i : Nat) => [nJ B14 29 51 5 (dO aE (rN M n k i))]) 0 (Nat.zero_le _)
    (aQ rfl (aQ rfl (aQ rfl (aQ rfl (aQ rfl (aQ rfl (aQ rfl (aZ rfl (lL hxl) (zS rfl))))))))) (dL.refl _) (fun i hi=>?_)
   refine ts (ro rfl (gV (Ht rfl) (Ht rfl)) (eZ (cK (dQ (Ht rfl) (fun hf2=>?_) (fun hf2=>?_)))))
   ·simp only [decide_eq_true_eq] at hf2
    have hpl:=(pY M n k i).1
    have hpr:((rN M n k i).getD i []).length = n:=(pY M n k i).row hf2
    refine oS 0 (i) rfl (mY zo) (fun v=>(cU (cK (eK (ts (rm rfl (ra rfl (eZ (fV (m:=9) (dp 4 rfl (cX (Ht rfl)) (dp 9 rfl (cX (Ht rfl)) (dS 38 0 39 1 rfl (gX U_30 Z_29 (Ht rfl) (Ht rfl) rfl zo (by rw [Nat.mul_one,Nat.zero_add])) ?_))))))))))))
    refine dq 40 2 rfl (mH A_29 Z_29 (Ht rfl) (j:=0) rfl) (dp 5 rfl (cX (Ht rfl)) (dp 7 rfl (cX (Ht rfl)) (dp 9 rfl (cX (Ht rfl)) (dS 43 5 44 6 rfl (dZ U_29 Z_51 (Ht rfl) (Ht rfl) rfl (eQ (dY (d:=Qi.zero) zo))) (dq 45 7 rfl (dV A_51 Z_51 (Ht rfl)) (fG bF rfl (by kernel_rfl) (zF (zF (aJ (aV (ro rfl (dE U_29 Z_51 (Ht rfl) (Ht rfl) rfl (i:=1) rfl (by rw [List.length_map]; omega) rfl) ?_)))))))))))
    refine kS Z_51 (Ht rfl) (Ht rfl) (El.ag rfl) (i:=1) rfl rfl (by rw [List.length_map]; omega) rfl ?_
    refine eZ (bH (kR 0 1 rfl rfl (by decide) (by simp only [dO,List.length_map]; omega) ?_))
    refine cY (ro rfl (dW (Ht rfl) (cJ 1) z6) (rm rfl (eZ (bL [0] rfl (by decide) (gQ (i + 1) hf2 zo (zS rfl) (aU (fA (by rw [fM,kZ,Nq hf2 hd0])) aY))))))
   ·simp only [decide_eq_false_iff_not] at hf2
    obtain rfl:n = i:=Nat.le_antisymm zo hi
    refine gK rfl (bH (cY (ro rfl (dW (Ht rfl) (cJ 1) z6) (rm rfl (eZ ?_)))))
    refine gQ (k + 1) ⟨hd0, fun j h => by
     by_cases e:j = k
     ·rw [e]; exact he2
     ·exact h0 j zo⟩ zo (zS rfl) (aU (fA (by rw [Ve])) aY)
 ·simp only [decide_eq_false_iff_not] at hd0
  obtain rfl:n = k:=Nat.le_antisymm zo hk
  have hi:=Oj h0
  refine gG (i:=0) (tt:=4) rfl rfl (qY (s:=5) (M:=rN M n n 0) (pY M n n 0).1.symm) (gK rfl (ts (rm rfl (ra rfl (ro rfl (cQ (cJ 0)) (eZ (bI rfl (fJ (eY rfl) ?_) (fJ (eY rfl) ?_))))))))
  ·exact (kB (by rw [hi,Td]; rfl))
  ·exact (aM hi.symm)
theorem a1G {m:Bool} {a b:List (List Qi)} {n i j L M:Nat} (ha:eR a n n) (hb:eR b n n) (hfa:bT a L) (hfb:bT b M) (h1:1 ≤ L) (h2:1 ≤ M) (hg:L + M + 1 ≤ 17592186044415) (hi:i < n) (hj:j < n):bB Tryz.prog 252 [NT .i64 i,NT .i64 j,PT (aC m),PT (dM a),PT (dM b)] (aE (if m = true then gm a i j - gm b i j else gm a i j + gm b i j)):=by
 have hal:=ha.1
 have hbl:=hb.1
 have har:=ha.row hi
 have hbr:=hb.row hi
 haveI f1:aN (gm a i j) L:=hfa.get h1 i j
 haveI f2:aN (gm b i j) M:=hfb.get h2 i j
 refine bB.intro Tryz.func252 rfl Tryz.ntmps252 rfl (fun cx=>(ts (rn rfl (eG (Ts:=[Is (.bool false),Is (.slice none 0 0),Is (.bool false),Is (.slice none 0 0),Is (.slice none 0 0)]) O_51 rfl (fun V=>aW zd (aW zd (aW zd (aW zd (aW zd (aG))))))) fun B7=>(eZ (cK (ts (ro rfl (dV A_4 Z_4 (Ht rfl)) (eZ (dQ (Ht rfl) (fun hm=>?_) (fun hm=>?_))))))))))
 ·refine cK (fV (m := 15) (dp 3 rfl (dV A_30 Z_30 (Ht rfl)) (dp 0 rfl (cX (Ht rfl)) (dS 9 0 10 1 rfl (dZ U_30 Z_29 (Ht rfl) (Ht rfl) rfl (eQ (dY (d := []) zo))) (dq 11 2 rfl (dV A_29 Z_29 (Ht rfl)) (dp 1 rfl (cX (Ht rfl)) (dS 12 3 13 4 rfl (dZ U_29 Z_51 (Ht rfl) (Ht rfl) rfl (eQ (dY (d := Qi.zero) zo))) (dq 14 5 rfl (dV A_51 Z_51 (Ht rfl)) (dq 15 6 rfl (bD bN (Ht rfl)) (dp 4 rfl (dV A_30 Z_30 (Ht rfl)) ?_))))))))))
  refine dp 0 rfl (cX (Ht rfl)) (dS 17 8 18 9 rfl (dZ U_30 Z_29 (Ht rfl) (Ht rfl) rfl (eQ (dY (d:=[]) zo))) (dq 19 10 rfl (dV A_29 Z_29 (Ht rfl)) (dp 1 rfl (cX (Ht rfl)) (dS 20 11 21 12 rfl (dZ U_29 Z_51 (Ht rfl) (Ht rfl) rfl (eQ (dY (d:=Qi.zero) zo))) (dq 22 13 rfl (dV A_51 Z_51 (Ht rfl)) (fG bF rfl (by kernel_rfl) (zF (zF (zF (aJ (aJ (aJ (aV ?_)))))))))))))
  refine ro rfl (aP jE K_44 (uO (x:=gm a i j) (y:=gm b i j) (L:=L) (M:=M) hg) (Ht rfl) ⟨(Ht rfl),trivial⟩) (gJ Z_51 (Ht rfl) (Ht rfl) rfl (i:=0) rfl (aK rfl) rfl rfl (eZ (fK rfl (fJ (fY A_51 Z_51 rfl (i:=0) rfl rfl) ?_))))
  exact (gP (by rw [if_pos hm]))
 ·refine cU (cK (fV (m := 15) (dp 3 rfl (dV A_30 Z_30 (Ht rfl)) (dp 0 rfl (cX (Ht rfl)) (dS 25 0 26 1 rfl (dZ U_30 Z_29 (Ht rfl) (Ht rfl) rfl (eQ (dY (d := []) zo))) (dq 27 2 rfl (dV A_29 Z_29 (Ht rfl)) (dp 1 rfl (cX (Ht rfl)) (dS 28 3 29 4 rfl (dZ U_29 Z_51 (Ht rfl) (Ht rfl) rfl (eQ (dY (d := Qi.zero) zo))) (dq 30 5 rfl (dV A_51 Z_51 (Ht rfl)) (dq 31 6 rfl (bD bN (Ht rfl)) (dp 4 rfl (dV A_30 Z_30 (Ht rfl)) ?_)))))))))))
  refine dp 0 rfl (cX (Ht rfl)) (dS 33 8 34 9 rfl (dZ U_30 Z_29 (Ht rfl) (Ht rfl) rfl (eQ (dY (d:=[]) zo))) (dq 35 10 rfl (dV A_29 Z_29 (Ht rfl)) (dp 1 rfl (cX (Ht rfl)) (dS 36 11 37 12 rfl (dZ U_29 Z_51 (Ht rfl) (Ht rfl) rfl (eQ (dY (d:=Qi.zero) zo))) (dq 38 13 rfl (dV A_51 Z_51 (Ht rfl)) (fG bF rfl (by kernel_rfl) (zF (zF (zF (aJ (aJ (aJ (aV ?_)))))))))))))
  refine ro rfl (aP lG K_46 (yB (x:=gm a i j) (y:=gm b i j) (L:=L) (M:=M) hg) (Ht rfl) ⟨(Ht rfl),trivial⟩) (gJ Z_51 (Ht rfl) (Ht rfl) rfl (i:=0) rfl (aK rfl) rfl rfl (eZ (fK rfl (fJ (fY A_51 Z_51 rfl (i:=0) rfl rfl) ?_))))
  exact (gP (by rw [if_neg (by rw [hm]; decide)]))
theorem a0h {m:Bool} {a b:List (List Qi)} {n L M:Nat} (ha:eR a n n) (hb:eR b n n) (hfa:bT a L) (hfb:bT b M) (h1:1 ≤ L) (h2:1 ≤ M) (hg:L + M + 1 ≤ 17592186044415) (hn:n ≤ 1000):bB Tryz.prog 207 [dM a,dM b,aC m] (dM (pmM m a b n)):=by
 have hal:=ha.1
 refine bB.intro Tryz.func207 rfl Tryz.ntmps207 rfl (fun cx=>(ts (rn rfl (pM (Ht rfl)) fun B3=>(rn rfl (pM (Ht rfl)) fun B4=>(rn rfl (pM (Ht rfl)) fun B5=>(ro rfl (cQ cV) (eZ (cK (gG (i:=0) (tt:=3) rfl rfl gY (gG (i:=1) (tt:=4) rfl rfl gY (gG (i:=2) (tt:=5) rfl rfl gY (cY (ro rfl (dV A_30 Z_30 (Ht rfl)) (ro rfl (dK U_30 (Ht rfl) (by rw [List.length_map,hal])) ?_))))))))))))))
 refine ro rfl (lW (γ:=Fin n × Fin n) (Ts:=fun x=>[NT .i64 x.1.1,NT .i64 x.2.1]) (U:=fun x=>aE (if m = true then gm a x.1.1 x.2.1 - gm b x.1.1 x.2.1 else gm a x.1.1 x.2.1 + gm b x.1.1 x.2.1)) Tryz.call252 (fun x=>a1G ha hb hfa hfb h1 h2 hg x.1.2 x.2.2) ⟨(Ht rfl),(Ht rfl),(Ht rfl),trivial⟩) (ro rfl (cZ K_114 (Ad (n:=n) (f:=fun i j=>if m = true then gm a i j - gm b i j else gm a i j + gm b i j) hn) ⟨(Ht rfl),(Ht rfl),trivial⟩) (ra rfl (eZ ?_)))
 exact fK rfl (eY rfl)
theorem Yq {Y M:List (List Qi)} {n L:Nat} (hM:eR M n n) (hf:bT M L) (hL:1 ≤ L) (h1:1 ≤ n) (hn:n ≤ 32) (hg:6 * dD L n + 4 ≤ 17592186044415) (hx:pE (dD L n) (n + 1) ≤ 17592186044415) (hE:Jt M n ≠ 0):bB Tryz.prog 186 [dM Y,dM M] (dN [dM [],aD .i64 5]):=by
 refine bB.intro Tryz.func186 rfl Tryz.ntmps186 rfl (fun cx=>(ts (ro rfl (cQ cV) (ro rfl (cQ (cJ 0)) (eZ (ts (rm rfl (ro rfl (cZ Tryz.call248 (a2J hM hf hL h1 hn hg hx) ⟨(Ht rfl),trivial⟩) (rm rfl (ro rfl (dU (Ht rfl) rfl) (ro rfl (dU (Ht rfl) rfl) (ra rfl (ra rfl (eZ (cK (ts (rm rfl (ro rfl (fB (Ht rfl) cV) (eZ (nU (Ht rfl) (by simp [hE]) ?_))))))))))))))))))))
 refine ts (ro rfl (cQ cV) (ro rfl (cQ (cJ 5)) (eZ (bI rfl (fJ (eY rfl) ?_) (eY rfl)))))
 exact (fun v V h=>iT v V h)
theorem a0X {z:List Qi} {s:List (List Qi)} {L:Nat} (hs:eR s z.length z.length) (hf:bT s L) (hL:1 ≤ L) (h1:1 ≤ z.length) (hn:z.length ≤ 8) (hg:6 * dD (L + 2) z.length + 4 ≤ 17592186044415) (hx:pE (dD (L + 2) z.length) (z.length + 1) ≤ 17592186044415) (hE:Jt (pmM true (Pr z.length) s z.length) z.length ≠ 0):bB Tryz.prog 124 [bR z s] (dN [dM [],aD .i64 5]):=by
 have hgl:=sL (L + 2) z.length
 have hid:=uW z.length
 have hif:bT (Pr z.length) 1:=Lz (Nat.le_refl 1)
 have hpf:bT (pmM true (Pr z.length) s z.length) (L + 2):=by have h:=a0c (m:=true) (n:=z.length) hif hf (Nat.le_refl 1) hL; rw [show L + 2 = 1 + L + 1 by omega]; exact h
 refine bB.intro Tryz.func124 rfl Tryz.ntmps124 rfl (fun cx=>(ts (rn rfl (fU (Ht rfl)) fun B1=>(ro rfl (cQ cV) (ro rfl (cQ (cJ 0)) (eZ (ts (ro rfl (eJ eO (Ht rfl) rfl) (ro rfl (fQ A_29 Z_29 (Ht rfl) (i:=0) rfl rfl) (ro rfl (dK U_29 (Ht rfl) aA) (ro rfl (cZ Tryz.call94 (a2A (n:=z.length) zo) ⟨(Ht rfl),trivial⟩) (ra rfl (eZ (cK (fV (m:=13) (dp 4 rfl (cX (Ht rfl)) (dp 1 rfl (eJ dI (Ht rfl) rfl) (dq 13 1 rfl (fQ A_30 Z_30 (Ht rfl) (i:=0) rfl rfl) ?_))))))))))))))))))
 refine dS 12 0 14 2 rfl (cZ Tryz.call207 (a0h (m:=false) (n:=z.length) (L:=1) (M:=L) hid hs hif hf (Nat.le_refl 1) hL zo zo) ⟨(Ht rfl),(Ht rfl),cV,trivial⟩) (dp 4 rfl (cX (Ht rfl)) (dp 1 rfl (eJ dI (Ht rfl) rfl) (dq 17 5 rfl (fQ A_30 Z_30 (Ht rfl) (i:=0) rfl rfl) (dS 16 4 18 6 rfl (cZ Tryz.call207 (a0h (m:=true) (n:=z.length) (L:=1) (M:=L) hid hs hif hf (Nat.le_refl 1) hL zo zo) ⟨(Ht rfl),(Ht rfl),cV,trivial⟩) (dS 15 3 19 7 rfl (cZ Tryz.call186 (Yq (n:=z.length) (L:=L + 2) a08 hpf zo h1 zo hg hx hE) ⟨(Ht rfl),(Ht rfl),trivial⟩) ?_)))))
 refine dq 20 8 rfl (cX (Ht rfl)) (dq 11 9 rfl (dU (Ht rfl) rfl) (dq 11 9 rfl (dU (Ht rfl) rfl) (dq 21 10 rfl (cQ (Ht rfl)) (fG bF rfl (by kernel_rfl) (zF (zF (zF (aJ (aV (ra rfl (eZ (cK (ts (rm rfl (ro rfl (fB (Ht rfl) cV) (eZ (nU (Ht rfl) (by rfl) ?_)))))))))))))))))
 refine ts (rm rfl (ro rfl (cQ cV) (ra rfl (eZ (bI rfl (fJ (eY rfl) ?_) (eY rfl))))))
 exact (fun v V h=>iT v V h)
end
section
open Go Go.RowKit
section
variable {P:Program} {R:iF} {cx:Cx} {n:Nat} {k:List It} {E:cF} {H:Hp}
theorem tE (i l off : Nat) {B : Nat} {BT : TypeId} {Us : List Ty} {v : Value} {A : SA} {T : Ty} (hB : H[i]? = some (box B BT Us)) (hU : Us[off]? = some (Is v)) (hL : H[l]? = some A) (hne : i ≠ l) (hT : ∀ S V, A.h S V V → T.p v V)
  (h:Tr P R cx n k E ((H.set l SA.emp).set i (box B BT (Us.set off T)))):Tr P R cx n k E H:=fun a w ⟨V,hi,hs⟩=>by
 obtain ⟨V',S,hle,hi',hA⟩:=hi.freeze hL
 have hT:=hT S V' hA
 refine h a w ⟨V',hi'.withHH ?_,hs.mono hle⟩
 obtain ⟨F,h1,h2⟩:=hi'.hp
 have hB':(H.set l SA.emp)[i]? = some (box B BT Us):=by rw [List.getElem?_set_ne (Ne.symm hne)]; exact hB
 have hil:=(List.getElem?_eq_some_iff.1 hB').1
 refine ⟨F,fun q A hq=>?_,fun q r b hq hr=>h2 q r b (by simpa using hq) (by simpa using hr)⟩
 by_cases c:i = q
 ·subst c
  rw [List.getElem?_set_self hil] at hq
  obtain rfl:=Option.some.inj hq
  obtain ⟨⟨k1,cs,k2,k3⟩,k4⟩:=h1 i _ hB'
  obtain ⟨u,u1,u2⟩:=k3.get hU
  obtain rfl:u = v:=u2
  have hset : cs.set off u = cs := by
   apply List.ext_getElem?
   intro j
   by_cases cj:off = j
   ·subst cj; rw [List.getElem?_set_self (List.getElem?_eq_some_iff.1 u1).1,u1]
   ·rw [List.getElem?_set_ne cj]
  refine ⟨⟨k1,cs,k2,?_⟩,k4⟩
  have:=k3.set off (v:=u) hT (k3.pl u (List.mem_of_getElem? u1))
  rwa [hset] at this
 ·rw [List.getElem?_set_ne c] at hq
  exact h1 q A hq
theorem a1j {B e l : Nat} {BT : TypeId} {F : Qi → Ty} {q : Value → Prop} {M : List (List Qi)} (hl : l = M.length) : ∀ S V, (sS q B BT e 5 (dO F M)).h S V V → (jS 1 (M.map fun r => jS 5 (r.map F))).p (.slice (some ⟨B, 0, none⟩) l l) V := fun S V h =>
 qY (s:=5) (M:=M) hl _ S V rfl h
end
def mJ (p i:Nat):Nat:=if i < p then i else i + 1
abbrev hJ (l:List Nat):Ty:=jS 1 (l.map (NT .i64))
def yE (p n:Nat):List Nat:=tab n fun j=>mJ p j + 1
def Og (p i:Nat):Nat:=if i ≤ p then i else i - 1
theorem Lp {p n:Nat} (h:p < n):Og p n = n - 1:=by unfold Og; split <;> omega
theorem Kn {p i n:Nat} (h:i < n - 1) (hp:p < n):mJ p i < n:=by unfold mJ; split <;> omega
theorem Li {p n j:Nat} (h:j < n):(yE p n)[j]? = some (mJ p j + 1):=cE h
def On (z:List Qi) (p m:Nat):List Qi:=tab m fun i=>gv z (mJ p i)
def a2D (s:List (List Qi)) (p m:Nat):List (List Qi):=tab m fun i=>tab m fun j=>gm s (mJ p i) (mJ p j)
def Ke (s:List (List Qi)) (p:Nat) (f:Qi) (i j:Nat):Qi:=gm s (mJ p i) (mJ p j) + gm s (mJ p i) p * (f * gm s p (mJ p j))
def a1z (s:List (List Qi)) (p m:Nat) (f:Qi):List (List Qi):=tab m fun i=>tab m fun j=>Ke s p f i j
def lM (s:List (List Qi)) (p:Nat) (g:Qi):Qi:=g / (Qi.ofInt 1 - gm s p p * g)
def qU (z : List Qi) (s : List (List Qi)) (port : Int) (g : Qi) : Int :=
 if ¬ (1 ≤ port ∧ port ≤ z.length) then 1 else if z.length = 1 then 4 else if Qi.ofInt 1 - gm s (port - 1).toNat (port - 1).toNat * g = Qi.zero then 6 else 0
def zO (z:List Qi) (s:List (List Qi)) (port:Int) (g:Qi):List Qi:=iI (qU z s port g) (On z (port - 1).toNat (z.length - 1))
def yJ (z:List Qi) (s:List (List Qi)) (port:Int) (g:Qi):List (List Qi):=iI (qU z s port g) (a1z s (port - 1).toNat (z.length - 1) (lM s (port - 1).toNat g))
theorem Dt {z:List Qi} {s:List (List Qi)} {port:Int} {g:Qi} {e:Int} (h:qU z s port g = e) (he:e ≠ 0):∀ v V,(bR [] []).p v V → (bR (zO z s port g) (yJ z s port g)).p v V:=by
 rw [zO,yJ,iI,iI,h,if_neg he,if_neg he]; exact fun _ _ k=>k
theorem a0F (p:Nat):((p:Int) + 1 - 1).toNat = p:=by omega
theorem Sr {z:List Qi} {s:List (List Qi)} {p:Nat} {g:Qi} (h:qU z s ((p:Int) + 1) g = 0):∀ v V,(bR (On z p (z.length - 1)) (a1z s p (z.length - 1) (lM s p g))).p v V → (bR (zO z s ((p:Int) + 1) g) (yJ z s ((p:Int) + 1) g)).p v V:=by
 rw [zO,yJ,iI,iI,h,if_pos rfl,if_pos rfl,a0F]; exact fun _ _ k=>k
theorem a1e {z:List Qi} {s:List (List Qi)} {port:Int} {g:Qi} (h:¬ (1 ≤ port ∧ port ≤ z.length)):qU z s port g = 1:=by rw [qU,if_pos h]
theorem a22 {z:List Qi} {s:List (List Qi)} {port:Int} {g:Qi} (h:1 ≤ port ∧ port ≤ z.length) (h1:z.length = 1):qU z s port g = 4:=by rw [qU,if_neg (fun k=>k h),if_pos h1]
theorem a1I {z:List Qi} {s:List (List Qi)} {p:Nat} {g:Qi} (h:p < z.length) (h1:¬ z.length = 1):qU z s ((p:Int) + 1) g = if Qi.ofInt 1 - gm s p p * g = Qi.zero then 6 else 0:=by
 rw [qU,if_neg (fun k=>k zo),if_neg h1,a0F]
theorem Rq {s:List (List Qi)} {p L:Nat} {g:Qi} (hs:bT s L) (hg:aN g L) (hL:1 ≤ L) (hd:Qi.ofInt 1 - gm s p p * g ≠ Qi.zero):aN (lM s p g) (7 * L + 11):=by
 haveI f0:=nT
 haveI f1:=hs.get hL p p
 haveI f2:=hg
 have f3:aN (Qi.ofInt 1 - gm s p p * g) (1 + (L + L + 1) + 1):=@fitSub _ _ _ _ f0 inferInstance
 have:aN (lM s p g) (L + 3 * (1 + (L + L + 1) + 1) + 2):=⟨f2.fit.div f3.fit hd⟩
 exact this.le zo
end
section
open Go Go.RowKit
abbrev gnI (G:List Nat):List Int:=G.map fun (q:Nat)=>(q:Int) + 1
def nR (G : List Nat) : Nat → List Nat
 | 0=>[]
 | k + 1=>nR G k ++ (if k ∈ G then [] else [k])
theorem yA (G : List Nat) : ∀ k, (nR G k).length ≤ k
 | 0=>Nat.le_refl _
 | k + 1 => by
  have:=yA G k
  simp only [nR,List.length_append]
  split
  ·simp; omega
  ·simp; omega
theorem Co {G : List Nat} : ∀ {k x : Nat}, x ∈ nR G k → x < k
 | 0,x,h=>by cases h
 | k + 1, x, h => by
  rcases List.mem_append.1 h with h1 | h1
  ·have:=Co h1; omega
  ·split at h1
   ·cases h1
   ·have:=List.mem_singleton.1 h1; omega
theorem Ed {p : Nat} : ∀ {k : Nat}, nR [p] k = tab (Og p k) (mJ p)
 | 0=>by rw [nR,show Og p 0 = 0 by unfold Og; split <;> omega]; rfl
 | k + 1 => by
  rw [nR,Ed]
  by_cases c:k = p
  ·subst c
   rw [if_pos (by simp),List.append_nil,show Og k (k + 1) = Og k k by unfold Og; split <;> split <;> omega]
  ·rw [if_neg (by simpa using c)]
   have e1:mJ p (Og p k) = k:=by unfold mJ Og; split <;> split <;> omega
   have e2:Og p (k + 1) = Og p k + 1:=by unfold Og; split <;> split <;> omega
   rw [e2,jZ,e1]
theorem Zm {p n:Nat} (h:p < n):(nR [p] n).map Nat.succ = yE p (n - 1):=by rw [Ed,Lp h,mN]; rfl
theorem Ub {G:List Nat} {i:Nat}:((gnI G).any fun x=>decide (((i + 1:Nat):Int) = x)) = decide (i ∈ G):=by
 rw [Bool.eq_iff_iff]
 simp only [gnI,List.any_map,List.any_eq_true,Function.comp,decide_eq_true_eq]
 constructor
 ·rintro ⟨q, h1, h2⟩
  obtain rfl:i = q:=by omega
  exact h1
 ·intro h; exact ⟨i,h,by omega⟩
abbrev fC (Q:List Nat) (i:Nat):Nat:=Q.getD i 0
def nO (z:List Qi) (Q:List Nat):List Qi:=tab Q.length fun i=>gv z (fC Q i)
def tH (s:List (List Qi)) (Q:List Nat):List (List Qi):=tab Q.length fun i=>tab Q.length fun j=>gm s (fC Q i) (fC Q j)
theorem Dh {Q:List Nat} {n i:Nat} (h:∀ x,x ∈ Q → x < n) (hi:i < Q.length):fC Q i < n:=h _ (by rw [show fC Q i = Q[i] by simp [fC,List.getD,hi]]; exact List.getElem_mem hi)
theorem nM {Q:List Nat} {i:Nat} (h:i < Q.length):(Q.map Nat.succ)[i]? = some (fC Q i + 1):=by simp [fC,List.getD,h]
theorem zD {m i:Nat} {p:Nat} (h:i < m):fC (tab m (mJ p)) i = mJ p i:=pX h
theorem Vk (z:List Qi) (p m:Nat):nO z (tab m (mJ p)) = On z p m:=by
 rw [nO,aO]; exact cP fun i hi=>by rw [zD hi]
theorem Uv (s:List (List Qi)) (p m:Nat):tH s (tab m (mJ p)) = a2D s p m:=by
 rw [tH,aO]; exact cP fun i hi=>cP fun j hj=>by rw [zD hi,zD hj]
theorem Yt {p m n : Nat} (hp : p < n) (hm : m = n - 1) : ∀ x, x ∈ tab m (mJ p) → x < n := fun x hx => by
 obtain ⟨i,hi,rfl⟩:=jB.1 hx; exact Kn zo hp
theorem Wp (p m:Nat):(tab m (mJ p)).map Nat.succ = yE p m:=by rw [mN]; rfl
end
section
open Go Go.RowKit
theorem yN:Tryz.prog.info? 3 = some Tryz.t3:=by kernel_rfl
theorem zH:Tryz.prog.underlying 72 = some (.slice 3):=by kernel_rfl
end
section
open Go Go.RowKit
theorem Je {l:List Int} {v:Int} (hl:l.length ≤ 1000000):bB Tryz.prog 192 [jS 1 (l.map (aD .i64)),aD .i64 v] (aD .i64 (Dv (fun x=>decide (v = x)) l)):=by
 refine bB.intro Tryz.func192 rfl Tryz.ntmps192 rfl (fun cx=>(ts (ro rfl (cQ (cJ 0)) (eZ (cK (ts (rm rfl (ro rfl (dK U_72 (Ht rfl) aA) (ro rfl (cX (cJ 0)) (eZ (eK ?_)))))))))))
 refine cM (fun (k : Nat) => k ≤ l.length ∧ ∀ (i : Nat) (x : Int), i < k → l[i]? = some x → decide (v = x) = false) (fun (k : Nat) => l.length - k) (fun (k : Nat) => [(0, jS 1 (l.map (aD .i64))), (1, aD .i64 v), (7, NT .i64 l.length), (8, NT .i64 k)]) (fun (k : Nat) => []) 0 ⟨Nat.zero_le _, fun i x h => by omega⟩
  (zS rfl) aY (fun k ⟨hk,hn⟩=>?_)
 refine ts (ro rfl (gV (Ht rfl) (Ht rfl)) (eZ (cK (dQ (Ht rfl) (fun hb=>?_) (fun hb=>?_)))))
 ·simp only [decide_eq_true_eq] at hb
  refine cU (cK (eK (ts (rm rfl (ra rfl (eZ (ts (rm rfl (rm rfl (rm rfl (ro rfl (dZ U_72 Z_3 (Ht rfl) (Ht rfl) rfl (eQ (qV hb))) (ro rfl (dV A_3 Z_3 (Ht rfl)) (ro rfl (iW (Ht rfl) (Ht rfl)) (eZ (dQ (Ht rfl) (fun hc=>?_) (fun hc=>?_))))))))))))))))
  ·refine ts (rm rfl (ra rfl (eZ (fK rfl (fJ (eY rfl) ?_)))))
   exact (aM (Em (p:=fun x=>decide (v = x)) (qV hb) hc hn).symm)
  ·refine cU (bH (cY (ro rfl (dW (Ht rfl) (cJ 1) z6) (rm rfl (eZ ?_)))))
   refine gQ (k + 1) ⟨hb, fun i x h1 h2 => by
    by_cases e:i = k
    ·subst e; rw [qV hb] at h2; obtain rfl:=Option.some.inj h2; exact hc
    ·exact hn i x zo h2⟩ zo (zS rfl) aY
 ·simp only [decide_eq_false_iff_not] at hb
  refine gK rfl (ts (ro rfl (cQ cV) (eZ (fK rfl (fJ (eY rfl) ?_)))))
  exact (aM (wT (p:=fun x=>decide (v = x)) (fun i x h=>hn i x (by have:=(List.getElem?_eq_some_iff.1 h).1; omega) h)).symm)
theorem tA {l:List Int} {v:Int} (hl:l.length ≤ 1000000):bB Tryz.prog 95 [jS 1 (l.map (aD .i64)),aD .i64 v] (aC (l.any fun x=>decide (v = x))):=by
 refine bB.intro Tryz.func95 rfl Tryz.ntmps95 rfl (fun cx=>(ts (ro rfl (cQ cV) (eZ (ts (rm rfl (rm rfl (ro rfl (cZ Tryz.call192 (Je zo) ⟨(Ht rfl),(Ht rfl),trivial⟩) (ro rfl (lU (Ht rfl) cV) (ra rfl (eZ (fK rfl (fJ (eY rfl) ?_)))))))))))))
 exact (eN (Ag _ l))
theorem Do {z:List Qi} {s:List (List Qi)} {G:List Nat} (hl:z.length ≤ 1000) (hG:G.length ≤ 1000):bB Tryz.prog 121 [bR z s,jS 1 ((gnI G).map (aD .i64))] (hJ ((nR G z.length).map Nat.succ)):=by
 refine bB.intro Tryz.func121 rfl Tryz.ntmps121 rfl (fun cx=>(ts (rn rfl (fU (Ht rfl)) fun B2=>(ro rfl (cQ cV) (eZ (ts (ro rfl (cQ cV) (eZ (cK (ts (ro rfl (cQ (cJ 1)) (eZ (eK (rQ 3 1 ?_))))))))))))))
 refine fT (fun (i : Nat) (v : Value) => i ≤ z.length) (fun (i : Nat) (v : Value) => z.length - i) (fun (i : Nat) (v : Value) => [(1, jS 1 ((gnI G).map (aD .i64))), (2, bO B2 0), (5, Is v), (6, NT .i64 (i + 1))]) (fun (i : Nat) (v : Value) => [box B2 32 [bA z, dM s], bM 3 1 v (((nR G i).map Nat.succ).map (NT .i64))]) 0 (.slice none 0 0) (Nat.zero_le _)
  (zS rfl) (aU (aB rfl) (aU (aR rfl) aY)) (fun i v hi=>?_)
 refine cK (ts (rm rfl (ro rfl (eJ eO (Ht rfl) rfl) (ro rfl (fQ A_29 Z_29 (Ht rfl) (i:=0) rfl rfl) (ro rfl (dK U_29 (Ht rfl) aA) (ro rfl (uF (Ht rfl) (Ht rfl)) (eZ (dQ (Ht rfl) (fun hd=>?_) (fun hd=>?_)))))))))
 ·simp only [decide_eq_true_eq] at hd
  have hcl:=yA G i
  refine cU (cK (eK (jG (fun (v2:Value)=>True) (fun (v2:Value)=>[(1,jS 1 ((gnI G).map (aD .i64))),(2,bO B2 0),(5,Is v2),(6,NT .i64 (i + 1))]) (fun (v2:Value)=>[box B2 32 [bA z,dM s],bM 3 1 v2 (((nR G (i + 1)).map Nat.succ).map (NT .i64))]) ?_ (fun v2 _=>?_))))
  ·refine ts (rm rfl (rm rfl (ro rfl (cZ Tryz.call95 (tA (l := gnI G) (v := ((i + 1 : Nat) : Int)) (by rw [List.length_map]; omega)) ⟨(Ht rfl), (Ht rfl), trivial⟩) ?_)))
   refine ro rfl (eH (Ht rfl)) (eZ (dQ (Ht rfl) (fun he=>?_) (fun he=>?_)))
   ·rw [Ub] at he
    have he2:i ∉ G:=by simpa using he
    have hnx:nR G (i + 1) = nR G i ++ [i]:=by rw [nR,if_neg he2]
    refine cY (rm rfl (rm rfl (ro rfl (dH (xs:=[.tmp 19]) U_72 Z_3 O_3 (cW (Ht rfl) cG) rfl rfl rfl) (mW (inf:=Tryz.t3) zH yN rfl rfl rfl (Ht rfl) (Ht rfl) (i:=1) rfl (by simp) (fun T hT=>by simp at hT; subst hT; exact El.one) (by show _ * 8 ≤ _; simp only [List.length_map,List.length_cons,List.length_nil]; omega) (by simp only [List.length_map,List.length_cons,List.length_nil]; omega) rfl (fun v3=>?_)))))
    refine ra rfl (eZ (aT v3 trivial (zS rfl) (aU (aB rfl) (aU (aR (by rw [hnx,List.map_append,List.map_append]; rfl)) aY))))
   ·rw [Ub] at he
    have he2:i ∈ G:=by simpa using he
    have hnx:nR G (i + 1) = nR G i:=by rw [nR,if_pos he2,List.append_nil]
    refine cU (aT v trivial (zS rfl) (aU (aB rfl) (aU (aR (by rw [hnx])) aY)))
  ·refine bH (cY (rm rfl (ro rfl (dW (Ht rfl) (cJ 1) z6) (ra rfl (eZ (gQ (i + 1,v2) hd (by dsimp only; omega) (zS rfl) (dL.refl _)))))))
 ·simp only [decide_eq_false_iff_not] at hd
  obtain rfl:z.length = i:=Nat.le_antisymm zo hi
  refine gK rfl (gG (i:=1) (tt:=5) rfl rfl fP (ts (rm rfl (ra rfl (eZ ?_)))))
  exact fK rfl (eY rfl)
theorem a0K {z:List Qi} {s:List (List Qi)} {p:Nat} (hp:p < z.length) (hl:z.length ≤ 1000):bB Tryz.prog 121 [bR z s,jS 1 [aD .i64 ((p:Int) + 1)]] (hJ (yE p (z.length - 1))):=by
 rw [← Zm hp]; exact Do (G:=[p]) hl (by simp)
theorem Mn {z:List Qi} {s:List (List Qi)} {Q:List Nat} {m:Nat} (hs:eR s z.length z.length) (hQ:∀ x,x ∈ Q → x < z.length) (hm:Q.length = m) (hm2:m ≤ 1000) (hl:z.length ≤ 1000) {i j:Nat} (hi:i < m) (hj:j < m):bB Tryz.prog 206 [NT .i64 i,NT .i64 j,PT (bR z s),PT (hJ (Q.map Nat.succ))] (aE (gm s (fC Q i) (fC Q j))):=by
 have hki:fC Q i < z.length:=Dh hQ zo
 have hkj:fC Q j < z.length:=Dh hQ zo
 have hsl:=hs.1
 have hsr:=hs.row hki
 refine bB.intro Tryz.func206 rfl Tryz.ntmps206 rfl (fun cx=>(ts (rn rfl (eG (Ts:=[Is (.bool false),Is (.slice none 0 0),Is (.bool false),Is (.slice none 0 0),Is (.slice none 0 0)]) O_51 rfl (fun V=>aW zd (aW zd (aW zd (aW zd (aW zd (aG))))))) fun B6=>(eZ (cK (fV (m:=14) (dp 2 rfl (jK dI (Ht rfl) rfl) (dq 7 0 rfl (dV A_30 Z_30 (Ht rfl)) (dp 3 rfl (dV A_72 Z_72 (Ht rfl)) (dp 0 rfl (cX (Ht rfl)) ?_))))))))))
 refine dS 9 2 10 3 rfl (dZ U_72 Z_3 (Ht rfl) (Ht rfl) rfl (eQ (nM zo))) (dq 11 4 rfl (dV A_3 Z_3 (Ht rfl)) (dq 12 5 rfl (aF.nat (dG (Ht rfl) (cJ 1) zo z6) (show fC Q i + 1 - 1 = fC Q i by omega)) (dS 8 1 13 6 rfl (dZ U_30 Z_29 (Ht rfl) (Ht rfl) rfl (eQ (dY (d:=[]) zo))) (dq 14 7 rfl (dV A_29 Z_29 (Ht rfl)) (dp 3 rfl (dV A_72 Z_72 (Ht rfl)) ?_)))))
 refine dp 1 rfl (cX (Ht rfl)) (dS 16 9 17 10 rfl (dZ U_72 Z_3 (Ht rfl) (Ht rfl) rfl (eQ (nM zo))) (dq 18 11 rfl (dV A_3 Z_3 (Ht rfl)) (dq 19 12 rfl (aF.nat (dG (Ht rfl) (cJ 1) zo z6) (show fC Q j + 1 - 1 = fC Q j by omega)) (fG bF rfl (by kernel_rfl) (zF (zF (zF (aJ (aJ (aV (ro rfl (dZ U_29 Z_51 (Ht rfl) (Ht rfl) rfl (eQ (dY (d:=Qi.zero) zo))) ?_)))))))))))
 refine ro rfl (dV A_51 Z_51 (Ht rfl)) (gJ Z_51 (Ht rfl) (Ht rfl) rfl (i:=0) rfl (aK rfl) rfl rfl (eZ ?_))
 exact fK rfl (fY A_51 Z_51 rfl (i:=0) rfl rfl)
theorem Ee {z:List Qi} {s:List (List Qi)} {Q:List Nat} {m:Nat} (hs:eR s z.length z.length) (hQ:∀ x,x ∈ Q → x < z.length) (hm:Q.length = m) (hm2:m ≤ 1000) (hl:z.length ≤ 1000):jH Tryz.prog 122 [bR z s,hJ (Q.map Nat.succ)] [] (Nat) (fun B=>eD [bA (nO z Q),Is (.slice (some ⟨B,0,none⟩) m m)]) (fun B=>[nJ B 29 51 5 (dO aE (tH s Q))]) (fun _=>True):=by
 have hll:(Q.map Nat.succ).length = m:=by rw [List.length_map]; exact hm
 refine jH.intro Tryz.func122 rfl Tryz.ntmps122 rfl (fun cx Z=>(ts (rn rfl (fU (Ht rfl)) fun B2=>(rn rfl (pM (Ht rfl)) fun B3=>(rn rfl (eG (Ts:=[Is (.slice none 0 0),Is (.slice none 0 0)]) O_32 rfl (fun V=>aW zd (aW zd (aG)))) fun B4=>(eZ (cK (gG (i:=1) (tt:=2) rfl rfl gE (gG (i:=2) (tt:=3) rfl rfl gY (cY (ro rfl (dV A_72 Z_72 (Ht rfl)) (ro rfl (dK U_72 (Ht rfl) (by rw [List.length_map,hll])) ?_))))))))))))
 refine rn rfl (gR (T:=aE Qi.zero) (i:=Tryz.t51) kD iS rfl rfl (Ht rfl) rfl gS (El.ag rfl) (by show 88 * _ ≤ _; omega) zo) fun B10=>ra rfl (eZ (cK (ts (ro rfl (dV A_72 Z_72 (Ht rfl)) (ro rfl (dK U_72 (Ht rfl) (by rw [List.length_map,hll])) ?_)))))
 refine ro rfl (cX (cJ 0)) (eZ (eK (bL [0,3,4] rfl (by decide) ?_)))
 refine cM (fun (i : Nat) => i ≤ m) (fun (i : Nat) => m - i) (fun (i : Nat) => [(2, PT (bR z s)), (3, PT (hJ (Q.map Nat.succ))), (4, bO B4 0), (5, Is B10), (11, hJ (Q.map Nat.succ)), (12, NT .i64 m), (13, NT .i64 i)]) (fun (i : Nat) => [Z, box B4 32 [Is (.slice none 0 0), Is (.slice none 0 0)], bM 51 5 B10 ((jR (fun i => gv z (fC Q i)) Qi.zero m i).map aE)]) 0 (Nat.zero_le _)
  (zS rfl) (aU (fun _ _ _ h=>h) (aU (fun _ _ _ h=>h) (aU (aR (by rw [← iH]; exact nG aE m)) aY))) (fun i hi=>?_)
 refine ts (ro rfl (gV (Ht rfl) (Ht rfl)) (eZ (cK (dQ (Ht rfl) (fun hd=>?_) (fun hd=>?_)))))
 ·simp only [decide_eq_true_eq] at hd
  have hki:fC Q i < z.length:=Dh hQ zo
  refine cU (cK (eK (ts (rm rfl (ro rfl (dZ U_72 Z_3 (Ht rfl) (Ht rfl) rfl (eQ (nM zo))) (ro rfl (dV A_3 Z_3 (Ht rfl)) (ra rfl (ra rfl (eZ (cY (rm rfl (rm rfl (ro rfl (jK eO (Ht rfl) rfl) (ro rfl (dV A_29 Z_29 (Ht rfl)) (rm rfl (ro rfl (aF.nat (dG (Ht rfl) (cJ 1) zo z6) (show fC Q i + 1 - 1 = fC Q i by omega)) (ro rfl (dZ U_29 Z_51 (Ht rfl) (Ht rfl) rfl (eQ (dY (d:=Qi.zero) hki))) ?_)))))))))))))))))
  refine ro rfl (dV A_51 Z_51 (Ht rfl)) (ro rfl (dE U_29 Z_51 (Ht rfl) (Ht rfl) rfl (i:=2) rfl (by rw [List.length_map,cO]; omega) rfl) ?_)
  refine kS Z_51 (Ht rfl) (Ht rfl) (El.ag rfl) (i:=2) rfl rfl (by rw [List.length_map,cO]; omega) rfl ?_
  refine eZ (bH (cY (ro rfl (dW (Ht rfl) (cJ 1) z6) (rm rfl (eZ (gQ (i + 1) hd zo (zS rfl) (aU (fun _ _ _ h=>h) (aU (fun _ _ _ h=>h) (aU (aR (by rw [fM,← jI (f:=(fun i=>gv z (fC Q i)))])) aY)))))))))
 ·simp only [decide_eq_false_iff_not] at hd
  obtain rfl:m = i:=Nat.le_antisymm zo hi
  rw [jJ]
  refine gK rfl (gG (i:=2) (tt:=5) rfl rfl fP ?_)
  rw [show nO z Q = tab m fun i=>gv z (fC Q i) from by rw [nO,hm],show tH s Q = tab m fun i=>tab m fun j=>gm s (fC Q i) (fC Q j) from by rw [tH,hm]]
  refine ts (rm rfl (ro rfl (dV A_72 Z_72 (Ht rfl)) (ro rfl (dK U_72 (Ht rfl) (by rw [List.length_map,hll])) ?_)))
  refine ro rfl (lW (γ:=Fin m × Fin m) (Ts:=fun x=>[NT .i64 x.1.1,NT .i64 x.2.1]) (U:=fun x=>aE (gm s (fC Q x.1.1) (fC Q x.2.1))) Tryz.call206 (fun x=>Mn hs hQ hm hm2 hl x.1.2 x.2.2) ⟨(Ht rfl),(Ht rfl),trivial⟩) (nN K_114 (En (n:=m) (f:=fun i j=>gm s (fC Q i) (fC Q j)) zo) ⟨(Ht rfl),(Ht rfl),trivial⟩ rfl (fun B32 _=>(ro rfl (qP (Ht rfl) (Ht rfl)) (gJ Z_32 (Ht rfl) (Ht rfl) rfl (i:=1) rfl (aK rfl) rfl rfl (eZ ?_)))))
  exact lR B32 trivial [0,3] ⟨⟨_,rfl,fun _ _ _ h=>h⟩,⟨_,rfl,fun _ _ _ h=>h⟩,trivial⟩ (by decide) (yO rfl (fY A_32 Z_32 rfl (i:=1) rfl rfl))
theorem Yb {z:List Qi} {s:List (List Qi)} {p m:Nat} (hs:eR s z.length z.length) (hp:p < z.length) (hm:m = z.length - 1) (hl:z.length ≤ 1000):jH Tryz.prog 122 [bR z s,hJ (yE p m)] [] Nat (fun B=>eD [bA (On z p m),Is (.slice (some ⟨B,0,none⟩) m m)]) (fun B=>[nJ B 29 51 5 (dO aE (a2D s p m))]) (fun _=>True):=by
 have h:=Ee (Q:=tab m (mJ p)) hs (Yt hp hm) (aO _ _) zo hl
 rw [Vk,Uv,Wp] at h
 exact h
theorem sM {n:Int} (h1:-9223372036854775808 ≤ n) (h2:n ≤ 9223372036854775807):bB Tryz.prog 109 [aD .i64 n] (aE (Qi.ofInt n)):=by
 refine bB.intro Tryz.func109 rfl Tryz.ntmps109 rfl (fun cx=>(ts (rn rfl (eG (Ts:=[Is (.bool false),Is (.slice none 0 0),Is (.bool false),Is (.slice none 0 0),Is (.slice none 0 0)]) O_51 rfl (fun V=>aW zd (aW zd (aW zd (aW zd (aW zd (aG))))))) fun B2=>(eZ (ts (rn rfl (eG (Ts:=[Is (.bool false),Is (.slice none 0 0),Is (.bool false),Is (.slice none 0 0),Is (.slice none 0 0)]) O_51 rfl (fun V=>aW zd (aW zd (aW zd (aW zd (aW zd (aG))))))) fun B3=>?_))))))
 refine eZ (cK (fV (m:=4) (dp 3 rfl (eW A_51 Z_51 (Ht rfl) (i:=1) rfl rfl rfl) (dq 4 0 rfl (bD bN (Ht rfl)) (dp 0 rfl (cX (Ht rfl)) (dq 6 2 rfl (cZ Tryz.call77 (Nh (n:=n) h1 h2) ⟨(Ht rfl),trivial⟩) (fG bF rfl (by kernel_rfl) (zF (aV (ro rfl (aP tF Tryz.call302 Tl (Ht rfl) ⟨(Ht rfl),trivial⟩) (gJ Z_51 (Ht rfl) (Ht rfl) rfl (i:=0) rfl (aK rfl) rfl rfl (eZ ?_))))))))))))
 exact fK rfl (fY A_51 Z_51 rfl (i:=0) rfl rfl)
end
section
open Go Go.RowKit
theorem a1a {z:List Qi} {s:List (List Qi)} {port:Int} {g:Qi} {L:Nat} (hs:eR s z.length z.length) (hf:bT s L) (hg:aN g L) (hL:1 ≤ L) (hLb:L ≤ 1000000) (hl:z.length ≤ 1000):bB Tryz.prog 41 [bR z s,aD .i64 port,aE g] (dN [bR (zO z s port g) (yJ z s port g),aD .i64 (qU z s port g)]):=by
 haveI:=hg
 have hsl:=hs.1
 refine bB.intro Tryz.func41 rfl Tryz.ntmps41 rfl (fun cx=>(ts (rn rfl (fU (Ht rfl)) fun B3=>(rn rfl (fU (Ht rfl)) fun B5=>(rn rfl (eG (Ts:=[Is (.slice none 0 0),Is (.slice none 0 0)]) O_32 rfl (fun V=>aW zd (aW zd (aG)))) fun B6=>(ro rfl (cQ (cJ 0)) (eZ (cK (eK (ts (ro rfl (eW A_32 Z_32 (Ht rfl) (i:=0) rfl rfl rfl) (rm rfl (ro rfl (cZ K_106 Ch ⟨(Ht rfl),(Ht rfl),trivial⟩) (ro rfl (eH (Ht rfl)) (ra rfl (eZ (dQ (Ht rfl) (fun hb=>?_) (fun hb=>?_))))))))))))))))))
 ·have he : qU z s port g = 1 := a1e (by simpa only [Bool.not_eq_true', decide_eq_false_iff_not] using hb)
  refine ts (ro rfl (aF.imp (iU ) iR) (gJ Z_32 (Ht rfl) (Ht rfl) rfl (i:=2) rfl (aK rfl) rfl rfl (ro rfl (cQ (cJ 1)) (eZ (bI rfl (fJ (fY A_32 Z_32 rfl (i:=2) rfl rfl) ?_) (fJ (eY rfl) ?_))))))
  ·exact (Dt he (by decide))
  ·exact (aM he.symm)
 ·have hb2 : 1 ≤ port ∧ port ≤ (z.length : Int) := by simpa using hb
  obtain ⟨p,rfl⟩:∃ p:Nat,port = (p:Int) + 1:=⟨(port - 1).toNat,by omega⟩
  have hp:p < z.length:=by omega
  refine ts (ro rfl (eJ eO (Ht rfl) rfl) (ro rfl (fQ A_29 Z_29 (Ht rfl) (i:=0) rfl rfl) (ro rfl (dK U_29 (Ht rfl) aA) (ro rfl (cB (Ht rfl) (cJ 1)) (ra rfl (eZ (dQ (Ht rfl) (fun hc=>?_) (fun hc=>?_))))))))
  ·have he : qU z s ((p : Int) + 1) g = 4 := a22 hb2 (by simpa using hc)
   refine ts (ro rfl (aF.imp (iU ) iR) (gJ Z_32 (Ht rfl) (Ht rfl) rfl (i:=2) rfl (aK rfl) rfl rfl (ro rfl (cQ (cJ 4)) (eZ (bI rfl (fJ (fY A_32 Z_32 rfl (i:=2) rfl rfl) ?_) (fJ (eY rfl) ?_))))))
   ·exact (Dt he (by decide))
   ·exact (aM he.symm)
  ·have hn1 : ¬ z.length = 1 := by simpa using hc
   have htd:=a1I (s:=s) (g:=g) hp hn1
   obtain ⟨m,hm⟩:∃ m,m = z.length - 1:=⟨_,rfl⟩
   have hspl:=hs.row hp
   haveI f0:aN (Qi.ofInt 1) 1:=nT
   haveI f1:aN (gm s p p) L:=hf.get hL p p
   refine cU (bH (ts (rm rfl (ro rfl (gM (Ht rfl) cV (r:=((p:Nat):Int)) ((tD (z:=(p:Int) + 1 - 1) zo).trans zo)) ?_))))
   refine ra rfl (eZ (cK (Y.D_start (m:=22) [] (bY (Ei:=[(5,_)]) rfl rfl (bQ (bJ rfl rfl) bX) rfl rfl (dX rfl (eW A_51 Z_51 (Ht rfl) (i:=1) rfl rfl rfl)) (bY (Ei:=[(32,_)]) rfl rfl (bQ (bZ 0 rfl rfl) bX) rfl rfl (dX rfl (bD bN (Ht rfl))) (bY (Ei:=[]) rfl rfl bX rfl rfl (dX rfl (cZ K_109 (sM (n:=1) (by decide) (by decide)) ⟨(cJ 1),trivial⟩)) (bY (Ei:=[(34,_)]) rfl rfl (bQ (bZ 2 rfl rfl) bX) rfl rfl (dX rfl (bD bN (Ht rfl))) ?_)))))))
   refine bY (Ei:=[(3,_)]) rfl rfl (bQ (bJ rfl rfl) bX) rfl rfl (dX rfl (eJ dI (Ht rfl) rfl)) (bY (Ei:=[(36,_)]) rfl rfl (bQ (bZ 4 rfl rfl) bX) rfl rfl (dX rfl (fQ A_30 Z_30 (Ht rfl) (i:=0) rfl rfl)) (bY (Ei:=[(8,_)]) rfl rfl (bQ (bJ rfl rfl) bX) rfl rfl (dX rfl (cX (Ht rfl))) (bY (Ei:=[(37,_),(38,_)]) rfl rfl (bQ (bZ 5 rfl rfl) (bQ (bZ 6 rfl rfl) bX)) rfl rfl (dX rfl (dZ U_30 Z_29 (Ht rfl) (Ht rfl) rfl (eQ (dY (d:=[]) zo)))) ?_)))
   refine bY (Ei:=[(39,_)]) rfl rfl (bQ (bZ 7 rfl rfl) bX) rfl rfl (dX rfl (dV A_29 Z_29 (Ht rfl))) (bY (Ei:=[(8,_)]) rfl rfl (bQ (bJ rfl rfl) bX) rfl rfl (dX rfl (cX (Ht rfl))) (bY (Ei:=[(40,_),(41,_)]) rfl rfl (bQ (bZ 8 rfl rfl) (bQ (bZ 9 rfl rfl) bX)) rfl rfl (dX rfl (dZ U_29 Z_51 (Ht rfl) (Ht rfl) rfl (eQ (dY (d:=Qi.zero) zo)))) (bY (Ei:=[(42,_)]) rfl rfl (bQ (bZ 10 rfl rfl) bX) rfl rfl (dX rfl (dV A_51 Z_51 (Ht rfl))) ?_)))
   refine bY (Ei:=[(43,_)]) rfl rfl (bQ (bZ 11 rfl rfl) bX) rfl rfl (dX rfl (bD bN (Ht rfl))) (bY (Ei:=[(5,_)]) rfl rfl (bQ (bJ rfl rfl) bX) rfl rfl (dX rfl (eW A_51 Z_51 (Ht rfl) (i:=1) rfl rfl rfl)) (bY (Ei:=[(44,_),(45,_)]) rfl rfl (bQ (bZ 12 rfl rfl) (bQ (bZ 13 rfl rfl) bX)) rfl rfl (dX rfl (aP cI K_45 (kW (x:=gm s p p) (y:=g) (L:=L) (M:=L) zo) (Ht rfl) ⟨(Ht rfl),trivial⟩)) (bY (Ei:=[(35,_),(46,_)]) rfl rfl (bQ (bZ 3 rfl rfl) (bQ (bZ 14 rfl rfl) bX)) rfl rfl (dX rfl (aP jE K_44 (uO (x:=Qi.ofInt 1) (y:=gm s p p * g) (L:=1) (M:=L + L + 1) (hx:=f0) zo) (Ht rfl) ⟨(Ht rfl),trivial⟩)) ?_)))
   refine bY (Ei:=[(33,_),(47,_)]) rfl rfl (bQ (bZ 1 rfl rfl) (bQ (bZ 15 rfl rfl) bX)) rfl rfl (dX rfl (aP jT K_40 (xE (x:=g) (y:=Qi.ofInt 1 - gm s p p * g) (L:=L) (M:=1 + (L + L + 1) + 1) (hy:=@fitSub _ _ _ _ f0 inferInstance) zo) (Ht rfl) ⟨(Ht rfl),trivial⟩)) (bY (Ei:=[(48,_)]) rfl rfl (bQ (bZ 16 rfl rfl) bX) rfl rfl (dX rfl (cX (Ht rfl))) (bY (Ei:=[(31,_)]) rfl rfl (bQ (bZ 17 rfl rfl) bX) rfl rfl (dX rfl (dU (Ht rfl) rfl)) ?_))
   refine bY (Ei:=[(31,_)]) rfl rfl (bQ (bZ 17 rfl rfl) bX) rfl rfl (dX rfl (dU (Ht rfl) rfl)) (Y.D_newp (Ei:=[]) (fun bb=>box bb 51 [aC (decide ((lM s p g).a < 0)),aH (lM s p g).a.natAbs,aC (decide ((lM s p g).b < 0)),aH (lM s p g).b.natAbs,aH (du (lM s p g))]) 21 rfl rfl rfl bX rfl rfl (by kernel_rfl) (eG (Ts:=[Is (.bool false),Is (.slice none 0 0),Is (.bool false),Is (.slice none 0 0),Is (.slice none 0 0)]) O_51 rfl (fun V=>aW zd (aW zd (aW zd (aW zd (aW zd (aG))))))) ?_)
   refine Y.D_putN (Ei:=[(49,_)]) 20 rfl rfl rfl rfl rfl rfl (bQ (bZ 18 rfl rfl) bX) (fun bb=>lQ Z_51 (Ht rfl) (Ht rfl) rfl (i:=0) rfl (aK rfl) rfl rfl) (Y.D_done bF rfl (by kernel_rfl) rfl (by simp [Y.okP]) rfl rfl (bU (bU (bU (bU (bU (bU (bU (bU (bU (bU (bU (bU (bU (bU (bU (bU (bU (bU (bU (bU (Y.F_newp (fun B9=>Y.F_putN (Y.F_nil ?_))))))))))))))))))))))))
   refine ra rfl (eZ (cK (ts (rm rfl (ro rfl (fB (Ht rfl) cV) (eZ (dQ (Ht rfl) (fun he=>?_) (fun he=>?_))))))))
   ·have hz : Qi.ofInt 1 - gm s p p * g = Qi.zero := by simp at he; exact he
    have he:qU z s ((p:Int) + 1) g = 6:=by rw [htd,if_pos hz]
    refine ts (ro rfl (aF.imp (iU ) iR) (gJ Z_32 (Ht rfl) (Ht rfl) rfl (i:=2) rfl (aK rfl) rfl rfl (ro rfl (cQ (cJ 6)) (eZ (bI rfl (fJ (fY A_32 Z_32 rfl (i:=2) rfl rfl) ?_) (fJ (eY rfl) ?_))))))
    ·exact (Dt he (by decide))
    ·exact (aM he.symm)
   ·have hz : Qi.ofInt 1 - gm s p p * g ≠ Qi.zero := by simp at he; exact he
    have he:qU z s ((p:Int) + 1) g = 0:=by rw [htd,if_neg hz]
    haveI ff:aN (lM s p g) (7 * L + 11):=Rq hf hg hL hz
    have hll:(yE p m).length = m:=aO _ _
    refine cU (ts (ro rfl (eW A_32 Z_32 (Ht rfl) (i:=0) rfl rfl rfl) (rm rfl (ro rfl (dH (xs:=[.tmp 55]) U_72 Z_3 O_3 (cW (Ht rfl) cG) rfl rfl rfl) (ro rfl (cZ Tryz.call121 (eX (a0K (z:=z) (s:=s) (p:=p) hp hl) (kB (by rw [← hm]))) ⟨(Ht rfl),(Ht rfl),trivial⟩) ?_)))))
    refine ra rfl (eZ (ts (ro rfl (eW A_32 Z_32 (Ht rfl) (i:=0) rfl rfl rfl) (rm rfl (nN Tryz.call122 (Yb (p:=p) (m:=m) hs hp hm hl) ⟨(Ht rfl),(Ht rfl),trivial⟩ rfl (fun B60 _=>(rn rfl (eG (Ts:=[Is (.slice none 0 0),Is (.slice none 0 0)]) O_32 rfl (fun V=>aW zd (aW zd (aG)))) fun B12=>(gJ Z_32 (Ht rfl) (Ht rfl) rfl (i:=5) rfl (aK rfl) rfl rfl (eZ (cK (ts (rm rfl (ro rfl (dK U_72 (Ht rfl) (by rw [List.length_map,hll])) ?_)))))))))))))
    refine ro rfl (cX (cJ 0)) (eZ (eK (bL [0,2,3,4,5] rfl (by decide) ?_)))
    refine cM (fun (i : Nat) => i ≤ m) (fun (i : Nat) => m - i) (fun (i : Nat) => [(3, bO B3 0), (6, bO B6 0), (8, NT .i64 p), (9, bO B9 0), (11, hJ (yE p m)), (12, bO B12 0), (61, hJ (yE p m)), (62, NT .i64 m), (63, NT .i64 i)]) (fun (i : Nat) => [box B3 32 [bA z, dM s], box B6 32 [Is (.slice none 0 0), Is (.slice none 0 0)], box B9 51 [aC (decide ((lM s p g).a < 0)), aH (lM s p g).a.natAbs, aC (decide ((lM s p g).b < 0)), aH (lM s p g).b.natAbs, aH (du (lM s p g))], nJ B60 29 51 5 (dO aE (nC (fun i => tab m fun j => Ke s p (lM s p g) i j) (fun i => tab m fun j => gm s (mJ p i) (mJ p j)) m i)), box B12 32 [bA (On z p m), Is (.slice (some ⟨B60, 0, none⟩) m m)]]) 0 (Nat.zero_le _)
     (zS rfl) (aU (fun _ _ _ h=>h) (aU (fun _ _ _ h=>h) (aU (aB rfl) (aU (fA (by rw [← sG]; rfl)) (aU (aB rfl) aY))))) (fun i hi=>?_)
    refine ts (ro rfl (gV (Ht rfl) (Ht rfl)) (eZ (cK (dQ (Ht rfl) (fun hd=>?_) (fun hd=>?_)))))
    ·simp only [decide_eq_true_eq] at hd
     have hki:mJ p i < z.length:=Kn zo hp
     have hsr:=hs.row hki
     refine oS 3 (i) rfl (Ci hd) (fun v=>(cU (cK (eK (ts (rm rfl (ro rfl (dZ U_72 Z_3 (Ht rfl) (Ht rfl) rfl (eQ (Li hd))) (ro rfl (dV A_3 Z_3 (Ht rfl)) (ra rfl (ra rfl (eZ (ts (rm rfl (ro rfl (dK U_72 (Ht rfl) (by rw [List.length_map,hll])) ?_))))))))))))))
     refine ro rfl (cX (cJ 0)) (eZ (eK ?_))
     refine cM (fun (j : Nat) => j ≤ m) (fun (j : Nat) => m - j) (fun (j : Nat) => [(3, bO B3 0), (6, bO B6 0), (8, NT .i64 p), (9, bO B9 0), (11, hJ (yE p m)), (12, bO B12 0), (13, NT .i64 i), (14, NT .i64 (mJ p i + 1)), (61, hJ (yE p m)), (62, NT .i64 m), (63, NT .i64 i), (68, hJ (yE p m)), (69, NT .i64 m), (70, NT .i64 j)]) (fun (j : Nat) => [box B3 32 [bA z, dM s], box B6 32 [Is (.slice none 0 0), Is (.slice none 0 0)], box B9 51 [aC (decide ((lM s p g).a < 0)), aH (lM s p g).a.natAbs, aC (decide ((lM s p g).b < 0)), aH (lM s p g).b.natAbs, aH (du (lM s p g))], Gx B60 29 51 5 (dO aE (nC (fun i => tab m fun j => Ke s p (lM s p g) i j) (fun i => tab m fun j => gm s (mJ p i) (mJ p j)) m i)) i v, box B12 32 [bA (On z p m), Is (.slice (some ⟨B60, 0, none⟩) m m)], bM 51 5 v ((nC (fun j => Ke s p (lM s p g) i j) (fun j => gm s (mJ p i) (mJ p j)) m j).map aE)]) 0 (Nat.zero_le _)
      (zS rfl) (aU (fun _ _ _ h=>h) (aU (fun _ _ _ h=>h) (aU (fun _ _ _ h=>h) (aU (fun _ _ _ h=>h) (aU (fun _ _ _ h=>h) (aU (aR (by rw [← sG])) aY)))))) (fun j hj=>?_)
     refine ts (ro rfl (gV (Ht rfl) (Ht rfl)) (eZ (cK (dQ (Ht rfl) (fun hf2=>?_) (fun hf2=>?_)))))
     ·simp only [decide_eq_true_eq] at hf2
      have hkj:mJ p j < z.length:=Kn zo hp
      have hrl:=oF (fun j=>Ke s p (lM s p g) i j) (fun j=>gm s (mJ p i) (mJ p j)) m j
      haveI g1:aN (gm s (mJ p i) (mJ p j)) L:=hf.get hL _ _
      haveI g2:aN (gm s (mJ p i) p) L:=hf.get hL _ _
      haveI g3:aN (gm s p (mJ p j)) L:=hf.get hL _ _
      refine cU (cK (eK (ts (rm rfl (ro rfl (dZ U_72 Z_3 (Ht rfl) (Ht rfl) rfl (eQ (Li hf2))) (ro rfl (dV A_3 Z_3 (Ht rfl)) (ra rfl (ra rfl (eZ (fV (m:=39) (dp 12 rfl (eJ dI (Ht rfl) rfl) (dq 75 0 rfl (fQ A_30 Z_30 (Ht rfl) (i:=4) rfl rfl) (dp 13 rfl (cX (Ht rfl)) (dS 76 1 77 2 rfl (gX U_30 Z_29 (Ht rfl) (Ht rfl) rfl zo (by rw [Nat.mul_one,Nat.zero_add])) ?_))))))))))))))
      refine dq 78 3 rfl (mH A_29 Z_29 (Ht rfl) (j:=3) rfl) (dp 15 rfl (cX (Ht rfl)) (dp 12 rfl (eJ dI (Ht rfl) rfl) (dq 81 6 rfl (fQ A_30 Z_30 (Ht rfl) (i:=4) rfl rfl) (dp 13 rfl (cX (Ht rfl)) (dS 82 7 83 8 rfl (gX U_30 Z_29 (Ht rfl) (Ht rfl) rfl zo (by rw [Nat.mul_one,Nat.zero_add])) ?_)))))
      refine dq 84 9 rfl (mH A_29 Z_29 (Ht rfl) (j:=3) rfl) (dp 15 rfl (cX (Ht rfl)) (dS 85 10 86 11 rfl (dE U_29 Z_51 (Ht rfl) (Ht rfl) rfl (i:=5) rfl (by simp only [List.length_map,hrl]; omega) rfl) ?_))
      refine dq 87 12 rfl (tG A_51 Z_51 (Ht rfl) (i:=5) rfl rfl (eQ (zL hf2))) (dq 88 13 rfl (bD bN (Ht rfl)) (dp 3 rfl (eJ dI (Ht rfl) rfl) (dq 90 15 rfl (fQ A_30 Z_30 (Ht rfl) (i:=0) rfl rfl) (dp 14 rfl (cX (Ht rfl)) (dq 92 17 rfl (aF.nat (dG (Ht rfl) (cJ 1) zo z6) (show mJ p i + 1 - 1 = mJ p i by omega)) (dS 91 16 93 18 rfl (dZ U_30 Z_29 (Ht rfl) (Ht rfl) rfl (eQ (dY (d:=[]) zo))) ?_))))))
      refine dq 94 19 rfl (dV A_29 Z_29 (Ht rfl)) (dp 8 rfl (cX (Ht rfl)) (dS 95 20 96 21 rfl (dZ U_29 Z_51 (Ht rfl) (Ht rfl) rfl (eQ (dY (d:=Qi.zero) zo))) (dq 97 22 rfl (dV A_51 Z_51 (Ht rfl)) (dq 98 23 rfl (bD bN (Ht rfl)) (dp 9 rfl (eW A_51 Z_51 (Ht rfl) (i:=2) rfl rfl rfl) (dq 100 25 rfl (bD bN (Ht rfl)) (dp 3 rfl (eJ dI (Ht rfl) rfl) (dq 102 27 rfl (fQ A_30 Z_30 (Ht rfl) (i:=0) rfl rfl) (dp 8 rfl (cX (Ht rfl)) ?_)))))))))
      refine dS 103 28 104 29 rfl (dZ U_30 Z_29 (Ht rfl) (Ht rfl) rfl (eQ (dY (d:=[]) zo))) (dq 105 30 rfl (dV A_29 Z_29 (Ht rfl)) (dp 16 rfl (cX (Ht rfl)) (dq 107 32 rfl (aF.nat (dG (Ht rfl) (cJ 1) zo z6) (show mJ p j + 1 - 1 = mJ p j by omega)) (dS 106 31 108 33 rfl (dZ U_29 Z_51 (Ht rfl) (Ht rfl) rfl (eQ (dY (d:=Qi.zero) zo))) (dq 109 34 rfl (dV A_51 Z_51 (Ht rfl)) ?_)))))
      refine dS 101 26 110 35 rfl (aP cI K_45 (kW (x:=lM s p g) (y:=gm s p (mJ p j)) (L:=7 * L + 11) (M:=L) zo) (Ht rfl) ⟨(Ht rfl),trivial⟩) (dS 99 24 111 36 rfl (aP cI K_45 (kW (x:=gm s (mJ p i) p) (y:=lM s p g * gm s p (mJ p j)) (L:=L) (M:=7 * L + 11 + L + 1) zo) (Ht rfl) ⟨(Ht rfl),trivial⟩) (dS 89 14 112 37 rfl (aP lG K_46 (yB (x:=gm s (mJ p i) (mJ p j)) (y:=gm s (mJ p i) p * (lM s p g * gm s p (mJ p j))) (L:=L) (M:=L + (7 * L + 11 + L + 1) + 1) zo) (Ht rfl) ⟨(Ht rfl),trivial⟩) ?_))
      refine fG bF rfl (by kernel_rfl) (zF (zF (zF (zF (zF (zF (zF (zF (zF (aJ (aJ (aJ (aV (ro rfl (dE U_29 Z_51 (Ht rfl) (Ht rfl) rfl (i:=5) rfl (by simp only [List.length_map,hrl]; omega) rfl) ?_))))))))))))))
      refine kS Z_51 (Ht rfl) (Ht rfl) (El.ag rfl) (i:=5) rfl rfl (by simp only [List.length_map,hrl]; omega) rfl ?_
      refine eZ (bH (cY (ro rfl (dW (Ht rfl) (cJ 1) z6) (rm rfl (eZ (gQ (j + 1) hf2 zo (zS rfl) (aU (fun _ _ _ h=>h) (aU (fun _ _ _ h=>h) (aU (fun _ _ _ h=>h) (aU (fun _ _ _ h=>h) (aU (fun _ _ _ h=>h) (aU (aR (by rw [fM,← uQ (f:=fun j=>Ke s p (lM s p g) i j)]; rfl)) aY))))))))))))
     ·simp only [decide_eq_false_iff_not] at hf2
      obtain rfl:m = j:=Nat.le_antisymm zo hj
      refine gK rfl (bH (kR 3 5 rfl rfl (by decide) (by simp only [dO,List.length_map,oF]; omega) ?_))
      refine cY (ro rfl (dW (Ht rfl) (cJ 1) z6) (rm rfl (eZ (bL [0,1,2,3,4] rfl (by decide) (gQ (i + 1) hd zo (zS rfl) (aU (fun _ _ _ h=>h) (aU (fun _ _ _ h=>h) (aU (fun _ _ _ h=>h) (aU (fA (by rw [kZ,uT,← uQ (f:=(fun i=>tab m fun j=>Ke s p (lM s p g) i j))])) (aU (fun _ _ _ h=>h) aY))))))))))
    ·simp only [decide_eq_false_iff_not] at hd
     obtain rfl:m = i:=Nat.le_antisymm zo hi
     rw [uT]
     refine gK rfl (cK (tE 4 3 1 rfl rfl rfl (by decide) (a1j (q:=fun _=>True) (M:=a1z s p m (lM s p g)) (aO _ _).symm) ?_))
     subst hm
     refine cY (ro rfl (eW A_32 Z_32 (Ht rfl) (i:=4) rfl rfl rfl) (gJ Z_32 (Ht rfl) (Ht rfl) rfl (i:=1) rfl (aK rfl) rfl rfl (ro rfl (cQ (cJ 0)) (eZ (bI rfl (fJ (fY A_32 Z_32 rfl (i:=1) rfl rfl) ?_) (fJ (eY rfl) ?_))))))
     ·exact (Sr he)
     ·exact (aM he.symm)
end
section
open Go Go.RowKit
def Aa:List Qi:=[r50,r50].map Rt.q
def Bf:List (List Qi):=rq [[xC,xC],[xC,xC]]
def Dg:List Qi:=zO Aa Bf 2 (Qi.ofInt 1)
def Ou:List (List Qi):=yJ Aa Bf 2 (Qi.ofInt 1)
theorem Te:cD Aa Bf = 0:=by decide +kernel
theorem Sj:eR Bf Aa.length Aa.length:=(mK Te).2.2.1
theorem a0L:qU Aa Bf 2 (Qi.ofInt 1) = 0:=by decide +kernel
theorem Qs:Dg.length = 1:=by decide +kernel
theorem a0z:Ou = [[Qi.ofInt 1]]:=by decide +kernel
theorem a1u:Jt (pmM true (Pr Aa.length) Bf Aa.length) Aa.length ≠ 0:=by decide +kernel
theorem a2l:cC Aa 2:=cC.rt
theorem a0B:bT Bf 2:=bT.rt
theorem a0v:aN (Qi.ofInt 1) 2:=nT.le (by decide)
theorem a0U:∀ v V,(dN [bR (iI (cD Aa Bf) Aa) (iI (cD Aa Bf) Bf),aD .i64 (cD Aa Bf)]).p v V → (dN [bR Aa Bf,aD .i64 0]).p v V:=by rw [Te]; exact fun _ _ h=>h
theorem a1m:∀ v V,(dN [bR (zO Aa Bf ((2:Nat):Int) (Qi.ofInt 1)) (yJ Aa Bf ((2:Nat):Int) (Qi.ofInt 1)),aD .i64 (qU Aa Bf ((2:Nat):Int) (Qi.ofInt 1))]).p v V → (dN [bR Dg Ou,aD .i64 0]).p v V:=by
 rw [show qU Aa Bf ((2:Nat):Int) (Qi.ofInt 1) = 0 from a0L]; exact fun _ _ h=>h
theorem a1o:eR Ou Dg.length Dg.length:=by rw [Qs,a0z]; exact ⟨rfl,by simp⟩
theorem a2e:∀ v V,(dN [aE (Ot Dg.length Ou ((1:Nat):Int) ((1:Nat):Int)),aD .i64 (if (1 ≤ ((1:Nat):Int) ∧ ((1:Nat):Int) ≤ Dg.length) ∧ 1 ≤ ((1:Nat):Int) ∧ ((1:Nat):Int) ≤ Dg.length then 0 else 1)]).p v V → (dN [aE (Qi.ofInt 1),aD .i64 0]).p v V:=by
 rw [Qs,a0z,if_pos (by decide)]
 rw [show Ot 1 [[Qi.ofInt 1]] ((1:Nat):Int) ((1:Nat):Int) = Qi.ofInt 1 from rfl]
 exact fun _ _ h=>h
theorem a3h:Ps (Qi.ofInt 1) = [49]:=by decide +kernel
end
section
open Go Go.RowKit
theorem He  : bB Tryz.prog 32 [] (aC true):=by
 refine bB.intro Tryz.func32 rfl Tryz.ntmps32 rfl (fun cx=>(ts (ro rfl (cQ cV) (eZ (ts (ro rfl (wU cV cV) (rn rfl (eG (Ts:=[Is (.int .i64 0),Is (.int .i64 0),Is (.int .i64 0)]) O_102 rfl (fun V=>aW zd (aW zd (aW zd (aG))))) fun B1=>(gJ Z_102 (Ht rfl) (Ht rfl) rfl (i:=0) rfl (aK rfl) rfl rfl (eZ (cK (Y.D_start (m:=18) [] (bY (Ei:=[]) rfl rfl bX rfl rfl (dX rfl (Bj cV)) (bY (Ei:=[]) rfl rfl bX rfl rfl (dX rfl (Bj cV)) ?_)))))))))))))
 refine bY (Ei:=[(12,_),(13,_)]) rfl rfl (bQ (bZ 0 rfl rfl) (bQ (bZ 1 rfl rfl) bX)) rfl rfl (dX rfl (dH (xs:=[.tmp 12,.tmp 13]) U_22 Z_102 O_102 (cW (Ht rfl) (cW (Ht rfl) cG)) rfl rfl rfl)) (bY (Ei:=[(14,_)]) rfl rfl (bQ (bZ 2 rfl rfl) bX) rfl rfl (dX rfl (cZ Tryz.call48 (wS (l:=[r50,r50]) (by decide)) ⟨(Ht rfl),trivial⟩)) (bY (Ei:=[(1,_)]) rfl rfl (bQ (bJ rfl rfl) bX) rfl rfl (dX rfl (eW A_102 Z_102 (Ht rfl) (i:=0) rfl rfl rfl)) ?_))
 refine bY (Ei:=[(1,_)]) rfl rfl (bQ (bJ rfl rfl) bX) rfl rfl (dX rfl (eW A_102 Z_102 (Ht rfl) (i:=0) rfl rfl rfl)) (bY (Ei:=[(16,_),(17,_)]) rfl rfl (bQ (bZ 4 rfl rfl) (bQ (bZ 5 rfl rfl) bX)) rfl rfl (dX rfl (dH (xs:=[.tmp 16,.tmp 17]) U_22 Z_102 O_102 (cW (Ht rfl) (cW (Ht rfl) cG)) rfl rfl rfl)) (bY (Ei:=[(1,_)]) rfl rfl (bQ (bJ rfl rfl) bX) rfl rfl (dX rfl (eW A_102 Z_102 (Ht rfl) (i:=0) rfl rfl rfl)) ?_))
 refine bY (Ei:=[(1,_)]) rfl rfl (bQ (bJ rfl rfl) bX) rfl rfl (dX rfl (eW A_102 Z_102 (Ht rfl) (i:=0) rfl rfl rfl)) (bY (Ei:=[(19,_),(20,_)]) rfl rfl (bQ (bZ 7 rfl rfl) (bQ (bZ 8 rfl rfl) bX)) rfl rfl (dX rfl (dH (xs:=[.tmp 19,.tmp 20]) U_22 Z_102 O_102 (cW (Ht rfl) (cW (Ht rfl) cG)) rfl rfl rfl)) (bY (Ei:=[(18,_),(21,_)]) rfl rfl (bQ (bZ 6 rfl rfl) (bQ (bZ 9 rfl rfl) bX)) rfl rfl (dX rfl (dH (xs:=[.tmp 18,.tmp 21]) U_23 Z_22 Tryz.zeroValue22 (cW (Ht rfl) (cW (Ht rfl) cG)) rfl rfl rfl)) ?_))
 refine bY (Ei:=[(22,_)]) rfl rfl (bQ (bZ 10 rfl rfl) bX) rfl rfl (dX rfl (cZ Tryz.call86 (Bh (m:=[[xC,xC],[xC,xC]]) (by decide) (by intro r hr; simp at hr; subst hr; decide)) ⟨(Ht rfl),trivial⟩)) ?_
 refine bY (Ei:=[(15,_),(23,_)]) rfl rfl (bQ (bZ 3 rfl rfl) (bQ (bZ 11 rfl rfl) bX)) rfl rfl (dX rfl (cZ Tryz.call85 (eX (vF (z:=Aa) (s:=Bf) (L:=2) a2l (by decide) (by decide) (by decide)) a0U) ⟨(Ht rfl),(Ht rfl),trivial⟩)) (bY (Ei:=[(24,_)]) rfl rfl (bQ (bZ 12 rfl rfl) bX) rfl rfl (dX rfl (cX (Ht rfl))) (bY (Ei:=[(11,_)]) rfl rfl (bQ (bZ 13 rfl rfl) bX) rfl rfl (dX rfl (dU (Ht rfl) rfl)) (bY (Ei:=[(11,_)]) rfl rfl (bQ (bZ 13 rfl rfl) bX) rfl rfl (dX rfl (dU (Ht rfl) rfl)) ?_)))
 refine Y.D_newp (Ei:=[]) (fun bb=>box bb 32 [bA Aa,dM Bf]) 17 rfl rfl rfl bX rfl rfl (by kernel_rfl) (eG (Ts:=[Is (.slice none 0 0),Is (.slice none 0 0)]) O_32 rfl (fun V=>aW zd (aW zd (aG)))) (Y.D_putN (Ei:=[(25,_)]) 16 rfl rfl rfl rfl rfl rfl (bQ (bZ 14 rfl rfl) bX) (fun bb=>lQ Z_32 (Ht rfl) (Ht rfl) rfl (i:=0) rfl (aK rfl) rfl rfl) (Y.D_done bF rfl (by kernel_rfl) rfl (by simp [Y.okP]) rfl rfl (bU (bU (bU (bU (bU (bU (bU (bU (bU (bU (bU (bU (bU (bU (bU (bU (Y.F_newp (fun B2=>Y.F_putN (Y.F_nil ?_)))))))))))))))))))))
 refine ra rfl (eZ (cK (Y.D_start (m:=8) [] (bY (Ei:=[(2,_)]) rfl rfl (bQ (bJ rfl rfl) bX) rfl rfl (dX rfl (eW A_32 Z_32 (Ht rfl) (i:=1) rfl rfl rfl)) (bY (Ei:=[]) rfl rfl bX rfl rfl (dX rfl (cZ Tryz.call77 (Nh (n:=1) (by decide) (by decide)) ⟨(cJ 1),trivial⟩)) (bY (Ei:=[(28,_),(29,_)]) rfl rfl (bQ (bZ 0 rfl rfl) (bQ (bZ 1 rfl rfl) bX)) rfl rfl (dX rfl (cZ Tryz.call41 (eX (a1a (z:=Aa) (s:=Bf) (port:=((2:Nat):Int)) (g:=Qi.ofInt 1) (L:=2) Sj a0B a0v (by decide) (by decide) (by decide)) a1m) ⟨(Ht rfl),(cJ 2),(Ht rfl),trivial⟩)) ?_))))))
 refine bY (Ei:=[(30,_)]) rfl rfl (bQ (bZ 2 rfl rfl) bX) rfl rfl (dX rfl (cX (Ht rfl))) (bY (Ei:=[(27,_)]) rfl rfl (bQ (bZ 3 rfl rfl) bX) rfl rfl (dX rfl (dU (Ht rfl) rfl)) (bY (Ei:=[(27,_)]) rfl rfl (bQ (bZ 3 rfl rfl) bX) rfl rfl (dX rfl (dU (Ht rfl) rfl)) (Y.D_newp (Ei:=[]) (fun bb=>box bb 32 [bA Dg,dM Ou]) 7 rfl rfl rfl bX rfl rfl (by kernel_rfl) (eG (Ts:=[Is (.slice none 0 0),Is (.slice none 0 0)]) O_32 rfl (fun V=>aW zd (aW zd (aG)))) ?_)))
 refine Y.D_putN (Ei:=[(31,_)]) 6 rfl rfl rfl rfl rfl rfl (bQ (bZ 4 rfl rfl) bX) (fun bb=>lQ Z_32 (Ht rfl) (Ht rfl) rfl (i:=0) rfl (aK rfl) rfl rfl) (Y.D_done bF rfl (by kernel_rfl) rfl (by simp [Y.okP]) rfl rfl (bU (bU (bU (bU (bU (bU (Y.F_newp (fun B4=>Y.F_putN (Y.F_nil ?_))))))))))
 refine ra rfl (eZ (ts (ro rfl (eW A_32 Z_32 (Ht rfl) (i:=2) rfl rfl rfl) (ro rfl (cZ K_25 (eX (Ol (z:=Dg) (s:=Ou) (i:=((1:Nat):Int)) (j:=((1:Nat):Int)) a1o (by rw [Qs]; decide)) a2e) ⟨(Ht rfl),(cJ 1),(cJ 1),trivial⟩) ?_))))
 refine rm rfl (ro rfl (dU (Ht rfl) rfl) (ro rfl (dU (Ht rfl) rfl) (rn rfl (eG (Ts:=[Is (.bool false),Is (.slice none 0 0),Is (.bool false),Is (.slice none 0 0),Is (.slice none 0 0)]) O_51 rfl (fun V=>aW zd (aW zd (aW zd (aW zd (aW zd (aG))))))) fun B6=>(gJ Z_51 (Ht rfl) (Ht rfl) rfl (i:=3) rfl (aK rfl) rfl rfl (ra rfl (eZ (ts (ro rfl (eW A_32 Z_32 (Ht rfl) (i:=1) rfl rfl rfl) ?_))))))))
 refine ro rfl (cZ Tryz.call124 (a0X (z:=Aa) (s:=Bf) (L:=2) Sj a0B (by decide) (by decide) (by decide) (by decide +kernel) (by decide +kernel) a1u) ⟨(Ht rfl),trivial⟩) (rm rfl (ro rfl (dU (Ht rfl) rfl) (ro rfl (dU (Ht rfl) rfl) (ra rfl (ra rfl (eZ (ts (rm rfl (ro rfl (iW (Ht rfl) cV) (rm rfl (fX rfl rfl (eU rfl rfl (Ht rfl) (fun h=>cX (Ht rfl))) (fX rfl rfl (eU rfl rfl (Ht rfl) (fun h=>iW (fW rfl h) cV)) (ro rfl (eA (Ht rfl) (fun h=>(fW rfl h))) (rm rfl (fX rfl rfl (eU rfl rfl (Ht rfl) (fun h=>cX (Ht rfl))) ?_)))))))))))))))
 refine fX rfl rfl (eU rfl rfl (Ht rfl) (fun h=>iW (fW rfl h) cV)) (ro rfl (eA (Ht rfl) (fun h=>(fW rfl h))) (rm rfl (fX rfl rfl (eU rfl rfl (Ht rfl) (fun h=>cX (Ht rfl))) (fX rfl rfl (eU rfl rfl (Ht rfl) (fun h=>iW (fW rfl h) cV)) (ro rfl (eA (Ht rfl) (fun h=>(fW rfl h))) (rm rfl (fX rfl rfl (eU rfl rfl (Ht rfl) (fun h=>eW A_32 Z_32 (Ht rfl) (i:=1) rfl rfl rfl)) (fX rfl rfl (eU rfl rfl (Ht rfl) (fun h=>cZ K_22 qJ ⟨(fW rfl h),trivial⟩)) (fX rfl rfl (eU rfl rfl (Ht rfl) (fun h=>cB (fW rfl h) (cJ 2))) ?_)))))))))
 refine ro rfl (eA (Ht rfl) (fun h=>(fW rfl h))) (rm rfl (fX rfl rfl (eU rfl rfl (Ht rfl) (fun h=>eW A_51 Z_51 (Ht rfl) (i:=3) rfl rfl rfl)) (fX rfl rfl (eU rfl rfl (Ht rfl) (fun h=>cZ Tryz.call89 (Qk (x:=Qi.ofInt 1) (L:=2) (hx:=a0v) (by decide)) ⟨(fW rfl h),trivial⟩)) (fX rfl rfl (eU rfl rfl (Ht rfl) (fun h=>Rb (fW rfl h) (bC.cS (l:=[49]) rfl))) (ro rfl (eA (Ht rfl) (fun h=>(fW rfl h))) (ra rfl (eZ (fK rfl (fJ (eY rfl) ?_)))))))))
 exact (eN (by rw [a3h]; rfl))
end
section
open Go Go.RowKit
theorem zI {l:List Rt} (hl:l.length ≤ 1000000):bB Tryz.prog 104 [lV l] (Ff (l.map Rt.q)):=by
 refine bB.intro Tryz.func104 rfl Tryz.ntmps104 rfl (fun cx=>(ts (ro rfl (cQ cV) (eZ (ts (rm rfl (ro rfl (dK U_22 (Ht rfl) aA) (rn rfl (gR (T:=ZQ) (i:=Tryz.t131) a23 Qm rfl rfl (Ht rfl) rfl a3p (El.ag rfl) (by show 88 * _ ≤ _; omega) zo) fun B8=>(ra rfl (eZ (cK (ts (rm rfl (ro rfl (dK U_22 (Ht rfl) aA) (ro rfl (cX (cJ 0)) (eZ (eK ?_)))))))))))))))))
 refine cM (fun (k : Nat) => k ≤ l.length) (fun (k : Nat) => l.length - k) (fun (k : Nat) => [(3, Is B8), (9, lV l), (10, NT .i64 l.length), (11, NT .i64 k)]) (fun (k : Nat) => [bM 131 5 B8 (jR (fun i => QT (l.getD i default).q) ZQ l.length k)]) 0 (Nat.zero_le _)
  (zS rfl) (aU (aR (by rw [← iH]; exact vB _ _)) aY) (fun k hk=>?_)
 refine ts (ro rfl (gV (Ht rfl) (Ht rfl)) (eZ (cK (dQ (Ht rfl) (fun hd=>?_) (fun hd=>?_)))))
 ·simp only [decide_eq_true_eq] at hd
  refine cU (cK (eK (ts (rm rfl (ro rfl (dZ U_22 Z_102 (Ht rfl) (Ht rfl) rfl (eQ (dY (d:=default) hd))) (ro rfl (dV A_102 Z_102 (Ht rfl)) (rn rfl (eG (Ts:=[Is (.int .i64 0),Is (.int .i64 0),Is (.int .i64 0)]) O_102 rfl (fun V=>aW zd (aW zd (aW zd (aG))))) fun B5=>(ra rfl (gJ Z_102 (Ht rfl) (Ht rfl) rfl (i:=1) rfl (aK rfl) rfl rfl (eZ (cY (rm rfl (rm rfl (ro rfl (eW A_102 Z_102 (Ht rfl) (i:=1) rfl rfl rfl) ?_))))))))))))))
  refine ro rfl (cZ Tryz.call151 a2q ⟨(Ht rfl),trivial⟩) (ro rfl (dE U_35 Z_131 (Ht rfl) (Ht rfl) rfl (i:=0) rfl (by rw [cO]; omega) rfl) ?_)
  refine kS Z_131 (Ht rfl) (Ht rfl) (El.ag rfl) (i:=0) rfl rfl (by rw [cO]; omega) rfl ?_
  refine eZ (bH (cY (ro rfl (dW (Ht rfl) (cJ 1) z6) (rm rfl (eZ (bL [0] rfl (by decide) (gQ (k + 1) hd zo (zS rfl) (aU (aR (jI (f:=fun i=>QT (l.getD i default).q))) aY))))))))
 ·simp only [decide_eq_false_iff_not] at hd
  obtain rfl:k = l.length:=Nat.le_antisymm hk zo
  rw [jJ]
  refine gK rfl (gG (i:=0) (tt:=3) rfl rfl fP (ts (rm rfl (ra rfl (eZ (fK rfl (fJ (eY rfl) ?_)))))))
  exact (kB (by rw [← rS l Rt.q,mN]))
theorem Iw {m:List (List Rt)} (hm:m.length ≤ 1000) (hr:∀ r,r ∈ m → r.length ≤ 1000):bB Tryz.prog 105 [Pv m] (QM (rq m)):=by
 refine bB.intro Tryz.func105 rfl Tryz.ntmps105 rfl (fun cx=>(ts (ro rfl (cQ cV) (eZ (ts (rm rfl (ro rfl (dK U_23 (Ht rfl) aA) (rn rfl (gR (T:=Ff []) (i:=Tryz.t35) a10 Ya rfl rfl (Ht rfl) rfl (fun V=>iT _ _ rfl) El.one (by show 24 * _ ≤ _; omega) zo) fun B8=>(ra rfl (eZ (cK (ts (rm rfl (ro rfl (dK U_23 (Ht rfl) aA) (ro rfl (cX (cJ 0)) (eZ (eK ?_)))))))))))))))))
 refine fT (fun (k : Nat) (out : List (List Qi)) => mT (fun i => (m.getD i default).map Rt.q) m.length out k) (fun (k : Nat) (out : List (List Qi)) => m.length - k) (fun (k : Nat) (out : List (List Qi)) => [(3, Is B8), (9, Pv m), (10, NT .i64 m.length), (11, NT .i64 k)]) (fun (k : Nat) (out : List (List Qi)) => [bM 35 1 B8 (out.map Ff)]) 0 (List.replicate m.length []) (mT.start _ _ _)
  (zS rfl) (aU (aR (rR Ff _ _)) aY) (fun k out hS=>?_)
 refine ts (ro rfl (gV (Ht rfl) (Ht rfl)) (eZ (cK (dQ (Ht rfl) (fun hk=>?_) (fun hk=>?_)))))
 ·simp only [decide_eq_true_eq] at hk
  have hlen:=hS.len
  have hrk : (m.getD k default).length ≤ 1000 := by
   have e:m.getD k default = m[k]:=by simp [List.getD,hk]
   rw [e]; exact hr _ (List.getElem_mem hk)
  refine cU (cK (eK (ts (rm rfl (ro rfl (dZ U_23 Z_22 (Ht rfl) (Ht rfl) rfl (eQ (dY (d:=default) hk))) (ro rfl (dV A_22 Z_22 (Ht rfl)) (ra rfl (ra rfl (eZ (cY (rm rfl (rm rfl (rm rfl (ro rfl (cZ Tryz.call104 (zI zo) ⟨(Ht rfl),trivial⟩) (ro rfl (dE U_36 Z_35 (Ht rfl) (Ht rfl) rfl (i:=0) rfl (by first | omega | (simp; omega)) rfl) (kS Z_35 (Ht rfl) (Ht rfl) El.one (i:=0) rfl rfl (by first | omega | (simp; omega)) rfl (eZ (bH ?_))))))))))))))))))
  refine cY (ro rfl (dW (Ht rfl) (cJ 1) z6) (rm rfl (eZ (gQ (k + 1,_) (hS.next hk rfl) (by dsimp only; omega) (zS rfl) (aU (aR (fM Ff _ _ _)) aY)))))
 ·simp only [decide_eq_false_iff_not] at hk
  obtain rfl:k = m.length:=Nat.le_antisymm hS.kle zo
  have hfin:=hS.fin
  rw [rS m (fun r=>r.map Rt.q)] at hfin
  refine gK rfl (gG (i:=0) (tt:=3) rfl rfl fP (ts (rm rfl (ra rfl (eZ (fK rfl (fJ (eY rfl) ?_)))))))
  exact (kB (by rw [hfin]))
theorem a2M {z:List Qi} {s:List (List Qi)} {L:Nat} (hz:cC z L) (hs:bT s L) (hL1:1 ≤ L) (hL:L ≤ 8796093022208) (hsh:eR s z.length z.length) (hl:z.length ≤ 1000):bB Tryz.prog 70 [bR z s,sY z s] (aC true):=by
 have hs1:=hsh.1
 refine bB.intro Tryz.func70 rfl Tryz.ntmps70 rfl (fun cx=>(ts (rn rfl (fU (Ht rfl)) fun B2=>(rn rfl (fU (Ht rfl)) fun B3=>(ro rfl (cQ cV) (eZ (cK (cK (fV (m:=5) (dp 2 rfl (eW A_32 Z_32 (Ht rfl) (i:=0) rfl rfl rfl) (dq 13 0 rfl (cZ K_22 qJ ⟨(Ht rfl),trivial⟩) (dp 3 rfl (eJ Kw (Ht rfl) rfl) (dq 15 2 rfl (fQ Tryz.isAgg35 Z_35 (Ht rfl) (i:=1) rfl rfl) (dq 16 3 rfl (dK U_35 (Ht rfl) aA) (fG bF rfl (by kernel_rfl) (zF (aJ (aV ?_))))))))))))))))))
 refine ro rfl (iV (Ht rfl) (Ht rfl)) (eZ (fN (Ht rfl) (by simp) ?_))
 refine cU (cK (ts (ro rfl (eJ Kw (Ht rfl) rfl) (ro rfl (fQ Tryz.isAgg35 Z_35 (Ht rfl) (i:=1) rfl rfl) (ro rfl (dK U_35 (Ht rfl) aA) (ro rfl (cX (cJ 0)) (eZ (eK ?_))))))))
 refine cM (fun (i : Nat) => i ≤ z.length) (fun (i : Nat) => z.length - i) (fun (i : Nat) => [(2, bO B2 0), (3, bO B3 0), (20, Ff z), (21, NT .i64 z.length), (22, NT .i64 i)]) (fun (i : Nat) => [box B2 32 [bA z, dM s], box B3 38 [Ff z, QM s]]) 0 (Nat.zero_le _)
  (zS rfl) (dL.refl _) (fun i hi=>?_)
 refine ts (ro rfl (gV (Ht rfl) (Ht rfl)) (eZ (cK (dQ (Ht rfl) (fun hd=>?_) (fun hd=>?_)))))
 ·simp only [decide_eq_true_eq] at hd
  haveI f1:aN (gv z i) L:=hz.get hL1 i
  have hsr:=hsh.row hd
  refine cU (cK (eK (ts (rm rfl (ro rfl (dZ U_35 Z_131 (Ht rfl) (Ht rfl) rfl (eQ (dY (d:=Qi.zero) hd))) (ro rfl (dV A_131 Z_131 (Ht rfl)) (rn rfl (eG (Ts:=[Is (.bool false),Is (.slice none 0 0),Is (.bool false),Is (.slice none 0 0),Is (.slice none 0 0)]) O_131 rfl (fun V=>aW zd (aW zd (aW zd (aW zd (aW zd (aG))))))) fun B6=>(ra rfl (gJ Z_131 (Ht rfl) (Ht rfl) rfl (i:=2) rfl (aK rfl) rfl rfl ?_)))))))))
  refine eZ (ts (ro rfl (eW A_32 Z_32 (Ht rfl) (i:=0) rfl rfl rfl) (rm rfl (ro rfl (dW (Ht rfl) (cJ 1) z6) (ro rfl (cZ Tryz.call23 (eX (Mh (z:=z) (s:=s) (i:=((i + 1:Nat):Int)) zo) (a1r hd)) ⟨(Ht rfl),(Ht rfl),trivial⟩) (rm rfl (ro rfl (dU (Ht rfl) rfl) (ro rfl (dU (Ht rfl) rfl) (rn rfl (eG (Ts:=[Is (.bool false),Is (.slice none 0 0),Is (.bool false),Is (.slice none 0 0),Is (.slice none 0 0)]) O_51 rfl (fun V=>aW zd (aW zd (aW zd (aW zd (aW zd (aG))))))) fun B7=>?_)))))))))
  refine gJ Z_51 (Ht rfl) (Ht rfl) rfl (i:=3) rfl (aK rfl) rfl rfl (ra rfl (eZ (cK (ts (rm rfl (ro rfl (fB (Ht rfl) cV) (rm rfl (fX rfl rfl (eU rfl rfl (Ht rfl) (fun h=>eW A_51 Z_51 (Ht rfl) (i:=3) rfl rfl rfl)) (fX rfl rfl (eU rfl rfl (Ht rfl) (fun h=>eW A_131 Z_131 (Ht rfl) (i:=2) rfl rfl rfl)) (fX rfl rfl (eU rfl rfl (Ht rfl) (fun h=>cZ Tryz.call80 (Ls (x:=gv z i) (y:=gv z i) (L:=L) (M:=L) hL hL) ⟨(fW rfl h),(fW rfl h),trivial⟩)) (fX rfl rfl (eU rfl rfl (Ht rfl) (fun h=>eH (fW rfl h))) ?_)))))))))))
  refine ro rfl (kX (Ht rfl) (fun h=>(fW rfl h))) (eZ (fN (Ht rfl) (by simp) ?_))
  refine cU (ts (ro rfl (eJ Vv (Ht rfl) rfl) (ro rfl (fQ Tryz.isAgg36 Tryz.sizeOf36 (Ht rfl) (i:=1) rfl rfl) (rm rfl (ro rfl (dZ U_36 Z_35 (Ht rfl) (Ht rfl) rfl (eQ (dY (d:=[]) zo))) (ro rfl (dV Tryz.isAgg35 Z_35 (Ht rfl)) (ro rfl (dK U_35 (Ht rfl) aA) (ro rfl (cX (cJ 0)) (eZ (eK (bL [0,1] rfl (by decide) ?_)))))))))))
  refine cM (fun (j : Nat) => j ≤ z.length) (fun (j : Nat) => z.length - j) (fun (j : Nat) => [(2, bO B2 0), (3, bO B3 0), (5, NT .i64 i), (20, Ff z), (21, NT .i64 z.length), (22, NT .i64 i), (46, Ff (s.getD i [])), (47, NT .i64 z.length), (48, NT .i64 j)]) (fun (j : Nat) => [box B2 32 [bA z, dM s], box B3 38 [Ff z, QM s]]) 0 (Nat.zero_le _)
   (aQ rfl (aQ rfl (aQ rfl (aQ rfl (aQ rfl (aQ rfl (aQ rfl (aZ rfl (lL hsr) (zS rfl))))))))) (dL.refl _) (fun j hj=>?_)
  refine ts (ro rfl (gV (Ht rfl) (Ht rfl)) (eZ (cK (dQ (Ht rfl) (fun hf=>?_) (fun hf=>?_)))))
  ·simp only [decide_eq_true_eq] at hf
   haveI f2:aN (gm s i j) L:=hs.get hL1 i j
   refine cU (cK (eK (ts (rm rfl (ro rfl (dZ U_35 Z_131 (Ht rfl) (Ht rfl) rfl (eQ (dY (d:=Qi.zero) zo))) (ro rfl (dV A_131 Z_131 (Ht rfl)) (rn rfl (eG (Ts:=[Is (.bool false),Is (.slice none 0 0),Is (.bool false),Is (.slice none 0 0),Is (.slice none 0 0)]) O_131 rfl (fun V=>aW zd (aW zd (aW zd (aW zd (aW zd (aG))))))) fun B10=>(ra rfl (gJ Z_131 (Ht rfl) (Ht rfl) rfl (i:=2) rfl (aK rfl) rfl rfl ?_)))))))))
   refine eZ (ts (ro rfl (eW A_32 Z_32 (Ht rfl) (i:=0) rfl rfl rfl) (rm rfl (ro rfl (dW (Ht rfl) (cJ 1) z6) (rm rfl (ro rfl (dW (Ht rfl) (cJ 1) z6) (ro rfl (cZ K_25 (eX (Ol (z:=z) (s:=s) (i:=((i + 1:Nat):Int)) (j:=((j + 1:Nat):Int)) hsh zo) (a2u hd hf)) ⟨(Ht rfl),(Ht rfl),(Ht rfl),trivial⟩) (rm rfl (ro rfl (dU (Ht rfl) rfl) (ro rfl (dU (Ht rfl) rfl) ?_))))))))))
   refine rn rfl (eG (Ts:=[Is (.bool false),Is (.slice none 0 0),Is (.bool false),Is (.slice none 0 0),Is (.slice none 0 0)]) O_51 rfl (fun V=>aW zd (aW zd (aW zd (aW zd (aW zd (aG))))))) fun B11=>gJ Z_51 (Ht rfl) (Ht rfl) rfl (i:=3) rfl (aK rfl) rfl rfl (ra rfl (eZ (ts (rm rfl (ro rfl (fB (Ht rfl) cV) (rm rfl (fX rfl rfl (eU rfl rfl (Ht rfl) (fun h=>eW A_51 Z_51 (Ht rfl) (i:=3) rfl rfl rfl)) ?_)))))))
   refine fX rfl rfl (eU rfl rfl (Ht rfl) (fun h=>eW A_131 Z_131 (Ht rfl) (i:=2) rfl rfl rfl)) (fX rfl rfl (eU rfl rfl (Ht rfl) (fun h=>cZ Tryz.call80 (Ls (x:=gm s i j) (y:=gm s i j) (L:=L) (M:=L) hL hL) ⟨(fW rfl h),(fW rfl h),trivial⟩)) (fX rfl rfl (eU rfl rfl (Ht rfl) (fun h=>eH (fW rfl h))) (ro rfl (kX (Ht rfl) (fun h=>(fW rfl h))) (eZ (fN (Ht rfl) (by simp) ?_)))))
   refine cU (bH (cY (ro rfl (dW (Ht rfl) (cJ 1) z6) (rm rfl (eZ (bL [0,1] rfl (by decide) (gQ (j + 1) hf zo (zS rfl) (dL.refl _))))))))
  ·refine gK rfl (bH (cY (ro rfl (dW (Ht rfl) (cJ 1) z6) (rm rfl (eZ (bL [0,1] rfl (by decide) (gQ (i + 1) hd zo (zS rfl) (dL.refl _))))))))
 ·refine gK rfl (ts (ro rfl (cQ cV) (eZ ?_)))
  exact fK rfl (eY rfl)
end
section
open Go Go.RowKit
theorem jY (x:Int) {b:Int} (h:0 < b):-b < x.tmod b ∧ x.tmod b < b:=by
 by_cases hx:0 ≤ x
 ·rw [Int.tmod_eq_emod_of_nonneg hx]
  have h1:=Int.emod_nonneg x (by omega:b ≠ 0)
  have h2:=Int.emod_lt_of_pos x h
  omega
 ·have e : x.tmod b = -((-x).tmod b) := by rw [Int.neg_tmod, Int.neg_neg]
  rw [e,Int.tmod_eq_emod_of_nonneg (by omega:0 ≤ -x)]
  have h1:=Int.emod_nonneg (-x) (by omega:b ≠ 0)
  have h2:=Int.emod_lt_of_pos (-x) h
  omega
def pK (x:Int):Int:=if x < 0 then -x else x
theorem rV {x:Int} {b:Int} (h:-b < x ∧ x < b):0 ≤ pK x ∧ pK x < b:=by unfold pK; split <;> omega
def Al (r:Rt):Rt where
 re:=r.re.tmod 9
 im:=r.im.tmod 9
 den:=pK (r.den.tmod 4) + 1
 h1:=by have:=jY r.re (b:=9) (by decide); omega
 h2:=by have:=jY r.re (b:=9) (by decide); omega
 h3:=by have:=jY r.im (b:=9) (by decide); omega
 h4:=by have:=jY r.im (b:=9) (by decide); omega
 h5:=by have:=rV (jY r.den (b:=4) (by decide)); omega
 h6:=by have:=rV (jY r.den (b:=4) (by decide)); omega
def Vq (r:Rt):Rt where
 re:=pK (Al r).re + 1
 im:=0
 den:=(Al r).den
 h1:=by have:=rV (jY r.re (b:=9) (by decide)); show _ ≤ pK (r.re.tmod 9) + 1; omega
 h2:=by have:=rV (jY r.re (b:=9) (by decide)); show pK (r.re.tmod 9) + 1 ≤ _; omega
 h3:=by decide
 h4:=by decide
 h5:=(Al r).h5
 h6:=(Al r).h6
def Jo (l:List Rt) (i:Nat):Rt:=if l.length = 0 then default else l.getD (i % l.length) default
def lO (a:Nat):Nat:=a % 4 + 1
def oW (a:Nat) (zl:List Rt):List Rt:=tab (lO a) fun i=>Vq (Jo zl i)
def tV (a:Nat) (sl:List Rt):List (List Rt):=tab (lO a) fun i=>tab (lO a) fun j=>Al (Jo sl (lO a * i + j))
theorem Ze (r:Rt):kA (Vq r).q = true:=by
 have h1:=rV (jY r.re (b:=9) (by decide))
 have h2:=rV (jY r.den (b:=4) (by decide))
 have hd : (Vq r).d = pK (r.den.tmod 4) + 1 := by
  show (if pK (r.den.tmod 4) + 1 = 0 then 1 else pK (r.den.tmod 4) + 1) = _
  rw [if_neg zo]
 have hq:(Vq r).q = Qi.frac (pK (r.re.tmod 9) + 1) 0 (pK (r.den.tmod 4) + 1):=by rw [Rt.q,hd]; rfl
 have hb:(Vq r).q.b = 0:=Qi.b_zero.2 (by rw [hq]; show ((0:Int):Rat) / _ = 0; rw [Rat.div_def]; exact Rat.zero_mul _)
 have ha : 0 < (Vq r).q.a := by
  rw [Qi.a_pos,hq]
  show (0:Rat) < ((pK (r.re.tmod 9) + 1:Int):Rat) / ((pK (r.den.tmod 4) + 1:Int):Rat)
  rw [Rat.div_def]
  refine Rat.mul_pos (Rat.intCast_pos.2 zo) (Rat.inv_pos.2 (Rat.intCast_pos.2 zo))
 simp only [kA,hb,ha,and_self,decide_true]
theorem yW (a:Nat) (zl sl:List Rt):cD ((oW a zl).map Rt.q) (rq (tV a sl)) = 0:=by
 have hz:((oW a zl).map Rt.q).length = lO a:=by rw [List.length_map,oW,aO]
 have hs:(rq (tV a sl)).length = lO a:=by rw [List.length_map,tV,aO]
 have hn:lO a ≤ 4:=by unfold lO; omega
 have hn1:1 ≤ lO a:=by unfold lO; omega
 rw [cD,if_neg,if_pos]
 ·rw [List.all_eq_true]
  intro x hx
  obtain ⟨r,hr,rfl⟩:=List.mem_map.1 hx
  obtain ⟨i,_,rfl⟩:=jB.1 hr
  exact Ze _
 ·rw [hz, hs]
  rintro (h | h | h | h)
  ·omega
  ·omega
  ·exact h rfl
  ·obtain ⟨r, hr, h2⟩ := List.any_eq_true.1 h
   obtain ⟨y,hy,rfl⟩:=List.mem_map.1 hr
   obtain ⟨i,_,rfl⟩:=jB.1 hy
   simp [aO] at h2
def sV (x : Qi) (l m : List Qi) : Nat → Qi
 | 0=>x
 | k + 1=>sV x l m k + gv l k * gv m k
theorem Ig {x : Qi} {l m : List Qi} {L M : Nat} (hx : aN x M) (hl : cC l L) (hm : cC m L) (hL : 1 ≤ L) : ∀ k, aN (sV x l m k) (M + k * (2 * L + 2))
 | 0=>hx.le zo
 | k + 1 => by
  haveI f1:=Ig hx hl hm hL k
  haveI f2:=hl.get hL k
  haveI f3:=hm.get hL k
  have:aN (sV x l m (k + 1)) (M + k * (2 * L + 2) + (L + L + 1) + 1):=by unfold sV; infer_instance
  exact this.le (by rw [Nat.add_mul]; omega)
end
section
open Go Go.RowKit
theorem Au {n : Nat} {E : cF} {H : Hp} {d : Option Tmp} {t : TypeId} {pos : String} {af : Array Edge} {g : Option (Nat × Bool)} {x0 x1 x2 : Operand} {T0 T1 T2 : Ty} [s0 : dC T0 1 false] (h0 : bC E x0 T0) [s1 : dC T1 1 false] (h1 : bC E x1 T1) [s2 : dC T2 1 false] (h2 : bC E x2 T2) :
  aF Tryz.prog n E H ⟨d,.build 102 #[(0,x0),(1,x1),(2,x2)],t,pos,af,g⟩ (eD [T0,T1,T2]) :=
 iA (parts := [(0, x0), (1, x1), (2, x2)]) fun a V w hs => by
  have p0:=h0 n V a hs
  generalize e0:a.eval x0 = v0 at p0
  have q0:=(s0.ok v0 V p0).2.2 rfl
  have p1:=h1 n V a hs
  generalize e1:a.eval x1 = v1 at p1
  have q1:=(s1.ok v1 V p1).2.2 rfl
  have p2:=h2 n V a hs
  generalize e2:a.eval x2 = v2 at p2
  have q2:=(s2.ok v2 V p2).2.2 rfl
  refine ⟨.agg #[v0,v1,v2],?_,[v0,v1,v2],rfl,aW (⟨p0,q0⟩) (aW (⟨p1,q1⟩) (aW (⟨p2,q2⟩) (aG)))⟩
  simp [e0,e1,e2,Instr.build,Instr.fill,Sem.run_bind,Result.andThen,fI,q0.cells,q1.cells,q2.cells,O_102,U_102,Z_2]
end
section
open Go Go.RowKit
theorem a2I {x:Qi} {l m:List Qi} {L M n:Nat} (hx:aN x M) (hl:cC l L) (hm:cC m L) (hL:1 ≤ L) (hll:l.length = n) (hml:m.length = n) (hn:n ≤ 1000) (hb:M + n * (2 * L + 2) ≤ 17592186044415):bB Tryz.prog 123 [aE x,bA l,bA m] (aE (sV x l m n)):=by
 refine bB.intro Tryz.func123 rfl Tryz.ntmps123 rfl (fun cx=>(ts (rn rfl (fU (Ht rfl)) fun B3=>(rn rfl (eG (Ts:=[Is (.bool false),Is (.slice none 0 0),Is (.bool false),Is (.slice none 0 0),Is (.slice none 0 0)]) O_51 rfl (fun V=>aW zd (aW zd (aW zd (aW zd (aW zd (aG))))))) fun B6=>(eZ (cK (ts (rm rfl (ro rfl (dK U_29 (Ht rfl) (by rw [List.length_map,hll])) ?_)))))))))
 refine ro rfl (cX (cJ 0)) (eZ (eK ?_))
 refine cM (fun (k : Nat) => k ≤ n) (fun (k : Nat) => n - k) (fun (k : Nat) => [(1, bA l), (2, bA m), (3, bO B3 0), (6, bO B6 0), (9, NT .i64 n), (10, NT .i64 k)]) (fun (k : Nat) => [box B3 51 [aC (decide ((sV x l m k).a < 0)), aH (sV x l m k).a.natAbs, aC (decide ((sV x l m k).b < 0)), aH (sV x l m k).b.natAbs, aH (du (sV x l m k))], box B6 51 [Is (.bool false), Is (.slice none 0 0), Is (.bool false), Is (.slice none 0 0), Is (.slice none 0 0)]]) 0 (Nat.zero_le _)
  (zS rfl) (dL.refl _) (fun k hk=>?_)
 refine ts (ro rfl (gV (Ht rfl) (Ht rfl)) (eZ (cK (dQ (Ht rfl) (fun hd=>?_) (fun hd=>?_)))))
 ·simp only [decide_eq_true_eq] at hd
  haveI f1:=Ig hx hl hm hL k
  haveI f2:=hl.get hL k
  haveI f3:=hm.get hL k
  have hkn:(k + 1) * (2 * L + 2) ≤ n * (2 * L + 2):=Nat.mul_le_mul_right _ hd
  rw [Nat.add_mul] at hkn
  refine cU (cK (eK (ts (rm rfl (ra rfl (eZ (fV (m:=12) (dp 3 rfl (eW A_51 Z_51 (Ht rfl) (i:=0) rfl rfl rfl) (dq 13 0 rfl (bD bN (Ht rfl)) (dp 1 rfl (cX (Ht rfl)) (dp 7 rfl (cX (Ht rfl)) (dS 15 2 16 3 rfl (dZ U_29 Z_51 (Ht rfl) (Ht rfl) rfl (eQ (dY (d:=Qi.zero) zo))) (dq 17 4 rfl (dV A_51 Z_51 (Ht rfl)) (dq 18 5 rfl (bD bN (Ht rfl)) (dp 2 rfl (cX (Ht rfl)) (dp 7 rfl (cX (Ht rfl)) (dS 20 7 21 8 rfl (dZ U_29 Z_51 (Ht rfl) (Ht rfl) rfl (eQ (dY (d:=Qi.zero) zo))) ?_)))))))))))))))))
  refine dq 22 9 rfl (dV A_51 Z_51 (Ht rfl)) (dS 19 6 23 10 rfl (aP cI K_45 (kW (x:=gv l k) (y:=gv m k) (L:=L) (M:=L) zo) (Ht rfl) ⟨(Ht rfl),trivial⟩) (fG bF rfl (by kernel_rfl) (zF (zF (zF (aV (ro rfl (aP lG K_46 (yB (x:=sV x l m k) (y:=gv l k * gv m k) (L:=M + k * (2 * L + 2)) (M:=L + L + 1) zo) (Ht rfl) ⟨(Ht rfl),trivial⟩) (gJ Z_51 (Ht rfl) (Ht rfl) rfl (i:=0) rfl (aK rfl) rfl rfl ?_))))))))
  refine eZ (bH (cY (ro rfl (dW (Ht rfl) (cJ 1) z6) (rm rfl (eZ (gQ (k + 1) hd zo (zS rfl) (dL.refl _)))))))
 ·simp only [decide_eq_false_iff_not] at hd
  obtain rfl:k = n:=Nat.le_antisymm hk zo
  refine gK rfl (ts (ro rfl (eW A_51 Z_51 (Ht rfl) (i:=0) rfl rfl rfl) (gJ Z_51 (Ht rfl) (Ht rfl) rfl (i:=1) rfl (aK rfl) rfl rfl (eZ ?_))))
  exact fK rfl (fY A_51 Z_51 rfl (i:=1) rfl rfl)
theorem Mb {r:Rt}:bB Tryz.prog 130 [lZ r] (lZ (Al r)):=by
 have b1:=jY r.den (b:=4) (by decide)
 refine bB.intro Tryz.func130 rfl Tryz.ntmps130 rfl (fun cx=>(ts (rn rfl (fU (Ht rfl)) fun B1=>(rn rfl (eG (Ts:=[Is (.int .i64 0),Is (.int .i64 0),Is (.int .i64 0)]) O_102 rfl (fun V=>aW zd (aW zd (aW zd (aG))))) fun B2=>(eZ (ts (ro rfl (eJ mU (Ht rfl) rfl) (ro rfl (fQ A_2 Z_2 (Ht rfl) (i:=0) rfl rfl) (ro rfl (Cn (Ht rfl) cV (by decide) rfl) (ra rfl (eZ (cK (jG (fun (d:Int)=>d = pK (r.den.tmod 4)) (fun (d:Int)=>[(1,bO B1 0),(2,bO B2 0),(3,aD .i64 d)]) (fun (d:Int)=>[box B1 102 [aD .i64 r.re,aD .i64 r.im,aD .i64 r.den],box B2 102 [Is (.int .i64 0),Is (.int .i64 0),Is (.int .i64 0)]]) ?_ (fun d hd=>?_))))))))))))))
 ·refine ts (rm rfl (ro rfl (qO (Ht rfl) cV) (eZ (dQ (Ht rfl) (fun hb => ?_) (fun hb => ?_)))))
  ·have hb2 : r.den.tmod 4 < 0 := of_decide_eq_true hb
   refine cY (rm rfl (ro rfl (Ey (Ht rfl) (tD zo)) (ra rfl (eZ (aT (-(r.den.tmod 4)) (by rw [pK,if_pos hb2]) (zS rfl) (dL.refl _))))))
  ·have hb2 : ¬ r.den.tmod 4 < 0 := of_decide_eq_false hb
   refine cU (aT (r.den.tmod 4) (by rw [pK,if_neg hb2]) (zS rfl) (dL.refl _))
 ·have b2 := rV b1
  rw [← hd] at b2
  refine ts (ro rfl (eJ oB (Ht rfl) rfl) (ro rfl (fQ A_2 Z_2 (Ht rfl) (i:=0) rfl rfl) (ro rfl (Cn (Ht rfl) cV (by decide) rfl) (ro rfl (eJ yY (Ht rfl) rfl) (ro rfl (fQ A_2 Z_2 (Ht rfl) (i:=0) rfl rfl) (ro rfl (Cn (Ht rfl) cV (by decide) rfl) (rm rfl (ro rfl (zT (Ht rfl) cV (tD zo)) (ro rfl (Au (Ht rfl) (Ht rfl) (Ht rfl)) (gJ Z_102 (Ht rfl) (Ht rfl) rfl (i:=1) rfl (aK rfl) rfl rfl (eZ (fK rfl (fJ (fY A_102 Z_102 rfl (i:=1) rfl rfl) ?_)))))))))))))
  exact (fun v V h=>by rw [hd] at h; exact h)
theorem Zk {r:Rt}:bB Tryz.prog 83 [lZ r] (lZ (Vq r)):=by
 have b1:-9 < (Al r).re ∧ (Al r).re < 9:=jY r.re (b:=9) (by decide)
 refine bB.intro Tryz.func83 rfl Tryz.ntmps83 rfl (fun cx=>(ts (rn rfl (fU (Ht rfl)) fun B1=>(rn rfl (eG (Ts:=[Is (.int .i64 0),Is (.int .i64 0),Is (.int .i64 0)]) O_102 rfl (fun V=>aW zd (aW zd (aW zd (aG))))) fun B2=>(eZ (ts (ro rfl (eW A_102 Z_102 (Ht rfl) (i:=0) rfl rfl rfl) (ro rfl (cZ Tryz.call130 Mb ⟨(Ht rfl),trivial⟩) (rn rfl (eG (Ts:=[Is (.int .i64 0),Is (.int .i64 0),Is (.int .i64 0)]) O_102 rfl (fun V=>aW zd (aW zd (aW zd (aG))))) fun B3=>?_)))))))))
 refine gJ Z_102 (Ht rfl) (Ht rfl) rfl (i:=2) rfl (aK rfl) rfl rfl (eZ (cK (jG (fun (x:Int)=>x = pK (Al r).re) (fun (x:Int)=>[(1,bO B1 0),(2,bO B2 0),(3,bO B3 0)]) (fun (x:Int)=>[box B1 102 [aD .i64 r.re,aD .i64 r.im,aD .i64 r.den],box B2 102 [Is (.int .i64 0),Is (.int .i64 0),Is (.int .i64 0)],box B3 102 [aD .i64 x,aD .i64 (Al r).im,aD .i64 (Al r).den]]) ?_ (fun x hx=>?_))))
 ·refine ts (ro rfl (eJ oB (Ht rfl) rfl) (ro rfl (fQ A_2 Z_2 (Ht rfl) (i := 2) rfl rfl) (ro rfl (qO (Ht rfl) cV) (eZ (dQ (Ht rfl) (fun hb => ?_) (fun hb => ?_))))))
  ·have hb2 : (Al r).re < 0 := of_decide_eq_true hb
   refine cY (ro rfl (eJ oB (Ht rfl) rfl) (ro rfl (fQ A_2 Z_2 (Ht rfl) (i:=2) rfl rfl) (ro rfl (Ey (Ht rfl) (tD zo)) (ro rfl (eJ oB (Ht rfl) rfl) (jL Z_2 (Ht rfl) (Ht rfl) (i:=2) rfl (aK rfl) rfl (eZ (aT (-((Al r).re)) (by rw [pK,if_pos hb2]) (zS rfl) (dL.refl _))))))))
  ·have hb2 : ¬ (Al r).re < 0 := of_decide_eq_false hb
   refine cU (aT ((Al r).re) (by rw [pK,if_neg hb2]) (zS rfl) (dL.refl _))
 ·have b2 := rV b1
  rw [← hx] at b2
  refine ts (ro rfl (eJ oB (Ht rfl) rfl) (ro rfl (fQ A_2 Z_2 (Ht rfl) (i:=2) rfl rfl) (ro rfl (zT (Ht rfl) cV (tD zo)) (ro rfl (eJ mU (Ht rfl) rfl) (ro rfl (fQ A_2 Z_2 (Ht rfl) (i:=2) rfl rfl) (ro rfl (wU (Ht rfl) (Ht rfl)) (gJ Z_102 (Ht rfl) (Ht rfl) rfl (i:=1) rfl (aK rfl) rfl rfl (eZ (fK rfl (fJ (fY A_102 Z_102 rfl (i:=1) rfl rfl) ?_))))))))))
  exact (fun v V h=>by rw [hx] at h; exact h)
theorem Tt {l:List Rt} {i:Nat}:bB Tryz.prog 131 [lV l,NT .i64 i] (lZ (Jo l i)):=by
 refine bB.intro Tryz.func131 rfl Tryz.ntmps131 rfl (fun cx=>(ts (rn rfl (eG (Ts:=[Is (.int .i64 0),Is (.int .i64 0),Is (.int .i64 0)]) O_102 rfl (fun V=>aW zd (aW zd (aW zd (aG))))) fun B4=>(eZ (cK (ts (rm rfl (ro rfl (dK U_22 (Ht rfl) aA) (ro rfl (cB (Ht rfl) (cJ 0)) (eZ (dQ (Ht rfl) (fun hb=>?_) (fun hb=>?_))))))))))))
 ·have hb2 : l.length = 0 := by simpa only [decide_eq_true_eq] using hb
  refine ts (ro rfl (Ua ) (gJ Z_102 (Ht rfl) (Ht rfl) rfl (i:=0) rfl (aK rfl) rfl rfl (eZ (fK rfl (fJ (fY A_102 Z_102 rfl (i:=0) rfl rfl) ?_)))))
  exact (fun v V h=>by rw [Jo,if_pos hb2]; exact h)
 ·have hb2 : ¬ l.length = 0 := by simpa only [decide_eq_false_iff_not] using hb
  have hm:=Nat.mod_lt i (Nat.pos_of_ne_zero hb2)
  refine cU (ts (rm rfl (rm rfl (rm rfl (ro rfl (dK U_22 (Ht rfl) aA) (ro rfl (kN (Ht rfl) (Ht rfl) zo) (ro rfl (dZ U_22 Z_102 (Ht rfl) (Ht rfl) rfl (eQ (dY (d:=default) hm))) (ro rfl (dV A_102 Z_102 (Ht rfl)) (gJ Z_102 (Ht rfl) (Ht rfl) rfl (i:=0) rfl (aK rfl) rfl rfl (eZ (fK rfl (fJ (fY A_102 Z_102 rfl (i:=0) rfl rfl) ?_))))))))))))
  exact (fun v V h=>by rw [Jo,if_neg hb2]; exact h)
end
section
open Go Go.RowKit
theorem Cw (a:Addr) (w:World):(Instr.fieldAt 57 (.pointer (some a)) 0).run Tryz.prog w = .ok (.pointer (some (a.add 0))) w:=by
 simp [Instr.fieldAt,Instr.sureAddr,fieldPlace,Sem.run_bind,Result.andThen,U_57,Z_5]
theorem Wk (a:Addr) (w:World):(Instr.fieldAt 57 (.pointer (some a)) 1).run Tryz.prog w = .ok (.pointer (some (a.add 1))) w:=by
 simp [Instr.fieldAt,Instr.sureAddr,fieldPlace,Sem.run_bind,Result.andThen,U_57,Z_22]
theorem a01 (a:Addr) (w:World):(Instr.fieldAt 57 (.pointer (some a)) 2).run Tryz.prog w = .ok (.pointer (some (a.add 2))) w:=by
 simp [Instr.fieldAt,Instr.sureAddr,fieldPlace,Sem.run_bind,Result.andThen,U_57,Z_22]
theorem Hv:Tryz.prog.info? 102 = some Tryz.t102:=by kernel_rfl
theorem Yn:Tryz.prog.info? 22 = some Tryz.t22:=by kernel_rfl
theorem Sc:Tryz.prog.underlying 22 = some (.slice 102):=by kernel_rfl
end
section
open Go Go.RowKit
abbrev zZ (a:Nat) (zl sl:List Rt):Ty:=eD [NT .u8 a,lV zl,lV sl]
theorem Vc:∀ V,(lZ default).p (.agg #[.int .i64 0,.int .i64 0,.int .i64 0]) V:=fun V=>⟨[.int .i64 0,.int .i64 0,.int .i64 0],rfl,aW zd (aW zd (aW zd aG))⟩
theorem a3f {B e s l:Nat} {BT:TypeId} {Rs:List (List Ty)} {q:Value → Prop} (hl:l = Rs.length):∀ u S V,(Is (.slice (some ⟨B,0,none⟩) l l)).p u V → (sS q B BT e s Rs).h S V V → (jS 1 (Rs.map (jS s))).p u V:=fun u S V h1 h2=>Df hl (Nat.le_refl _) u S V h1 h2
theorem Uu (a:Nat) (sl:List Rt):(tab (lO a) fun i=>tab (lO a) fun j=>lZ (Al (Jo sl (lO a * i + j)))).map (jS 3) = (tV a sl).map lV:=by
 rw [tV,mN,mN]
 refine cP fun i _=>?_
 rw [lV,mN]
theorem Qe {a:Nat} {zl sl:List Rt} (ha:a < 256):jH Tryz.prog 103 [zZ a zl sl] [] (Nat) (fun B=>dN [lV (oW a zl),Is (.slice (some ⟨B,0,none⟩) (lO a) (lO a))]) (fun B=>[nJ B 22 102 3 (tab (lO a) (fun i=>tab (lO a) fun j=>lZ (Al (Jo sl (lO a * i + j)))))]) (fun _=>True):=by
 have hn:lO a ≤ 4:=by unfold lO; omega
 have hn0:a % 4 + 1 = lO a:=rfl
 refine jH.intro Tryz.func103 rfl Tryz.ntmps103 rfl (fun cx Z=>(ts (rn rfl (fU (Ht rfl)) fun B1=>(ro rfl (cQ cV) (ro rfl (cQ cV) (eZ (ts (ro rfl (eJ Cw (Ht rfl) rfl) (ro rfl (fQ A_5 Z_5 (Ht rfl) (i:=1) rfl rfl) (ro rfl (kN (Ht rfl) (cJ 4) zo) (ro rfl (gW U_5 U_3 (Ht rfl) z6) (ro rfl (aF.nat (dW (Ht rfl) (cJ 1) z6) hn0) ?_))))))))))))
 refine ra rfl (eZ (cK (fV (m:=5) (dp 4 rfl (cX (Ht rfl)) (C.D_new (Ei:=[(14,_)]) rfl rfl rfl (bV (bG 0 rfl rfl) bW) (gR (T:=lZ default) (i:=Tryz.t102) Sc Hv rfl rfl (Ht rfl) rfl Vc (El.ag rfl) (by show 24 * _ ≤ _; omega) zo) (dp 4 rfl (cX (Ht rfl)) (C.D_new (Ei:=[(16,_)]) rfl rfl rfl (bV (bG 2 rfl rfl) bW) (fS (T:=Is (.slice none 0 0)) (i:=Tryz.t22) Tryz.underlying23 Yn rfl rfl (Ht rfl) rfl (fun _=>rfl) trivial (by show 24 * _ ≤ _; omega) zo) (C.D_cpy 1 rfl rfl rfl rfl rfl C.cpy_assign ?_))))))))
 refine fG bF rfl (by kernel_rfl) (aJ (C.F_new (fun B15=>aJ (C.F_new (fun B17=>C.F_cpy rfl (aV (ra rfl (eZ (cK (ts (rm rfl (ro rfl (nS U_22 (Ht rfl) (i:=2) rfl (show ((List.replicate (lO a) (lZ default)).length:Int) = ((lO a:Nat):Int) from by simp)) (ro rfl (cX (cJ 0)) (eZ (eK (lT 3 rfl (uL (e:=102) (s:=3)) ?_))))))))))))))))
 refine cM (fun (i : Nat) => i ≤ lO a) (fun (i : Nat) => lO a - i) (fun (i : Nat) => [(1, bO B1 0), (4, NT .i64 (lO a)), (5, Is B15), (6, Is (.slice (some ⟨B17, 0, none⟩) (lO a) (lO a))), (19, NT .i64 (lO a)), (20, NT .i64 i)]) (fun (i : Nat) => [Z, box B1 57 [NT .u8 a, lV zl, lV sl], bM 102 3 B15 (jR (fun i => lZ (Vq (Jo zl i))) (lZ default) (lO a) i), nJ B17 22 102 3 (jR (fun i => tab (lO a) fun j => lZ (Al (Jo sl (lO a * i + j)))) [] (lO a) i)]) 0 (Nat.zero_le _)
  (aQ rfl (aQ rfl (aQ rfl (aQ rfl (aZ rfl (lL (by simp)) (zS rfl)))))) (aU (fun _ _ _ h=>h) (aU (aB rfl) (aU (aR (by rw [← iH]; exact vB _ _)) (aU (fA (by rw [← iH]; exact vB _ _)) aY)))) (fun i hi=>?_)
 refine ts (ro rfl (gV (Ht rfl) (Ht rfl)) (eZ (cK (dQ (Ht rfl) (fun hd=>?_) (fun hd=>?_)))))
 ·simp only [decide_eq_true_eq] at hd
  have hni:lO a * i ≤ 4 * 4:=Nat.mul_le_mul hn zo
  refine oS 3 (i) rfl (Mp hd) (fun v0=>(cU (cK (eK (ts (rm rfl (ra rfl (eZ (ts (rm rfl (rm rfl (ro rfl (eJ Wk (Ht rfl) rfl) (ro rfl (fQ A_22 Z_22 (Ht rfl) (i:=1) rfl rfl) (rm rfl (ro rfl (cZ Tryz.call131 Tt ⟨(Ht rfl),(Ht rfl),trivial⟩) (ro rfl (cZ Tryz.call83 Zk ⟨(Ht rfl),trivial⟩) (ro rfl (dE U_22 Z_102 (Ht rfl) (Ht rfl) rfl (i:=2) rfl (by rw [cO]; omega) rfl) ?_)))))))))))))))))
  refine kS Z_102 (Ht rfl) (Ht rfl) (El.ag rfl) (i:=2) rfl rfl (by rw [cO]; omega) rfl ?_
  refine eZ (ts (rm rfl (rm rfl (rm rfl (rn rfl (gR (T:=lZ default) (i:=Tryz.t102) Sc Hv rfl rfl (Ht rfl) rfl Vc (El.ag rfl) (by show 24 * _ ≤ _; omega) zo) fun B34=>(ro rfl (gX U_23 Z_22 (Ht rfl) (Ht rfl) rfl zo (by rw [Nat.mul_one,Nat.zero_add])) ?_))))))
  refine yX Z_22 (Ht rfl) (Ht rfl) (by rw [cO]; omega) (j:=3) (l:=5) rfl rfl rfl ?_
  refine eZ (cK (bL [0,1,2,3,5] rfl (by decide) (cY (rm rfl (rm rfl (ro rfl (gX U_23 Z_22 (Ht rfl) (Ht rfl) rfl zo (by rw [Nat.mul_one,Nat.zero_add])) ?_))))))
  refine ro rfl (mH A_22 Z_22 (Ht rfl) (j:=3) rfl) (ro rfl (nS U_22 (Ht rfl) (i:=4) rfl (show ((List.replicate (lO a) (lZ default)).length:Int) = ((lO a:Nat):Int) from by simp)) (ro rfl (cX (cJ 0)) (eZ (eK ?_))))
  refine cM (fun (j : Nat) => j ≤ lO a) (fun (j : Nat) => lO a - j) (fun (j : Nat) => [(1, bO B1 0), (4, NT .i64 (lO a)), (5, Is B15), (6, Is (.slice (some ⟨B17, 0, none⟩) (lO a) (lO a))), (7, NT .i64 i), (19, NT .i64 (lO a)), (20, NT .i64 i), (40, NT .i64 (lO a)), (41, NT .i64 j)]) (fun (j : Nat) => [Z, box B1 57 [NT .u8 a, lV zl, lV sl], bM 102 3 B15 (jR (fun i => lZ (Vq (Jo zl i))) (lZ default) (lO a) (i + 1)), Gx B17 22 102 3 (jR (fun i => tab (lO a) fun j => lZ (Al (Jo sl (lO a * i + j)))) [] (lO a) i) i B34, bM 102 3 B34 (jR (fun j => lZ (Al (Jo sl (lO a * i + j)))) (lZ default) (lO a) j)]) 0 (Nat.zero_le _)
   (zS rfl) (aU (fun _ _ _ h=>h) (aU (aB rfl) (aU (aR (jI (f:=(fun i=>lZ (Vq (Jo zl i)))))) (aU (fun _ _ _ h=>h) (aU (aR (by rw [← iH]; exact vB _ _)) aY))))) (fun j hj=>?_)
  refine ts (ro rfl (gV (Ht rfl) (Ht rfl)) (eZ (cK (dQ (Ht rfl) (fun he=>?_) (fun he=>?_)))))
  ·simp only [decide_eq_true_eq] at he
   refine cU (cK (eK (ts (rm rfl (ra rfl (eZ (fV (m:=14) (dp 6 rfl (cX (Ht rfl)) (dp 7 rfl (cX (Ht rfl)) (dS 44 0 45 1 rfl (gX U_23 Z_22 (Ht rfl) (Ht rfl) rfl zo (by rw [Nat.mul_one,Nat.zero_add])) ?_))))))))))
   refine dq 46 2 rfl (mH A_22 Z_22 (Ht rfl) (j:=3) rfl) (dp 8 rfl (cX (Ht rfl)) (dp 1 rfl (eJ a01 (Ht rfl) rfl) (dq 49 5 rfl (fQ A_22 Z_22 (Ht rfl) (i:=1) rfl rfl) (dp 4 rfl (cX (Ht rfl)) (dp 7 rfl (cX (Ht rfl)) (dS 51 7 52 8 rfl (kQ (Ht rfl) (Ht rfl) (by show _ < 9223372036854775808; omega)) (dp 8 rfl (cX (Ht rfl)) (dS 53 9 54 10 rfl (dW (Ht rfl) (Ht rfl) (by show _ < 9223372036854775808; omega)) (dS 50 6 55 11 rfl (cZ Tryz.call131 Tt ⟨(Ht rfl),(Ht rfl),trivial⟩) (dq 56 12 rfl (cZ Tryz.call130 Mb ⟨(Ht rfl),trivial⟩) ?_))))))))))
   refine fG bF rfl (by kernel_rfl) (zF (zF (zF (aJ (aJ (aV (ro rfl (dE U_22 Z_102 (Ht rfl) (Ht rfl) rfl (i:=4) rfl (by rw [cO]; omega) rfl) ?_)))))))
   refine kS Z_102 (Ht rfl) (Ht rfl) (El.ag rfl) (i:=4) rfl rfl (by rw [cO]; omega) rfl ?_
   refine eZ (bH (cY (ro rfl (dW (Ht rfl) (cJ 1) z6) (rm rfl (eZ (gQ (j + 1) he zo (zS rfl) (aU (fun _ _ _ h=>h) (aU (aB rfl) (aU (fun _ _ _ h=>h) (aU (fun _ _ _ h=>h) (aU (aR (jI (f:=fun j=>lZ (Al (Jo sl (lO a * i + j)))))) aY)))))))))))
  ·simp only [decide_eq_false_iff_not] at he
   have hjn:j = lO a:=Nat.le_antisymm hj zo
   rw [hjn,jJ]
   refine gK rfl (bH (kR 3 4 rfl rfl (by decide) (by rw [cO]; omega) ?_))
   refine cY (ro rfl (dW (Ht rfl) (cJ 1) z6) (rm rfl (eZ (bL [0,1,2,3] rfl (by decide) (gQ (i + 1) hd zo (zS rfl) (aU (fun _ _ _ h=>h) (aU (aB rfl) (aU (fun _ _ _ h=>h) (aU (fA (jI (f:=(fun i=>tab (lO a) fun j=>lZ (Al (Jo sl (lO a * i + j))))))) aY)))))))))
 ·simp only [decide_eq_false_iff_not] at hd
  have hin:i = lO a:=Nat.le_antisymm hi zo
  rw [hin,jJ,jJ]
  refine gK rfl (gG (i:=2) (tt:=5) rfl rfl fP (ts (rm rfl (rm rfl (ra rfl (ra rfl (eZ ?_)))))))
  exact lR B17 trivial [0,3] ⟨⟨_,rfl,fun _ _ _ h=>h⟩,⟨_,rfl,fun _ _ _ h=>h⟩,trivial⟩ (by decide) (a0T rfl (fJ (eY rfl) (kB (by rw [oW,mN]))) (eY rfl))
theorem a3a {T U U':Ty} {v:Value} {V:aS} (h:(dN [T,U]).p v V) (hU:∀ u,U.p u V → U'.p u V):(dN [T,U']).p v V:=by
 obtain ⟨vs,h1,h2⟩:=h
 match vs,h2 with
 | [x,y],⟨a,b,c⟩=>exact ⟨[x,y],h1,a,hU y b,c⟩
theorem Zx {a : Nat} {zl sl : List Rt} (ha : a < 256) : bB Tryz.prog 103 [zZ a zl sl] (dN [lV (oW a zl), Pv (tV a sl)]) := (Qe ha).fun fun B _ v S V h1 h2 => a3a h1 fun u hu => by
 exact kB (Uu a sl) u V (a3f (aO _ _).symm u S V hu h2)
theorem Dw {a:Nat} {zl sl:List Rt} (ha:a < 256):bB Tryz.prog 21 [zZ a zl sl] (dN [bR ((oW a zl).map Rt.q) (rq (tV a sl)),sY ((oW a zl).map Rt.q) (rq (tV a sl)),aC true]):=by
 have hn:lO a ≤ 4:=by unfold lO; omega
 have herr:=yW a zl sl
 have hzl:(oW a zl).length = lO a:=aO _ _
 have hsl:(tV a sl).length = lO a:=aO _ _
 have hall:∀ r,r ∈ tV a sl → r.length ≤ 1000:=fun r hr=>by obtain ⟨i,_,rfl⟩:=jB.1 hr; rw [aO]; omega
 have hsh:=(mK herr).2.2.1
 have z1:((oW a zl).map Rt.q).length ≤ 1000:=by rw [List.length_map,hzl]; omega
 have s1:(rq (tV a sl)).length ≤ 1000:=by rw [List.length_map,hsl]; omega
 have hcv:∀ v V,(dN [bR (iI (cD ((oW a zl).map Rt.q) (rq (tV a sl))) ((oW a zl).map Rt.q)) (iI (cD ((oW a zl).map Rt.q) (rq (tV a sl))) (rq (tV a sl))),aD .i64 (cD ((oW a zl).map Rt.q) (rq (tV a sl)))]).p v V → (dN [bR ((oW a zl).map Rt.q) (rq (tV a sl)),aD .i64 0]).p v V:=by rw [herr]; exact fun _ _ h=>h
 have hcv2:∀ v V,(dN [sY (iI (cD ((oW a zl).map Rt.q) (rq (tV a sl))) ((oW a zl).map Rt.q)) (iI (cD ((oW a zl).map Rt.q) (rq (tV a sl))) (rq (tV a sl))),aD .i64 (cD ((oW a zl).map Rt.q) (rq (tV a sl)))]).p v V → (dN [sY ((oW a zl).map Rt.q) (rq (tV a sl)),aD .i64 0]).p v V:=by rw [herr]; exact fun _ _ h=>h
 refine bB.intro Tryz.func21 rfl Tryz.ntmps21 rfl (fun cx=>(ts (rn rfl (fU (Ht rfl)) fun B1=>(rn rfl (eG (Ts:=[Is (.slice none 0 0),Is (.slice none 0 0)]) O_32 rfl (fun V=>aW zd (aW zd (aG)))) fun B2=>(rn rfl (eG (Ts:=[Is (.slice none 0 0),Is (.slice none 0 0)]) O_38 rfl (fun V=>aW zd (aW zd (aG)))) fun B3=>(ro rfl (cQ cV) (eZ (ts (ro rfl (eW A_57 Z_57 (Ht rfl) (i:=0) rfl rfl rfl) (ro rfl (cZ Tryz.call103 (Zx ha) ⟨(Ht rfl),trivial⟩) ?_))))))))))
 refine rm rfl (ro rfl (dU (Ht rfl) rfl) (ro rfl (dU (Ht rfl) rfl) (ra rfl (ra rfl (eZ (ts (rm rfl (ro rfl (cZ Tryz.call48 (wS zo) ⟨(Ht rfl),trivial⟩) (rm rfl (ro rfl (cZ Tryz.call86 (Bh zo hall) ⟨(Ht rfl),trivial⟩) (ro rfl (cZ Tryz.call85 (eX (vF (z:=((oW a zl).map Rt.q)) (s:=(rq (tV a sl))) (L:=2) cC.rt (by decide) z1 s1) hcv) ⟨(Ht rfl),(Ht rfl),trivial⟩) (rm rfl (ro rfl (dU (Ht rfl) rfl) (ro rfl (dU (Ht rfl) rfl) (rn rfl (eG (Ts:=[Is (.slice none 0 0),Is (.slice none 0 0)]) O_32 rfl (fun V=>aW zd (aW zd (aG)))) fun B7=>?_)))))))))))))))
 refine gJ Z_32 (Ht rfl) (Ht rfl) rfl (i:=3) rfl (aK rfl) rfl rfl (ra rfl (eZ (ts (rm rfl (ro rfl (cZ Tryz.call104 (zI zo) ⟨(Ht rfl),trivial⟩) (rm rfl (ro rfl (cZ Tryz.call105 (Iw zo hall) ⟨(Ht rfl),trivial⟩) (ro rfl (cZ Tryz.call90 (eX (Nm (z:=((oW a zl).map Rt.q)) (s:=(rq (tV a sl))) (L:=2) cC.rt (by decide) z1 s1) hcv2) ⟨(Ht rfl),(Ht rfl),trivial⟩) (rm rfl (ro rfl (dU (Ht rfl) rfl) (ro rfl (dU (Ht rfl) rfl) (rn rfl (eG (Ts:=[Is (.slice none 0 0),Is (.slice none 0 0)]) O_38 rfl (fun V=>aW zd (aW zd (aG)))) fun B9=>?_))))))))))))
 refine gJ Z_38 (Ht rfl) (Ht rfl) rfl (i:=4) rfl (aK rfl) rfl rfl (ra rfl (eZ (cK (Y.D_start (m:=11) [(9,1,box B2 32 [bA ((oW a zl).map Rt.q),dM (rq (tV a sl))]),(10,2,box B3 38 [Ff ((oW a zl).map Rt.q),QM (rq (tV a sl))])] (Y.D_step (Ei:=[(7,_)]) rfl rfl (bQ (bJ rfl rfl) bX) rfl rfl (by kernel_rfl) (dX rfl (eW A_32 Z_32 (Ht rfl) (i:=3) rfl rfl rfl)) (bY (Ei:=[(9,_)]) rfl rfl (bQ (bJ rfl rfl) bX) rfl rfl (dX rfl (eW A_38 Z_38 (Ht rfl) (i:=4) rfl rfl rfl)) ?_))))))
 refine Y.D_step (Ei:=[(8,_)]) rfl rfl (bQ (bJ rfl rfl) bX) rfl rfl (by kernel_rfl) (dX rfl (cX (Ht rfl))) (Y.D_step (Ei:=[(34,_)]) rfl rfl (bQ (bZ 2 rfl rfl) bX) rfl rfl (by kernel_rfl) (dX rfl (iW (Ht rfl) cV)) (Y.D_step (Ei:=[(35,_)]) rfl rfl (bQ (bZ 3 rfl rfl) bX) rfl rfl (by kernel_rfl) (dX rfl (cX (Ht rfl))) (Y.D_step (Ei:=[(7,_),(36,_)]) rfl rfl (bQ (bJ rfl rfl) (bQ (bZ 4 rfl rfl) bX)) rfl rfl (by kernel_rfl) (eU rfl rfl (Ht rfl) (fun h=>eW A_32 Z_32 (Ht rfl) (i:=3) rfl rfl rfl)) ?_)))
 refine Y.D_step (Ei:=[(9,_),(36,_)]) rfl rfl (bQ (bJ rfl rfl) (bQ (bZ 4 rfl rfl) bX)) rfl rfl (by kernel_rfl) (eU rfl rfl (Ht rfl) (fun h=>eW A_38 Z_38 (Ht rfl) (i:=4) rfl rfl rfl)) (Y.D_step (Ei:=[(37,_),(38,_),(36,_)]) rfl rfl (bQ (bZ 5 rfl rfl) (bQ (bZ 6 rfl rfl) (bQ (bZ 4 rfl rfl) bX))) rfl rfl (by kernel_rfl) (eU rfl rfl (Ht rfl) (fun h=>cZ Tryz.call70 (a2M (z:=((oW a zl).map Rt.q)) (s:=(rq (tV a sl))) (L:=2) cC.rt bT.rt (by decide) (by decide) hsh z1) ⟨(fW rfl h),(fW rfl h),trivial⟩)) ?_)
 refine bY (Ei:=[(36,_),(39,_)]) rfl rfl (bQ (bZ 4 rfl rfl) (bQ (bZ 7 rfl rfl) bX)) rfl rfl (dX rfl (eA (Ht rfl) (fun h=>(fW rfl h)))) (Y.D_putI (Ei:=[(2,_),(32,_)]) 1 rfl rfl rfl (bQ (bJ rfl rfl) (bQ (bZ 0 rfl rfl) bX)) (.head _) rfl (lQ Z_32 (Ht rfl) (Ht rfl) rfl (i:=0) rfl (aK rfl) rfl rfl) (Y.D_putI (Ei:=[(3,_),(33,_)]) 2 rfl rfl rfl (bQ (bJ rfl rfl) (bQ (bZ 1 rfl rfl) bX)) (.tail _ (.head _)) rfl (lQ Z_38 (Ht rfl) (Ht rfl) rfl (i:=0) rfl (aK rfl) rfl rfl) ?_))
 refine Y.D_done bF rfl (by kernel_rfl) rfl (by simp [Y.okP]) rfl rfl (bU (bU (bU (bU (bU (bU (bU (bU (bU (Y.F_putI (Y.F_putI (Y.F_nil ?_))))))))))))
 refine ra rfl (eZ (Kh rfl (fY A_32 Z_32 rfl (i:=1) rfl rfl) (fY A_38 Z_38 rfl (i:=2) rfl rfl) (fJ (eY rfl) ?_)))
 exact (eN (by simp))
end
section
open Go Go.RowKit
namespace Qi
def npow' (x : Qi) : Nat → Qi
 | 0=>Qi.ofInt 1
 | k + 1=>npow' x k * x
theorem one_mul2 (x:Qi):Qi.ofInt 1 * x = x:=ext' (by show ((1:Int):Rat) * x.re - 0 * x.im = x.re; grind) (by show ((1:Int):Rat) * x.im + 0 * x.re = x.im; grind)
theorem mul_one2 (x:Qi):x * Qi.ofInt 1 = x:=by rw [mul_comm',one_mul2]
end Qi
instance qiField:Lean.Grind.CommRing Qi where
 natCast:=⟨fun n=>Qi.ofInt n⟩
 ofNat n:=⟨Qi.ofInt n⟩
 nsmul:=⟨fun n x=>Qi.ofInt n * x⟩
 npow:=⟨Qi.npow'⟩
 add_zero:=Qi.add_zero'
 add_comm:=Qi.add_comm'
 add_assoc:=Qi.add_assoc'
 mul_assoc:=Qi.mul_assoc'
 mul_comm:=Qi.mul_comm'
 mul_one:=Qi.mul_one2
 one_mul:=Qi.one_mul2
 left_distrib:=Qi.mul_add'
 right_distrib:=Qi.add_mul'
 zero_mul:=Qi.zero_mul'
 mul_zero:=Qi.mul_zero'
 pow_zero _:=rfl
 pow_succ _ _:=rfl
 ofNat_succ n:=Qi.ext' (by show (((n + 1:Nat):Int):Rat) = ((n:Int):Rat) + ((1:Int):Rat); rw [Int.natCast_add,Rat.intCast_add]; rfl) (by show (0:Rat) = 0 + 0; grind)
 intCast:=⟨Qi.ofInt⟩
 zsmul:=⟨fun n x=>Qi.ofInt n * x⟩
 neg_add_cancel x:=Qi.ext' (by show -x.re + x.re = ((0:Int):Rat); grind) (by show -x.im + x.im = 0; grind)
 sub_eq_add_neg:=Qi.sub_def
 neg_zsmul i x:=Qi.ext' (by show ((-i:Int):Rat) * x.re - 0 * x.im = -((i:Rat) * x.re - 0 * x.im); rw [Rat.intCast_neg]; grind) (by show ((-i:Int):Rat) * x.im + 0 * x.re = -((i:Rat) * x.im + 0 * x.re); rw [Rat.intCast_neg]; grind)
 intCast_neg i:=Qi.ext' (Rat.intCast_neg i) (by show (0:Rat) = -0; grind)
theorem q0:Qi.zero = 0:=rfl
theorem q1:Qi.ofInt 1 = 1:=rfl
theorem iG {x:Qi} (h:x ≠ 0):x * Qi.inv x = 1:=by
 have hn:x.nrm ≠ 0:=fun e=>h (Qi.nrm_zero.1 e)
 have e:x.re * x.re + x.im * x.im = x.nrm:=rfl
 refine Qi.ext' ?_ ?_
 ·show x.re * (x.re / x.nrm) - x.im * (-x.im / x.nrm) = ((1 : Int) : Rat)
  grind
 ·show x.re * (-x.im / x.nrm) + x.im * (x.re / x.nrm) = 0
  grind
theorem Dz {x y:Qi} (h:y ≠ 0):x / y * y = x:=by
 rw [Qi.div_def]
 have:=iG h
 grind
theorem tL {x y z:Qi} (h:y ≠ 0) (e:x = z * y):x / y = z:=by
 have h1:=Dz (x:=x) h
 have h2:=iG h
 grind
theorem rP {x y:Qi} (h:x * y = 0):x = 0 ∨ y = 0:=by
 by_cases e:x = 0
 ·exact .inl e
 ·right; have:=iG e; grind
end
section
open Go Go.RowKit
theorem yU (m:Nat) (f:Qi) (a b:Nat → Qi):eC m (fun k=>a k - f * b k) = eC m a - f * eC m b:=by
 induction m with
 | zero=>simp only [eC,q0]; grind
 | succ m ih=>simp only [eC,ih]; grind
theorem Ha {m i:Nat} (hi:i < m) {f:Nat → Qi} (h:∀ k,k < m → k ≠ i → f k = 0):eC m f = f i:=by
 induction m with
 | zero=>omega
 | succ m ih =>
  by_cases e:i = m
  ·subst e
   have : eC i f = 0 := by
    rw [← q0,← Bk i]
    exact eP fun k hk=>h k zo zo
   simp only [eC,this]; grind
  ·have h1 := ih zo (fun k hk => h k zo)
   have h2:=h m zo zo
   simp only [eC,h1,h2]; grind
theorem sH {m:Nat} {f:Nat → Qi} (h:∀ k,k < m → f k = 0):eC m f = 0:=by
 rw [← q0,← Bk m]; exact eP h
def Ker (M:List (List Qi)) (n m:Nat) (x:Nat → Qi):Prop:=∀ i,i < n → eC m (fun k=>gm M i k * x k) = 0
def Gv (rr rc:List Qi) (c k:Nat):List Qi:=tab rr.length fun j=>if c ≤ j ∧ j < k then gv rr j - gv rr c / gv rc c * gv rc j else gv rr j
def Ar (M:List (List Qi)) (c r:Nat):List (List Qi):=tab M.length fun i=>if i ≠ c ∧ i < r then Gv (fH M i) (fH M c) c (fH M i).length else fH M i
theorem Um (M:List (List Qi)) (c r:Nat):(Ar M c r).length = M.length:=aO _ _
theorem Od (rr rc:List Qi) (c k:Nat):(Gv rr rc c k).length = rr.length:=aO _ _
theorem Rf {M:List (List Qi)} {c r i:Nat} (hi:i < M.length):fH (Ar M c r) i = if i ≠ c ∧ i < r then Gv (fH M i) (fH M c) c (fH M i).length else fH M i:=by
 simp only [fH,Ar,List.getD]; rw [cE hi]; rfl
theorem Sk {M:List (List Qi)} {n m c r:Nat} (h:eR M n m):eR (Ar M c r) n m:=by
 refine ⟨(Um _ _ _).trans h.1,fun x hx=>?_⟩
 obtain ⟨i,hi,rfl⟩:=jB.1 hx
 have hr:=h.row (i:=i) (by rw [← h.1]; exact hi)
 show (if i ≠ c ∧ i < r then Gv (fH M i) (fH M c) c (fH M i).length else fH M i).length = m
 split
 ·rw [Od]; exact hr
 ·exact hr
theorem xL {M:List (List Qi)} {n m c i j:Nat} (h:eR M n m) (hi:i < n) (hj:j < m):gm (Ar M c n) i j = if i ≠ c ∧ c ≤ j then gm M i j - gm M i c / gm M c c * gm M c j else gm M i j:=by
 have hr:(fH M i).length = m:=h.row hi
 show gv (fH (Ar M c n) i) j = _
 rw [Rf (by rw [h.1]; exact hi)]
 by_cases e:i = c
 ·rw [if_neg (fun k=>k.1 e),if_neg (fun k=>k.1 e)]
 ·rw [if_pos ⟨e, hi⟩, Gv, pD zo]
  by_cases e2:c ≤ j
  ·rw [if_pos ⟨e2,by omega⟩,if_pos ⟨e,e2⟩]
  ·rw [if_neg (fun k=>e2 k.1),if_neg (fun k=>e2 k.2)]
theorem Jf {M:List (List Qi)} {p c i:Nat} (hp:p < M.length) (hc:c < M.length):fH (swp [] M p c) i = fH M (if i = c then p else if i = p then c else i):=by
 simp only [fH,swp,List.getD]
 by_cases e:i = c
 ·subst e; rw [List.getElem?_set_self (by simpa using hc),if_pos rfl]; rfl
 ·rw [List.getElem?_set_ne (Ne.symm e), if_neg e]
  by_cases e2:i = p
  ·subst e2; rw [List.getElem?_set_self hp,if_pos rfl]; rfl
  ·rw [List.getElem?_set_ne (Ne.symm e2),if_neg e2]
theorem Yz {M:List (List Qi)} {n m p c:Nat} {x:Nat → Qi} (hl:M.length = n) (hp:p < n) (hc:c < n):Ker (swp [] M p c) n m x ↔ Ker M n m x:=by
 have key : ∀ i, gm (swp [] M p c) i = gm M (if i = c then p else if i = p then c else i) := fun i => by
  funext j; exact congrArg (fun r=>gv r j) (Jf zo zo)
 constructor
 ·intro h i hi
  have h1:=h (if i = c then p else if i = p then c else i) (by split <;> (try split) <;> omega)
  rw [key] at h1
  have e : (if (if i = c then p else if i = p then c else i) = c then p else if (if i = c then p else if i = p then c else i) = p then c else (if i = c then p else if i = p then c else i)) = i := by
   by_cases e1:i = c
   ·subst e1; rw [if_pos rfl]
    by_cases e2:p = i
    ·rw [if_pos e2]; exact e2
    ·rw [if_neg e2,if_pos rfl]
   ·rw [if_neg e1]
    by_cases e2:i = p
    ·subst e2; rw [if_pos rfl,if_pos rfl]
    ·rw [if_neg e2,if_neg e1,if_neg e2]
  rw [e] at h1; exact h1
 ·intro h i hi
  rw [key]; exact h _ (by split <;> (try split) <;> omega)
theorem Ym {M:List (List Qi)} {n m c:Nat} {x:Nat → Qi} (hs:eR M n m) (hc:c < n) (hz:∀ j,j < c → gm M c j = 0):Ker (Ar M c n) n m x ↔ Ker M n m x:=by
 have key : ∀ i, i < n → i ≠ c → eC m (fun k => gm (Ar M c n) i k * x k) = eC m (fun k => gm M i k * x k) - gm M i c / gm M c c * eC m (fun k => gm M c k * x k) := fun i hi e => by
  rw [← yU]
  refine eP fun k hk=>?_
  rw [xL hs hi hk]
  by_cases e2:c ≤ k
  ·rw [if_pos ⟨e,e2⟩]; grind
  ·rw [if_neg (fun h=>e2 h.2),hz k zo]; grind
 have keyc:eC m (fun k=>gm (Ar M c n) c k * x k) = eC m (fun k=>gm M c k * x k):=eP fun k hk=>by rw [xL hs hc hk,if_neg (fun h=>h.1 rfl)]
 constructor
 ·intro h i hi
  have h0:=h c hc
  rw [keyc] at h0
  by_cases e:i = c
  ·rw [e]; exact h0
  ·have h1 := h i hi
   rw [key i hi e,h0] at h1
   grind
 ·intro h i hi
  have h0:=h c hc
  by_cases e:i = c
  ·rw [e,keyc]; exact h0
  ·rw [key i hi e,h0,h i hi]; grind
structure GJ (M A:List (List Qi)) (n m c:Nat):Prop where
 sh:eR A n m
 ker:∀ x,Ker A n m x ↔ Ker M n m x
 off:∀ j,j < c → ∀ i,i < n → i ≠ j → gm A i j = 0
 dg:∀ j,j < c → gm A j j ≠ 0
theorem GJ.next {M A:List (List Qi)} {n m c p:Nat} (h:GJ M A n m c) (hc:c < n) (hnm:n ≤ m) (hcp:c ≤ p) (hp:p < n) (hz:gm A p c ≠ 0):GJ M (Ar (swp [] A p c) c n) n m (c + 1):=by
 have hs:eR (swp [] A p c) n m:=xR h.sh hp hc
 have hl:=h.sh.1
 have key : ∀ i, gm (swp [] A p c) i = gm A (if i = c then p else if i = p then c else i) := fun i => by
  funext j; exact congrArg (fun r=>gv r j) (Jf zo zo)
 have hcc:gm (swp [] A p c) c c ≠ 0:=by rw [key,if_pos rfl]; exact hz
 have hoff : ∀ j, j < c → ∀ i, i < n → i ≠ j → gm (swp [] A p c) i j = 0 := fun j hj i hi hij => by
  rw [key]
  by_cases e1:i = c
  ·rw [if_pos e1]; exact h.off j hj p hp zo
  ·rw [if_neg e1]
   by_cases e2:i = p
   ·rw [if_pos e2]; exact h.off j hj c hc zo
   ·rw [if_neg e2]; exact h.off j hj i hi hij
 refine ⟨Sk hs,fun x=>(Ym hs hc (fun j hj=>hoff j hj c hc zo)).trans ((Yz hl hp hc).trans (h.ker x)),fun j hj i hi hij=>?_,fun j hj=>?_⟩
 ·rw [xL hs hi zo]
  by_cases e:j = c
  ·subst e
   rw [if_pos ⟨hij,Nat.le_refl _⟩]
   have:=Dz (x:=gm (swp [] A p j) i j) hcc
   grind
  ·rw [if_neg (fun k=>by omega)]; exact hoff j zo i hi hij
 ·rw [xL hs zo zo]
  by_cases e:j = c
  ·subst e; rw [if_neg (fun k=>k.1 rfl)]; exact hcc
  ·rw [if_neg (fun k=>by omega),key,if_neg zo,if_neg zo]; exact h.dg j zo
theorem a1W {l:List Qi} {z:Qi} {k:Nat} (h:k < l.length):gv (l ++ [z]) k = gv l k:=by
 simp only [gv,List.getD]; rw [List.getElem?_append_left h]
theorem a0I {l:List Qi} {z:Qi}:gv (l ++ [z]) l.length = z:=by
 simp [gv,List.getD]
theorem a2H {M:List (List Qi)} {b:List Qi} {n i:Nat} (h:eR M n n) (hi:i < n):(∀ k,k < n → gm (lK M [b] n) i k = gm M i k) ∧ gm (lK M [b] n) i n = gv b i:=by
 obtain ⟨r,hr⟩:∃ r,r = fH M i:=⟨_,rfl⟩
 have hl:r.length = n:=by rw [hr]; exact h.row hi
 have e : fH (lK M [b] n) i = r ++ [gv b i] := by
  rw [hr]; simp only [fH,lK,List.getD]; rw [cE hi]; rfl
 refine ⟨fun k hk=>?_,?_⟩
 ·show gv (fH (lK M [b] n) i) k = gv (fH M i) k
  rw [e,← hr,a1W zo]
 ·show gv (fH (lK M [b] n) i) n = gv b i
  rw [e,← hl,a0I]
theorem Jc {M:List (List Qi)} {b:List Qi} {n i:Nat} (h:eR M n n) (hi:i < n) (x:Nat → Qi):eC (n + 1) (fun k=>gm (lK M [b] n) i k * x k) = eC n (fun k=>gm M i k * x k) + gv b i * x n:=by
 obtain ⟨h1,h2⟩:=a2H (b:=b) h hi
 simp only [eC,h2]
 rw [eP (fun k hk=>by rw [h1 k hk])]
end
section
open Go Go.RowKit
def a1M (a b:List (List Qi)) (x y i:Nat):List Qi:=tab (x + y) fun j=>if i < x then (if j < x then gm a i j else Qi.zero) else (if x ≤ j then gm b (i - x) (j - x) else Qi.zero)
def zY (a b:List (List Qi)) (x y:Nat):List (List Qi):=tab (x + y) (a1M a b x y)
theorem zQ (a b:List (List Qi)) (x y:Nat):eR (zY a b x y) (x + y) (x + y):=⟨aO _ _,fun r hr=>by obtain ⟨i,_,rfl⟩:=jB.1 hr; exact aO _ _⟩
theorem Uc {a b : List (List Qi)} {x y L : Nat} (ha : bT a L) (hb : bT b L) (hL : 1 ≤ L) : bT (zY a b x y) L := fun r hr => by
 obtain ⟨i,_,rfl⟩:=jB.1 hr
 refine cC.tab fun j _=>?_
 split
 ·split
  ·exact ha.get hL _ _
  ·exact aN.zero hL
 ·split
  ·exact hb.get hL _ _
  ·exact aN.zero hL
theorem oU {a b:List (List Qi)} {x y i j:Nat} (hi:i < x + y) (hj:j < x + y):gm (zY a b x y) i j = if i < x then (if j < x then gm a i j else Qi.zero) else (if x ≤ j then gm b (i - x) (j - x) else Qi.zero):=by
 have e:(zY a b x y).getD i [] = a1M a b x y i:=by rw [zY,List.getD,cE hi]; rfl
 show gv ((zY a b x y).getD i []) j = _
 rw [e,a1M,pD hj]
end
section
open Go Go.RowKit
abbrev pA (ps:List (Nat × Nat)) (k:Nat):Nat:=(ps.getD k (0,0)).1
abbrev pB (ps:List (Nat × Nat)) (k:Nat):Nat:=(ps.getD k (0,0)).2
end
section
open Go Go.RowKit
theorem tC {l:List Qi} {t k:Nat} {v:Qi} (ht:t < l.length):gv (l.set t v) k = if k = t then v else gv l k:=by
 simp only [gv,List.getD]
 by_cases e:k = t
 ·subst e; rw [if_pos rfl,List.getElem?_set_self ht]; rfl
 ·rw [if_neg e,List.getElem?_set_ne (Ne.symm e)]
end
section
open Go Go.RowKit
def tW (A:List (List Qi)) (c i j:Nat):Qi:=if j < c ∧ j < i then 0 else gm A i j
def Ap (F:Nat → Nat → Qi) (n m:Nat) (x:Nat → Qi):Prop:=∀ i,i < n → eC m (fun k=>F i k * x k) = 0
theorem yF {F G:Nat → Nat → Qi} {n m:Nat} {x:Nat → Qi} (h:∀ i,i < n → ∀ j,j < m → F i j = G i j):Ap F n m x ↔ Ap G n m x:=by
 have e:∀ i,i < n → eC m (fun k=>F i k * x k) = eC m (fun k=>G i k * x k):=fun i hi=>eP fun k hk=>by rw [h i hi k hk]
 exact ⟨fun k i hi=>by rw [← e i hi]; exact k i hi,fun k i hi=>by rw [e i hi]; exact k i hi⟩
def Ru (p c i:Nat):Nat:=if i = c then p else if i = p then c else i
theorem Ro {p c i n:Nat} (hp:p < n) (hc:c < n) (hi:i < n):Ru p c i < n:=by unfold Ru; split <;> (try split) <;> omega
theorem Wv (p c i:Nat):Ru p c (Ru p c i) = i:=by
 unfold Ru
 by_cases e1:i = c
 ·subst e1
  rw [if_pos rfl]
  by_cases e2:p = i
  ·rw [if_pos e2]; exact e2
  ·rw [if_neg e2,if_pos rfl]
 ·rw [if_neg e1]
  by_cases e2:i = p
  ·subst e2; rw [if_pos rfl,if_pos rfl]
  ·rw [if_neg e2,if_neg e1,if_neg e2]
theorem Rl {F : Nat → Nat → Qi} {n m p c : Nat} {x : Nat → Qi} (hp : p < n) (hc : c < n) : Ap (fun i => F (Ru p c i)) n m x ↔ Ap F n m x :=
 ⟨fun h i hi=>by have:=h _ (Ro hp hc hi); simp only [Wv] at this; exact this,fun h i hi=>h _ (Ro hp hc hi)⟩
theorem Si {F G:Nat → Nat → Qi} {n m c:Nat} {x f:Nat → Qi} (hc:c < n) (hG:∀ i,i < n → ∀ j,j < m → G i j = if c < i then F i j - f i * F c j else F i j):Ap G n m x ↔ Ap F n m x:=by
 have key : ∀ i, i < n → eC m (fun k => G i k * x k) = if c < i then eC m (fun k => F i k * x k) - f i * eC m (fun k => F c k * x k) else eC m (fun k => F i k * x k) := fun i hi => by
  by_cases e:c < i
  ·rw [if_pos e, ← yU]
   exact eP fun k hk=>by rw [hG i hi k hk,if_pos e]; grind
  ·rw [if_neg e]
   exact eP fun k hk=>by rw [hG i hi k hk,if_neg e]
 have kc:=key c hc
 rw [if_neg zo] at kc
 constructor
 ·intro h i hi
  have h0:=h c hc
  rw [kc] at h0
  have h1:=h i hi
  rw [key i hi] at h1
  by_cases e:c < i
  ·rw [if_pos e,h0] at h1; grind
  ·rw [if_neg e] at h1; exact h1
 ·intro h i hi
  rw [key i hi]
  by_cases e:c < i
  ·rw [if_pos e,h i hi,h c hc]; grind
  ·rw [if_neg e]; exact h i hi
theorem a00 {M:List (List Qi)} {n m c i j:Nat} (h:eR M n m) (hi:i < n) (hj:j < m):gm (mC M c n) i j = if c < i ∧ c < j then gm M i j - gm M i c / gm M c c * gm M c j else gm M i j:=by
 have hr:(fH M i).length = m:=h.row hi
 have e0 : fH (mC M c n) i = if c < i ∧ i < n then kY (fH M i) (fH M c) c (fH M i).length else fH M i := by
  simp only [fH,mC,List.getD]; rw [cE (by rw [h.1]; exact hi)]; rfl
 show gv (fH (mC M c n) i) j = _
 rw [e0]
 by_cases e:c < i
 ·rw [if_pos ⟨e, hi⟩, kY, pD zo]
  by_cases e2:c < j
  ·rw [if_pos ⟨e2,by omega⟩,if_pos ⟨e,e2⟩]
  ·rw [if_neg (fun k=>e2 k.1),if_neg (fun k=>e2 k.2)]
 ·rw [if_neg (fun k=>e k.1),if_neg (fun k=>e k.1)]
theorem Vx {A:List (List Qi)} {p c i j:Nat} (hc:c < A.length) (hp:p < A.length) (hcp:c ≤ p):tW (swp [] A p c) c i j = tW A c (Ru p c i) j:=by
 have key:gm (swp [] A p c) i j = gm A (Ru p c i) j:=congrArg (fun r=>gv r j) (Jf zo zo)
 unfold tW
 rw [key]
 have e:(j < c ∧ j < i) ↔ (j < c ∧ j < Ru p c i):=by unfold Ru; split <;> (try split) <;> omega
 by_cases h:j < c ∧ j < i
 ·rw [if_pos h,if_pos (e.1 h)]
 ·rw [if_neg h,if_neg (fun k=>h (e.2 k))]
structure EL (M A:List (List Qi)) (n m c:Nat):Prop where
 sh:eR A n m
 ker:∀ x,Ap (tW A c) n m x ↔ Ap (gm M) n m x
theorem EL.next {M A:List (List Qi)} {n m c p:Nat} (h:EL M A n m c) (hc:c < n) (hcm:c < m) (hcp:c ≤ p) (hp:p < n) (hz:gm A p c ≠ 0):EL M (mC (if p = c then A else swp [] A p c) c n) n m (c + 1):=by
 have hl:=h.sh.1
 obtain ⟨B,hB⟩:∃ B,B = if p = c then A else swp [] A p c:=⟨_,rfl⟩
 have hs : eR B n m := by
  rw [hB]; split
  ·exact h.sh
  ·exact xR h.sh hp hc
 have hBk : ∀ x, Ap (tW B c) n m x ↔ Ap (gm M) n m x := fun x => by
  rw [hB]; split
  ·exact h.ker x
  ·exact (yF (G:=fun i=>tW A c (Ru p c i)) fun i hi j hj=>Vx zo zo hcp).trans ((Rl hp hc).trans (h.ker x))
 have hBz : gm B c c ≠ 0 := by
  rw [hB]; split
  ·rename_i e; rw [← e] at hz ⊢; exact hz
  ·show gv (fH (swp [] A p c) c) c ≠ 0
   rw [Dn zo]; exact hz
 rw [← hB]
 refine ⟨Fn hs,fun x=>(Si (f:=fun i=>gm B i c / gm B c c) hc fun i hi j hj=>?_).trans (hBk x)⟩
 have hd:=Dz (x:=gm B i c) hBz
 unfold tW
 rw [a00 hs hi hj]
 by_cases e:c < i
 ·rw [if_pos e]
  by_cases e1:j < c
  ·rw [if_pos zo,if_pos zo,if_pos zo]; grind
  ·by_cases e2 : j = c
   ·subst e2
    rw [if_pos zo,if_neg zo,if_neg zo]; grind
   ·rw [if_neg zo,if_pos zo,if_neg zo,if_neg zo]
 ·rw [if_neg e, if_neg (show ¬ (c < i ∧ c < j) from fun k => e k.1)]
  by_cases e1:j < i
  ·rw [if_pos (show j < c + 1 ∧ j < i by omega),if_pos (show j < c ∧ j < i by omega)]
  ·rw [if_neg (show ¬ (j < c + 1 ∧ j < i) by omega),if_neg (show ¬ (j < c ∧ j < i) by omega)]
theorem Eo {M : List (List Qi)} {n m : Nat} (hs : eR M n m) (hnm : n ≤ m) : ∀ {c : Nat}, c ≤ n → (cH M c).2.2 < 0 → EL M (cH M c).1 n m c
 | 0,_,_=>⟨hs,fun x=>yF fun i _ j _=>by unfold tW; rw [if_neg zo]; rfl⟩
 | c + 1, hc, h => by
  obtain ⟨i1,i2,i3,i4⟩:=qL (M:=(cH M c).1) (c:=c) (n:=M.length) (by rw [hs.1]; omega)
  simp only [cH] at h ⊢
  by_cases e:0 ≤ (cH M c).2.2
  ·rw [if_pos e] at h; omega
  ·rw [if_neg e] at h ⊢
   have ih:=Eo hs hnm (c:=c) zo zo
   by_cases e2:pv (cH M c).1 c M.length = M.length
   ·rw [if_pos e2] at h; simp only at h; omega
   ·rw [if_neg e2]
    rw [hs.1] at i3 i4 e2 ⊢
    exact ih.next zo zo (by rw [hs.1] at i2; exact i2) zo (i4 zo)
theorem Cg {M : List (List Qi)} : ∀ {n : Nat}, 0 ≤ (cH M n).2.2 → ∃ c, c < n ∧ (cH M c).2.2 < 0 ∧ pv (cH M c).1 c M.length = M.length
 | 0,h=>absurd h (by show ¬ (0:Int) ≤ -1; omega)
 | c + 1, h => by
  by_cases e:0 ≤ (cH M c).2.2
  ·obtain ⟨d, h1, h2⟩ := Cg e
   exact ⟨d,by omega,h2⟩
  ·simp only [cH] at h
   rw [if_neg e] at h
   by_cases e2:pv (cH M c).1 c M.length = M.length
   ·exact ⟨c,by omega,by omega,e2⟩
   ·rw [if_neg e2] at h; simp only at h; omega
theorem tP {U : List (List Qi)} {x y : List Qi} {n c : Nat} : ∀ {K : Nat}, (∀ k, k < K → gv x (c + 1 + k) = gv y (c + 1 + k)) → nF U x n c K = nF U y n c K
 | 0,_=>rfl
 | K + 1,h=>by rw [nF,nF,tP (fun k hk=>h k zo),h K zo]
theorem Fr (U : List (List Qi)) (x : List Qi) (n c : Nat) : ∀ K, nF U x n c K = gm U c n - eC K (fun k => gm U c (c + 1 + k) * gv x (c + 1 + k))
 | 0=>by simp only [nF,eC,q0]; grind
 | K + 1=>by simp only [nF,eC,Fr U x n c K]; grind
theorem Sz {U : List (List Qi)} {n : Nat} : ∀ {j : Nat}, j ≤ n → ∀ c, n - j ≤ c → c < n → gv (oQ U n j) c = nF U (oQ U n j) n c (n - 1 - c) / gm U c c
 | 0,_,c,h1,h2=>by omega
 | j + 1, hj, c, h1, h2 => by
  have hl:=uE U n j
  rw [oQ]
  by_cases e:c = n - (j + 1)
  ·subst e
   rw [tC zo,if_pos rfl,show n - 1 - (n - (j + 1)) = j by omega]
   rw [tP (x:=(oQ U n j).set _ _) (y:=oQ U n j) fun k hk=>by rw [tC zo,if_neg zo]]
  ·rw [tC zo, if_neg e, Sz (j := j) zo c zo h2]
   rw [tP (x:=(oQ U n j).set _ _) (y:=oQ U n j) fun k hk=>by rw [tC zo,if_neg zo]]
theorem uP (a : Nat) (f : Nat → Qi) : ∀ b, eC (a + b) f = eC a f + eC b fun k => f (a + k)
 | 0=>by simp only [eC,q0,Nat.add_zero]; grind
 | b + 1=>by rw [← Nat.add_assoc]; simp only [eC,uP a f b]; grind
theorem Mo {U:List (List Qi)} {n i:Nat} (hi:i < n) (y:Nat → Qi):eC n (fun k=>tW U n i k * y k) = gm U i i * y i + eC (n - 1 - i) fun k=>gm U i (i + 1 + k) * y (i + 1 + k):=by
 have e:n = i + 1 + (n - 1 - i):=by omega
 have h1:eC i (fun k=>tW U n i k * y k) = 0:=sH fun k hk=>by unfold tW; rw [if_pos zo]; grind
 have h2:tW U n i i = gm U i i:=by unfold tW; rw [if_neg zo]
 have h3:eC (n - 1 - i) (fun k=>tW U n i (i + 1 + k) * y (i + 1 + k)) = eC (n - 1 - i) fun k=>gm U i (i + 1 + k) * y (i + 1 + k):=eP fun k hk=>by unfold tW; rw [if_neg zo]
 have h4:=uP (i + 1) (fun k=>tW U n i k * y k) (n - 1 - i)
 rw [← e] at h4
 rw [h4,h3]
 simp only [eC,h1,h2]; grind
theorem Mx {U:List (List Qi)} {n i:Nat} (hd:∀ j,j < n → gm U j j ≠ 0) (hi:i < n):eC n (fun k=>tW U n i k * gv (oQ U n n) k) = gm U i n:=by
 rw [Mo hi,Sz (Nat.le_refl n) i zo hi,Fr]
 have:=Dz (x:=gm U i n - eC (n - 1 - i) (fun k=>gm U i (i + 1 + k) * gv (oQ U n n) (i + 1 + k))) (hd i hi)
 grind
theorem Hz {U : List (List Qi)} {n : Nat} (hd : ∀ j, j < n → gm U j j ≠ 0) {y : Nat → Qi} (h : ∀ i, i < n → eC n (fun k => tW U n i k * y k) = 0) : ∀ t k, n - t ≤ k → k < n → y k = 0
 | 0,k,h1,h2=>by omega
 | t + 1, k, h1, h2 => by
  have h3:=h k h2
  rw [Mo h2,sH (fun j hj=>by rw [Hz hd h t (k + 1 + j) zo zo]; grind)] at h3
  rcases rP (x:=gm U k k) (y:=y k) (by grind) with h4 | h4
  ·exact absurd h4 (hd k h2)
  ·exact h4
theorem Hu {M:List (List Qi)} {b:List Qi} {n:Nat} (h:eR M n n) (hE:mB M b n = 0):(∀ i,i < n → eC n (fun k=>gm M i k * gv (mA M b n) k) = gv b i) ∧ ∀ y:Nat → Qi,(∀ i,i < n → eC n (fun k=>gm M i k * y k) = 0) → ∀ k,k < n → y k = 0:=by
 have hcs:eR (lK M [b] n) n (n + 1):=nV h
 have hst : (sR M b n).2.2 < 0 := by
  unfold mB at hE
  by_cases e:0 ≤ (sR M b n).2.2
  ·rw [if_pos e] at hE; omega
  ·omega
 have hg:=Eo hcs (Nat.le_succ n) (Nat.le_refl n) hst
 have hd:=pU hcs (Nat.le_refl n) hst
 obtain ⟨U,hU⟩:∃ U,U = (sR M b n).1:=⟨_,rfl⟩
 have hX:mA M b n = oQ U n n:=by rw [hU]; rfl
 have hU2:(cH (lK M [b] n) n).1 = U:=hU.symm
 rw [hU2] at hg hd
 rw [hX]
 refine ⟨fun i hi=>?_,fun y hy k hk=>?_⟩
 ·have h1 := (hg.ker fun k => if k < n then gv (oQ U n n) k else -1).1 (fun i hi => by
   simp only [eC]
   rw [eP (g:=fun k=>tW U n i k * gv (oQ U n n) k) (fun k hk=>by rw [if_pos hk]),Mx hd hi,if_neg zo,show tW U n i n = gm U i n by unfold tW; rw [if_neg zo]]
   grind) i hi
  rw [Jc h hi,eP (g:=fun k=>gm M i k * gv (oQ U n n) k) (fun k hk=>by rw [if_pos hk]),if_neg zo] at h1
  grind
 ·have h1 := (hg.ker fun k => if k < n then y k else 0).2 (fun i hi => by
   rw [Jc h hi,eP (g:=fun k=>gm M i k * y k) (fun k hk=>by rw [if_pos hk]),if_neg zo,hy i hi]; grind)
  refine Hz (y:=y) hd (fun i hi=>?_) n k zo hk
  have h2:=h1 i hi
  simp only [eC] at h2
  rw [eP (g:=fun k=>tW U n i k * y k) (fun k hk=>by rw [if_pos hk]),if_neg zo] at h2
  grind
theorem Uh {M:List (List Qi)} {b:List Qi} {n:Nat} (h:eR M n n) (hE:mB M b n ≠ 0):∃ y:Nat → Qi,(∀ i,i < n → eC n (fun k=>gm M i k * y k) = 0) ∧ ∃ k,k < n ∧ y k ≠ 0:=by
 have hcs:eR (lK M [b] n) n (n + 1):=nV h
 have hst : 0 ≤ (sR M b n).2.2 := by
  unfold mB at hE
  by_cases e:0 ≤ (sR M b n).2.2
  ·exact e
  ·rw [if_neg e] at hE; exact absurd rfl hE
 obtain ⟨c,hc,hA,hp⟩:=Cg hst
 have hg:=Eo hcs (Nat.le_succ n) zo hA
 have hd:=pU hcs zo hA
 obtain ⟨U,hU⟩:∃ U,U = (cH (lK M [b] n) c).1:=⟨_,rfl⟩
 rw [← hU] at hg hd hp
 rw [hcs.1] at hp
 have hz:=(qL (M:=U) (c:=c) (n:=n) zo).1
 rw [hp] at hz
 have key := (hg.ker fun k => if k < c then gv (oQ U c c) k else if k = c then -1 else 0).1 (fun i hi => by
  have e:n + 1 = c + (1 + (n - c)):=by omega
  rw [e,uP,uP]
  have z3:eC (n - c) (fun k=>tW U c i (c + (1 + k)) * (if c + (1 + k) < c then gv (oQ U c c) (c + (1 + k)) else if c + (1 + k) = c then -1 else 0)) = 0:=sH fun k hk=>by rw [if_neg zo,if_neg zo]; grind
  have z2 : eC 1 (fun k => tW U c i (c + k) * (if c + k < c then gv (oQ U c c) (c + k) else if c + k = c then -1 else 0)) = tW U c i c * -1 := by
   rw [Rn,if_neg zo,if_pos zo]; rfl
  have z1:eC c (fun k=>tW U c i k * (if k < c then gv (oQ U c c) k else if k = c then -1 else 0)) = eC c (fun k=>tW U c i k * gv (oQ U c c) k):=eP fun k hk=>by rw [if_pos hk]
  rw [z1,z2,z3]
  have zc:tW U c i c = gm U i c:=by unfold tW; rw [if_neg zo]
  rw [zc]
  by_cases e2:i < c
  ·rw [Mx hd e2]; grind
  ·rw [hz i zo hi,sH (fun k hk=>by unfold tW; rw [if_pos zo]; grind),q0]; grind)
 refine ⟨fun k=>if k < c then gv (oQ U c c) k else if k = c then -1 else 0,fun i hi=>?_,c,hc,?_⟩
 ·have h1 := key i hi
  rw [Jc h hi,if_neg zo,if_neg zo] at h1
  grind
 ·show (if c < c then gv (oQ U c c) c else if c = c then (-1 : Qi) else 0) ≠ 0
  rw [if_neg zo,if_pos rfl]
  intro e
  exact absurd (congrArg Qi.re e) (by decide)
end
section
open Go Go.RowKit
def gq (ps:List (Nat × Nat)) (x:Nat):Nat:=if x % 2 = 0 then pA ps (x / 2) else pB ps (x / 2)
def qT (x:Nat):Nat:=if x % 2 = 0 then x + 1 else x - 1
theorem Iz {x k:Nat} (h:x < 2 * k):qT x < 2 * k:=by unfold qT; split <;> omega
structure Jn (ps:List (Nat × Nat)) (n K:Nat):Prop where
 lt:∀ x,x < 2 * K → gq ps x < n
 inj:∀ x y,x < 2 * K → y < 2 * K → gq ps x = gq ps y → x = y
theorem Jn.le {ps:List (Nat × Nat)} {n K k:Nat} (h:Jn ps n K) (hk:k ≤ K):Jn ps n k:=⟨fun x hx=>h.lt x zo,fun x y hx hy=>h.inj x y zo zo⟩
def sT (S:List (List Qi)) (ps:List (Nat × Nat)) (m:Nat):List (List Qi):=tab m fun x=>tab m fun y=>(if x = y then Qi.ofInt 1 else Qi.ofInt 0) - gm S (gq ps (qT x)) (gq ps y)
def yM (S:List (List Qi)) (ps:List (Nat × Nat)) (m b:Nat):List Qi:=tab m fun x=>gm S (gq ps (qT x)) b
theorem xV (S:List (List Qi)) (ps:List (Nat × Nat)) (m:Nat):eR (sT S ps m) m m:=eR.tab
theorem Mz {S:List (List Qi)} {ps:List (Nat × Nat)} {m x:Nat} (hx:x < m) (v:Nat → Qi):eC m (fun y=>gm (sT S ps m) x y * v y) = v x - eC m fun y=>gm S (gq ps (qT x)) (gq ps y) * v y:=by
 have e : ∀ y, y < m → gm (sT S ps m) x y * v y = (if y = x then v x else 0) - 1 * (gm S (gq ps (qT x)) (gq ps y) * v y) := fun y hy => by
  have : gm (sT S ps m) x y = (if x = y then Qi.ofInt 1 else Qi.ofInt 0) - gm S (gq ps (qT x)) (gq ps y) := by
   show gv ((sT S ps m).getD x []) y = _
   rw [sT,pX hx,pD hy]
  rw [this]
  by_cases c:y = x
  ·subst c; rw [if_pos rfl,if_pos rfl,q1]; grind
  ·rw [if_neg c,if_neg (Ne.symm c),show Qi.ofInt 0 = (0:Qi) from rfl]; grind
 rw [eP e,yU,Ha hx (fun k _ hk=>if_neg hk),if_pos rfl]; grind
theorem Vm {S:List (List Qi)} {ps:List (Nat × Nat)} {m b x:Nat} (hx:x < m):gv (yM S ps m b) x = gm S (gq ps (qT x)) b:=pD hx
def Bu (S:List (List Qi)) (ps:List (Nat × Nat)) (m a b:Nat):Qi:=gm S a b + eC m fun y=>gm S a (gq ps y) * gv (mA (sT S ps m) (yM S ps m b) m) y
end
section
open Go Go.RowKit
def So (x y:Nat):Int:=if 8 < x + y then 4 else 0
def a04 (z zb:List Qi):List Qi:=iI (So z.length zb.length) (z ++ zb)
def Ys (z zb:List Qi) (a b:List (List Qi)):List (List Qi):=iI (So z.length zb.length) (zY a b z.length zb.length)
theorem Yh {x y:Nat} (h:8 < x + y):So x y = 4:=if_pos h
theorem Tu {x y:Nat} (h:¬ 8 < x + y):So x y = 0:=if_neg h
theorem Up {z zb:List Qi} {L:Nat} (hz:cC z L) (hb:cC zb L):cC (z ++ zb) L:=fun x hx=>(List.mem_append.1 hx).elim (hz x) (hb x)
def dR (n:Nat) (p:Int) (o:List Int):Int:=if ¬ (1 ≤ p ∧ p ≤ n) then 1 else if (o.any fun x=>decide (p = x)) = true then 8 else 0
def sU (n:Nat) (l:List Int):Int:=jM (fun i=>dR n (l.getD i 0) (l.take i)) l.length
def uZ (l:List Int):List Nat:=l.map fun p=>(p - 1).toNat
theorem Fl (l:List Int):(uZ l).length = l.length:=by rw [uZ,List.length_map]
theorem uB {n:Nat} {p:Int} {o:List Int} (h:dR n p o = 0):1 ≤ p ∧ p ≤ n:=by
 unfold dR at h
 split at h
 ·omega
 ·rename_i c; exact Decidable.not_not.1 c
theorem Jx {n : Nat} {l : List Int} (h : sU n l = 0) : ∀ x, x ∈ l → 1 ≤ x ∧ x ≤ n := fun x hx => by
 obtain ⟨i,hi,e⟩:=List.getElem_of_mem hx
 have:=uB (jD h i hi)
 rw [show l.getD i 0 = x by rw [List.getD,List.getElem?_eq_getElem hi,e]; rfl] at this
 exact this
theorem a0W {n : Nat} {l : List Int} (h : sU n l = 0) : ∀ x, x ∈ uZ l → x < n := fun x hx => by
 obtain ⟨p,hp,rfl⟩:=List.mem_map.1 hx
 have:=Jx h p hp; omega
theorem Ft {n:Nat} {l:List Int} (h:sU n l = 0):l.map (aD .i64) = ((uZ l).map Nat.succ).map (NT .i64):=by
 rw [uZ,List.map_map,List.map_map]
 refine List.map_congr_left fun p hp=>?_
 have:=Jx h p hp
 show aD .i64 p = aD .i64 (((p - 1).toNat + 1:Nat):Int)
 congr 1; omega
def Gw (n:Nat) (l:List Int):Int:=if l.length ≠ n then 4 else sU n l
def Vj (z:List Qi) (l:List Int):List Qi:=iI (Gw z.length l) (nO z (uZ l))
def To (z:List Qi) (s:List (List Qi)) (l:List Int):List (List Qi):=iI (Gw z.length l) (tH s (uZ l))
theorem Vo {n:Nat} {l:List Int} (h:l.length ≠ n):Gw n l = 4:=if_pos h
theorem Ti {n:Nat} {l:List Int} (h:l.length = n):Gw n l = sU n l:=if_neg (fun k=>k h)
theorem Sd (z:List Qi) (Q:List Nat):(nO z Q).length = Q.length:=aO _ _
theorem Sn (s:List (List Qi)) (Q:List Nat):eR (tH s Q) Q.length Q.length:=eR.tab
end
section
open Go Go.RowKit
def nP (js:List (Int × Int)):List Int:=js.flatMap fun q=>[q.1,q.2]
def iZ (js:List (Int × Int)):List (Nat × Nat):=js.map fun q=>((q.1 - 1).toNat,(q.2 - 1).toNat)
abbrev lY (js:List (Int × Int)) (k:Nat):Int × Int:=js.getD k (0,0)
theorem a0b (a b:List (Int × Int)):nP (a ++ b) = nP a ++ nP b:=by simp [nP]
theorem Hw {js:List (Int × Int)} {k:Nat} (h:k < js.length):nP (js.take (k + 1)) = nP (js.take k) ++ [(lY js k).1,(lY js k).2]:=by
 rw [List.take_succ_eq_append_getElem h,a0b]
 simp [nP,lY,List.getD,h]
theorem qE : ∀ (js : List (Int × Int)), (nP js).length = 2 * js.length
 | []=>rfl
 | q :: r => by
  have:=qE r
  have e:nP (q :: r) = q.1 :: q.2 :: nP r:=rfl
  rw [e,List.length_cons,List.length_cons,List.length_cons,this]; omega
theorem Ml : ∀ (js : List (Int × Int)) {x : Nat}, x < 2 * js.length → (nP js).getD x 0 = if x % 2 = 0 then (lY js (x / 2)).1 else (lY js (x / 2)).2
 | [],x,h=>by simp at h
 | q :: r,0,_=>rfl
 | q :: r,1,_=>rfl
 | q :: r, x + 2, h => by
  have ih:=Ml r (x:=x) (by simp only [List.length_cons] at h; omega)
  have e:nP (q :: r) = q.1 :: q.2 :: nP r:=rfl
  rw [e]
  show (nP r).getD x 0 = _
  rw [ih,show (x + 2) % 2 = x % 2 by omega,show (x + 2) / 2 = x / 2 + 1 by omega]
  rfl
theorem Sl {js:List (Int × Int)} {k:Nat} (h:k < js.length):pA (iZ js) k = ((lY js k).1 - 1).toNat ∧ pB (iZ js) k = ((lY js k).2 - 1).toNat:=by
 simp [pA,pB,iZ,lY,List.getD,h]
theorem jgq {js:List (Int × Int)} {x:Nat} (h:x < 2 * js.length):gq (iZ js) x = ((nP js).getD x 0 - 1).toNat:=by
 have h2:x / 2 < js.length:=by omega
 rw [Ml js h,gq,(Sl h2).1,(Sl h2).2]
 split <;> rfl
theorem Fm {n:Nat} {A:List Int} (h:sU n A = 0) (a:Int):sU n (A ++ [a]) = dR n a A:=by
 rw [sU,List.length_append,List.length_singleton]
 have e : jM (fun i => dR n ((A ++ [a]).getD i 0) ((A ++ [a]).take i)) A.length = 0 := iP fun i hi => by
  have:=jD h i hi
  rw [List.take_append_of_le_length zo]
  have e2:(A ++ [a]).getD i 0 = A.getD i 0:=by simp [List.getD,List.getElem?_append_left hi]
  rw [e2]; exact this
 rw [jM,e,if_neg (by simp),List.take_append_of_le_length (Nat.le_refl _),List.take_length]
 congr 1
 simp [List.getD]
theorem Om {n:Nat} {A:List Int} (h:sU n A = 0) (a b:Int):sU n (A ++ [a,b]) = if dR n a A ≠ 0 then dR n a A else dR n b (A ++ [a]):=by
 have e:A ++ [a,b] = (A ++ [a]) ++ [b]:=by simp
 by_cases c:dR n a A = 0
 ·rw [if_neg (fun k=>k c),e,Fm (by rw [Fm h]; exact c)]
 ·rw [if_pos c]
  have h1 : jM (fun i => dR n ((A ++ [a, b]).getD i 0) ((A ++ [a, b]).take i)) A.length = 0 := iP fun i hi => by
   have:=jD h i hi
   rw [List.take_append_of_le_length zo]
   have e2:(A ++ [a,b]).getD i 0 = A.getD i 0:=by simp [List.getD,List.getElem?_append_left hi]
   rw [e2]; exact this
  have h2 : dR n ((A ++ [a, b]).getD A.length 0) ((A ++ [a, b]).take A.length) = dR n a A := by
   rw [List.take_append_of_le_length (Nat.le_refl _),List.take_length]
   congr 1
   simp [List.getD]
  rw [sU,pW (k:=A.length) (fun i hi=>jD h1 i hi) (by rw [h2]; exact c) (by simp)]
  exact h2
def uA (z : List Qi) (js : List (Int × Int)) (k : Nat) : Int :=
 if dR z.length (lY js k).1 (nP (js.take k)) ≠ 0 then dR z.length (lY js k).1 (nP (js.take k))
 else if dR z.length (lY js k).2 (nP (js.take k) ++ [(lY js k).1]) ≠ 0 then dR z.length (lY js k).2 (nP (js.take k) ++ [(lY js k).1])
 else if gv z ((lY js k).1 - 1).toNat = gv z ((lY js k).2 - 1).toNat then 0 else 40
def Av (z:List Qi) (js:List (Int × Int)):Int:=jM (uA z js) js.length
theorem Qh {z:List Qi} {js:List (Int × Int)} {k:Nat} (h:uA z js k = 0):dR z.length (lY js k).1 (nP (js.take k)) = 0 ∧ dR z.length (lY js k).2 (nP (js.take k) ++ [(lY js k).1]) = 0 ∧ gv z ((lY js k).1 - 1).toNat = gv z ((lY js k).2 - 1).toNat:=by
 unfold uA at h
 by_cases c1:dR z.length (lY js k).1 (nP (js.take k)) = 0
 ·rw [if_neg (fun k => k c1)] at h
  by_cases c2:dR z.length (lY js k).2 (nP (js.take k) ++ [(lY js k).1]) = 0
  ·rw [if_neg (fun k => k c2)] at h
   by_cases c3:gv z ((lY js k).1 - 1).toNat = gv z ((lY js k).2 - 1).toNat
   ·exact ⟨c1,c2,c3⟩
   ·rw [if_neg c3] at h; omega
  ·rw [if_pos c2] at h; exact absurd h c2
 ·rw [if_pos c1] at h; exact absurd h c1
theorem jpr {z : List Qi} {js : List (Int × Int)} : ∀ {k : Nat}, k ≤ js.length → (∀ j, j < k → uA z js j = 0) → sU z.length (nP (js.take k)) = 0
 | 0,_,_=>rfl
 | k + 1, hk, h => by
  have ih:=jpr (z:=z) (js:=js) (k:=k) zo fun j hj=>h j zo
  obtain ⟨h1,h2,_⟩:=Qh (h k zo)
  rw [Hw zo,Om ih,if_neg (fun k=>k h1)]; exact h2
theorem Rd {z:List Qi} {js:List (Int × Int)} (h:Av z js = 0):sU z.length (nP js) = 0:=by
 have:=jpr (z:=z) (Nat.le_refl js.length) (jD h)
 rwa [List.take_length] at this
theorem Pi {n : Nat} {p : Int} {o : List Int} (h : dR n p o = 0) : p ∉ o := fun hm => by
 have h1:=uB h
 unfold dR at h
 rw [if_neg (fun k=>k h1),if_pos (List.any_eq_true.2 ⟨p,hm,by simp⟩)] at h
 omega
theorem Zg {n:Nat} {l:List Int} (h:sU n l = 0) {x y:Nat} (hx:x < l.length) (hy:y < l.length) (e:l.getD x 0 = l.getD y 0):x = y:=by
 have key : ∀ x y, x < y → y < l.length → l.getD x 0 ≠ l.getD y 0 := fun x y hxy hy e => by
  refine Pi (jD h y hy) ?_
  rw [← e]
  have e2:l.getD x 0 = l[x]'zo:=by simp [List.getD,show x < l.length by omega]
  rw [e2]
  exact List.mem_take_iff_getElem.2 ⟨x,by omega,rfl⟩
 rcases Nat.lt_trichotomy x y with c | c | c
 ·exact absurd e (key x y c hy)
 ·exact c
 ·exact absurd e.symm (key y x c hx)
theorem Gh {z:List Qi} {js:List (Int × Int)} (h:Av z js = 0):Jn (iZ js) z.length js.length:=by
 have hp:=Rd h
 have hl:=qE js
 have hr : ∀ x, x < 2 * js.length → 1 ≤ (nP js).getD x 0 ∧ (nP js).getD x 0 ≤ z.length := fun x hx => Jx hp _ (by
  rw [show (nP js).getD x 0 = (nP js)[x]'zo by simp [List.getD,show x < (nP js).length by omega]]; exact List.getElem_mem _)
 refine ⟨fun x hx=>?_,fun x y hx hy e=>?_⟩
 ·rw [jgq hx]; have:=hr x hx; omega
 ·rw [jgq hx, jgq hy] at e
  have h1:=hr x hx; have h2:=hr y hy
  exact Zg hp zo zo zo
def Am (js:List (Int × Int)):List Nat:=(nP js).map fun p=>(p - 1).toNat
def dT (z:List Qi) (js:List (Int × Int)):List Nat:=nR (Am js) z.length
def Oy (z:List Qi) (S:List (List Qi)) (js:List (Int × Int)):Int:=jM (fun y=>mB (sT S (iZ js) (2 * js.length)) (yM S (iZ js) (2 * js.length) ((dT z js).getD y 0)) (2 * js.length)) (dT z js).length
def Fe (z : List Qi) (S : List (List Qi)) (js : List (Int × Int)) : Int :=
 if Av z js ≠ 0 then Av z js else if js.length = 0 then 0 else if 2 * js.length = z.length then 4 else if Oy z S js = 0 then 0 else 6
def a1H (z:List Qi) (js:List (Int × Int)):List Qi:=nO z (dT z js)
def Xk (z:List Qi) (S:List (List Qi)) (js:List (Int × Int)):List (List Qi):=tab (dT z js).length fun x=>tab (dT z js).length fun y=>Bu S (iZ js) (2 * js.length) (fC (dT z js) x) (fC (dT z js) y)
def Db (z:List Qi) (S:List (List Qi)) (js:List (Int × Int)):List Qi:=iI (Fe z S js) (if js.length = 0 then z else a1H z js)
def Lm (z:List Qi) (S:List (List Qi)) (js:List (Int × Int)):List (List Qi):=iI (Fe z S js) (if js.length = 0 then S else Xk z S js)
theorem Fb (js:List (Int × Int)):(Am js).length = 2 * js.length:=by rw [Am,List.length_map,qE]
theorem Qj {z : List Qi} {js : List (Int × Int)} {y : Nat} (hy : y < (dT z js).length) : (dT z js).getD y 0 < z.length := Co (by
 rw [show (dT z js).getD y 0 = (dT z js)[y] by simp [List.getD,hy]]; exact List.getElem_mem hy)
end
section
open Go Go.RowKit
theorem Qt (M:List (List Qi)) (b:List Qi) (n:Nat):(mA M b n).length = n:=uE _ _ _
theorem Yi {M : List (List Qi)} {b : List Qi} {n L : Nat} (h : eR M n n) (hM : bT M L) (hb : cC b L) (hL : 1 ≤ L) (hE : mB M b n = 0) : cC (mA M b n) (pE (dD L n) n) := Sw h hM hb hL (by
 unfold mB at hE
 by_cases e:0 ≤ (sR M b n).2.2
 ·rw [if_pos e] at hE; omega
 ·omega)
theorem Cm {G H : Nat} (h : G ≤ H) : ∀ j, pE G j ≤ pE H j
 | 0=>h
 | j + 1 => by
  have:=Cm h j
  have h2:j * (pE G j + G + 2) ≤ j * (pE H j + H + 2):=Nat.mul_le_mul_left _ zo
  simp only [pE]; omega
theorem Mv {a b:List (List Qi)} {n m:Nat} (ha:eR a n m) (hb:eR b n m) (h:∀ i,i < n → ∀ j,j < m → gm a i j = gm b i j):a = b:=by
 rw [qN ha,qN hb]
 exact cP fun i hi=>cP fun j hj=>h i hi j hj
end
section
open Go Go.RowKit
def Ih (q:Int × Int):List Int:=[q.1,q.2]
abbrev JT (q:Int × Int):Ty:=eD [aD .i64 q.1,aD .i64 q.2]
abbrev JsT (js:List (Int × Int)):Ty:=jS 2 (js.map JT)
theorem Zf {q : Int × Int} : ∀ {i : Nat}, i < 2 → ([aD .i64 q.1, aD .i64 q.2] : List Ty)[i]? = some (aD .i64 ((Ih q).getD i 0))
 | 0,_=>rfl
 | 1,_=>rfl
theorem Vb {q : Int × Int} : ∀ {i : Nat}, i < 2 → (Ih q).take (i + 1) = (Ih q).take i ++ [(Ih q).getD i 0]
 | 0,_=>rfl
 | 1,_=>rfl
abbrev Ef (z:List Qi) (js:List (Int × Int)) (k i:Nat):Int:=dR z.length ((Ih (lY js k)).getD i 0) (nP (js.take k) ++ (Ih (lY js k)).take i)
theorem a35 {z : List Qi} {js : List (Int × Int)} {k : Nat} : ∀ {i : Nat}, i < 2 → (∀ x, x < i → Ef z js k x = 0) → Ef z js k i ≠ 0 → uA z js k = Ef z js k i
 | 0, _, _, h => by
  have e:Ef z js k 0 = dR z.length (lY js k).1 (nP (js.take k)):=by simp [Ef,Ih]
  rw [e] at h ⊢
  rw [uA,if_pos h]
 | 1, _, h0, h => by
  have e0:Ef z js k 0 = dR z.length (lY js k).1 (nP (js.take k)):=by simp [Ef,Ih]
  have e:Ef z js k 1 = dR z.length (lY js k).2 (nP (js.take k) ++ [(lY js k).1]):=by simp [Ef,Ih]
  have h1:=h0 0 zo
  rw [e0] at h1
  rw [e] at h ⊢
  rw [uA,if_neg (fun k=>k h1),if_pos h]
theorem a2n {z : List Qi} {js : List (Int × Int)} {k : Nat} (h : ∀ x, x < 2 → Ef z js k x = 0) : (1 ≤ (lY js k).1 ∧ (lY js k).1 ≤ z.length) ∧ (1 ≤ (lY js k).2 ∧ (lY js k).2 ≤ z.length) ∧
  uA z js k = if gv z ((lY js k).1 - 1).toNat = gv z ((lY js k).2 - 1).toNat then 0 else 40:=by
 have e0:Ef z js k 0 = dR z.length (lY js k).1 (nP (js.take k)):=by simp [Ef,Ih]
 have e:Ef z js k 1 = dR z.length (lY js k).2 (nP (js.take k) ++ [(lY js k).1]):=by simp [Ef,Ih]
 have h0:=h 0 zo
 have h1:=h 1 zo
 rw [e0] at h0
 rw [e] at h1
 exact ⟨uB h0,uB h1,by rw [uA,if_neg (fun k=>k h0),if_neg (fun k=>k h1)]⟩
def Ak (z:List Qi) (js:List (Int × Int)):Int:=if Av z js ≠ 0 then Av z js else if 0 < 2 * js.length ∧ 2 * js.length = z.length then 4 else 0
def jeL (z:List Qi) (js:List (Int × Int)):List Int:=iI (Ak z js) (nP js)
theorem Sy {z:List Qi} {js:List (Int × Int)} (h:Av z js ≠ 0):Ak z js = Av z js:=if_pos h
theorem Xd {z:List Qi} {js:List (Int × Int)} (h:Av z js = 0) (h2:0 < 2 * js.length ∧ 2 * js.length = z.length):Ak z js = 4:=by rw [Ak,if_neg (fun k=>k h),if_pos h2]
theorem a0j {z:List Qi} {js:List (Int × Int)} (h:Av z js = 0) (h2:¬ (0 < 2 * js.length ∧ 2 * js.length = z.length)):Ak z js = 0:=by rw [Ak,if_neg (fun k=>k h),if_neg h2]
theorem Dq {z:List Qi} {js:List (Int × Int)} (h:Ak z js = 0):Av z js = 0 ∧ ¬ (0 < 2 * js.length ∧ 2 * js.length = z.length):=by
 unfold Ak at h
 by_cases c:Av z js = 0
 ·refine ⟨c, fun h2 => ?_⟩
  rw [if_neg (fun k=>k c),if_pos h2] at h
  omega
 ·rw [if_pos c] at h; exact absurd h c
theorem a2N {z:List Qi} {S:List (List Qi)} {js:List (Int × Int)} (h:Ak z js ≠ 0):Fe z S js = Ak z js:=by
 unfold Fe Ak at *
 by_cases c:Av z js ≠ 0
 ·rw [if_pos c,if_pos c]
 ·rw [if_neg c] at h
  rw [if_neg c,if_neg c]
  by_cases d:0 < 2 * js.length ∧ 2 * js.length = z.length
  ·rw [if_neg zo,if_pos d.2,if_pos d]
  ·rw [if_neg d] at h; exact absurd rfl h
theorem Yu {z:List Qi} {S:List (List Qi)} {js:List (Int × Int)} (h:Ak z js = 0) (h2:js.length = 0):Fe z S js = 0:=by
 obtain ⟨h1,_⟩:=Dq h
 rw [Fe,if_neg (fun k=>k h1),if_pos h2]
theorem Ka {z:List Qi} {S:List (List Qi)} {js:List (Int × Int)} (h:Ak z js = 0) (h2:js.length ≠ 0):Fe z S js = if Oy z S js = 0 then 0 else 6:=by
 obtain ⟨h1,h3⟩:=Dq h
 rw [Fe,if_neg (fun k=>k h1),if_neg h2,if_neg zo]
theorem pig : ∀ {n m : Nat} {f : Nat → Nat}, (∀ x, x < m → f x < n) → (∀ x y, x < m → y < m → f x = f y → x = y) → m ≤ n
 | 0, m, f, h, _ => by
  cases m with
  | zero=>exact Nat.le_refl 0
  | succ m=>exact absurd (h 0 zo) zo
 | n + 1,0,_,_,_=>by omega
 | n + 1, k + 1, f, h, i => by
  have := pig (n := n) (m := k) (f := fun x => if f x = n then f k else f x) (fun x hx => by
   have h1:=h x zo
   have h2:=h k zo
   by_cases c:f x = n
   ·simp only [if_pos c]
    have:f k ≠ n:=fun e=>by have:=i x k zo zo (by rw [c,e]); omega
    omega
   ·simp only [if_neg c]; omega) (fun x y hx hy e=>by
   by_cases c:f x = n <;> by_cases d:f y = n
   ·exact i x y zo zo (by rw [c,d])
   ·simp only [if_pos c, if_neg d] at e
    have:=i k y zo zo e; omega
   ·simp only [if_neg c, if_pos d] at e
    have:=i x k zo zo e; omega
   ·simp only [if_neg c, if_neg d] at e
    exact i x y zo zo e)
  omega
theorem a2G {z:List Qi} {js:List (Int × Int)} (h:Av z js = 0):2 * js.length ≤ z.length:=by
 have hj:=Gh h
 exact pig (f:=gq (iZ js)) hj.lt hj.inj
theorem Qu {z:List Qi} {js:List (Int × Int)} (h:Av z js = 0):(nP js).map (aD .i64) = ((Am js).map Nat.succ).map (NT .i64):=Ft (Rd h)
theorem Jl {js:List (Int × Int)} {x:Nat} (h:x < 2 * js.length):(Am js).getD x 0 = gq (iZ js) x:=by
 have hl:=qE js
 rw [jgq h,Am]
 simp [List.getD,show x < (nP js).length by omega]
theorem Tw (G:List Nat):(gnI G).map (aD .i64) = (G.map Nat.succ).map (NT .i64):=by
 simp only [gnI,List.map_map]
 refine List.map_congr_left fun x _=>?_
 simp [Function.comp,NT]
theorem Kt (x : Qi) (l m : List Qi) : ∀ k, sV x l m k = x + eC k fun y => gv l y * gv m y
 | 0=>by rw [sV,eC,show Qi.zero = (0:Qi) from rfl]; grind
 | k + 1=>by rw [sV,Kt x l m k,eC]; grind
theorem a1b {S:List (List Qi)} {ps:List (Nat × Nat)} {m a b:Nat}:sV (gm S a b) (tab m fun x=>gm S a (gq ps x)) (mA (sT S ps m) (yM S ps m b) m) m = Bu S ps m a b:=by
 rw [Kt,Bu]
 congr 1
 exact eP fun y hy=>by rw [pD hy]
theorem Lv {S : List (List Qi)} {ps : List (Nat × Nat)} {m L : Nat} (hf : bT S L) (hL : 1 ≤ L) : bT (sT S ps m) (L + 2) := bT.tab fun x y _ _ => by
 haveI h1:=hf.get hL (gq ps (qT x)) (gq ps y)
 haveI h2 : aN (if x = y then Qi.ofInt 1 else Qi.ofInt 0) 1 := by
  split
  ·exact nT
  ·exact (aN.zero (Nat.le_refl 1):aN Qi.zero 1)
 exact (fitSub:aN (_ - _) (1 + L + 1)).le zo
theorem Yp {S:List (List Qi)} {ps:List (Nat × Nat)} {m b L:Nat} (hf:bT S L) (hL:1 ≤ L):cC (yM S ps m b) L:=cC.tab fun x _=>hf.get hL _ _
theorem a1c {z:List Qi} {S:List (List Qi)} {js:List (Int × Int)} (hS:eR S z.length z.length):eR (Lm z S js) (Db z S js).length (Db z S js).length ∧ (Db z S js).length ≤ z.length:=by
 by_cases h:Fe z S js = 0
 ·by_cases h0 : js.length = 0
  ·rw [Lm,Db,iI,iI,if_pos h,if_pos h,if_pos h0,if_pos h0]; exact ⟨hS,Nat.le_refl _⟩
  ·rw [Lm,Db,iI,iI,if_pos h,if_pos h,if_neg h0,if_neg h0,a1H,Sd]; exact ⟨eR.tab,yA _ _⟩
 ·rw [Lm,Db,iI,iI,if_neg h,if_neg h]; exact ⟨⟨rfl,fun r hr=>by cases hr⟩,Nat.zero_le _⟩
end
section
open Go Go.RowKit
theorem uR {x y:Qi} {L M:Nat} (hx:aN x L) (hy:aN y M) (h:y ≠ 0):aN (x / y) (L + 3 * M + 2):=⟨hx.fit.div hy.fit h⟩
end
section
open Go Go.RowKit
section
variable {φ:Qi → Qi → Bool} {z:List Qi} {js:List (Int × Int)}
end
def hlf:Qi:=Qi.frac 1 0 2
section
variable {js:List (Int × Int)} {n:Nat}
end
theorem Dj : ∀ n, nR [] n = tab n fun i => i
 | 0=>rfl
 | n + 1=>by rw [nR,Dj n,jZ]; rfl
theorem Mu (n:Nat):(nR [] n).length = n:=by rw [Dj,aO]
theorem Zq {z:List Qi}:nO z (nR [] z.length) = z:=by
 rw [nO,Mu,Dj]
 apply List.ext_getElem?
 intro i
 by_cases hi:i < z.length
 ·rw [cE hi,fC,pX hi]; simp [gv,List.getD,hi]
 ·rw [List.getElem?_eq_none (by rw [aO]; omega),List.getElem?_eq_none zo]
end
section
open Go Go.RowKit
abbrev tY (s f:List (List Qi)) (n:Nat):List (List Qi):=zY s f n 2
abbrev kF (s f:List (List Qi)) (p:Nat):Qi:=Qi.ofInt 1 - gm f 1 1 * gm s p p
def qW (p i:Nat) (n:Nat):Nat:=if i < p then i else if i = p then n - 1 else i - 1
theorem Yv {p i n:Nat} (hp:p < n) (hi:i < n):mJ p (qW p i n) = if i = p then n else i:=by
 unfold qW mJ
 by_cases c:i < p
 ·rw [if_pos c,if_pos c,if_neg zo]
 ·rw [if_neg c]
  by_cases d:i = p
  ·rw [if_pos d,if_pos d,if_neg zo]; omega
  ·rw [if_neg d,if_neg d,if_neg zo]; omega
theorem Cz {p i n:Nat} (hi:i < n):qW p i n < n:=by unfold qW; split <;> (try split) <;> omega
def emL (n p : Nat) : Nat → List Nat
 | 0=>[]
 | k + 1=>emL n p k ++ (if k = p then [n - 1,k] else [k])
theorem Vl {n p : Nat} : ∀ k, emL n p k = tab (if p < k then k + 1 else k) fun i => qW p i n
 | 0=>rfl
 | k + 1 => by
  rw [emL,Vl k]
  by_cases c:k = p
  ·subst c
   rw [if_neg (Nat.lt_irrefl k),if_pos rfl,if_pos (Nat.lt_succ_self k),jZ,jZ,List.append_assoc]
   have e1:qW k k n = n - 1:=by unfold qW; rw [if_neg (Nat.lt_irrefl k),if_pos rfl]
   have e2:qW k (k + 1) n = k:=by unfold qW; rw [if_neg zo,if_neg zo]; omega
   rw [e1,e2]; rfl
  ·rw [if_neg c]
   by_cases d:p < k
   ·rw [if_pos d,if_pos zo,jZ (m:=k + 1),show qW p (k + 1) n = k by unfold qW; rw [if_neg zo,if_neg zo]; omega]
   ·rw [if_neg d,if_neg zo,jZ,show qW p k n = k by unfold qW; rw [if_pos zo]]
def Vw (n p:Nat):List Nat:=emL n p (n - 1) ++ (if p + 1 = n then [n - 1] else [])
theorem Iy {n p:Nat} (hp:p < n):Vw n p = tab n fun i=>qW p i n:=by
 rw [Vw,Vl]
 by_cases c:p + 1 = n
 ·rw [if_pos c, if_neg zo]
  have e:tab n (fun i=>qW p i n) = tab (n - 1 + 1) fun i=>qW p i n:=by rw [show n - 1 + 1 = n by omega]
  rw [e,jZ,show qW p (n - 1) n = n - 1 by unfold qW; rw [if_neg zo,if_pos zo]]
 ·rw [if_neg c,if_pos zo,List.append_nil,show n - 1 + 1 = n by omega]
def nI (s f : List (List Qi)) (p i j : Nat) : Qi :=
 if i = p ∧ j = p then gm f 0 0 + gm f 0 1 * (gm f 1 0 * (gm s p p / kF s f p))
 else if j = p then gm s i p / kF s f p * gm f 1 0
 else if i = p then gm f 0 1 * (gm s p j / kF s f p)
 else gm s i j + gm s i p / kF s f p * (gm f 1 1 * gm s p j)
def qB (s f:List (List Qi)) (p n:Nat):List (List Qi):=tab n fun i=>tab n fun j=>nI s f p i j
def pZ (z fz:List Qi) (port:Int) (x:Nat):Int:=if fz.length ≠ 2 then 4 else if ¬ (1 ≤ port ∧ port ≤ z.length) then 1 else if gv fz (x - 1) = gv z (port - 1).toNat then 0 else 40
theorem a0l {z fz:List Qi} {port:Int} {x:Nat} (h:pZ z fz port x = 0):fz.length = 2 ∧ (1 ≤ port ∧ port ≤ z.length) ∧ gv fz (x - 1) = gv z (port - 1).toNat:=by
 unfold pZ at h
 by_cases c1:fz.length = 2
 ·rw [if_neg (fun k => k c1)] at h
  by_cases c2:1 ≤ port ∧ port ≤ z.length
  ·rw [if_neg (fun k => k c2)] at h
   by_cases c3:gv fz (x - 1) = gv z (port - 1).toNat
   ·exact ⟨c1,c2,c3⟩
   ·rw [if_neg c3] at h; omega
  ·rw [if_pos c2] at h; omega
 ·rw [if_pos c1] at h; omega
def Fd (z:List Qi) (s:List (List Qi)) (fz:List Qi) (f:List (List Qi)) (port:Int):Int:=if pZ z fz port 2 ≠ 0 then pZ z fz port 2 else if kF s f (port - 1).toNat = Qi.zero then 6 else 0
theorem a0y {z fz:List Qi} {s f:List (List Qi)} {port:Int} (h:pZ z fz port 2 ≠ 0):Fd z s fz f port = pZ z fz port 2:=if_pos h
theorem a0A {z fz:List Qi} {s f:List (List Qi)} {port:Int} (h:pZ z fz port 2 = 0) (h2:kF s f (port - 1).toNat = Qi.zero):Fd z s fz f port = 6:=by rw [Fd,if_neg (fun k=>k h),if_pos h2]
theorem Jp {z fz:List Qi} {s f:List (List Qi)} {port:Int} (h:pZ z fz port 2 = 0) (h2:kF s f (port - 1).toNat ≠ Qi.zero):Fd z s fz f port = 0:=by rw [Fd,if_neg (fun k=>k h),if_neg h2]
def Vs (z:List Qi) (s:List (List Qi)) (fz:List Qi) (f:List (List Qi)) (port:Int):List Qi:=iI (Fd z s fz f port) (z.set (port - 1).toNat (gv fz 0))
def Vp (z:List Qi) (s:List (List Qi)) (fz:List Qi) (f:List (List Qi)) (port:Int):List (List Qi):=iI (Fd z s fz f port) (qB s f (port - 1).toNat z.length)
def oM (s f:List (List Qi)) (p:Nat):Qi:=gm f 0 1 * gm f 1 0 + gm f 1 1 * (gm s p p - gm f 0 0)
def Fc (s f : List (List Qi)) (p i j : Nat) : Qi :=
 if i = p ∧ j = p then (gm s p p - gm f 0 0) / oM s f p
 else if j = p then gm s i p / oM s f p * gm f 0 1
 else if i = p then gm f 1 0 * (gm s p j / oM s f p)
 else gm s i j - gm s i p / oM s f p * (gm f 1 1 * gm s p j)
def pP (s f:List (List Qi)) (p n:Nat):List (List Qi):=tab n fun i=>tab n fun j=>Fc s f p i j
def Bz (z:List Qi) (s:List (List Qi)) (fz:List Qi) (f:List (List Qi)) (port:Int):Int:=if pZ z fz port 1 ≠ 0 then pZ z fz port 1 else if gm f 0 1 = Qi.zero ∨ gm f 1 0 = Qi.zero ∨ oM s f (port - 1).toNat = Qi.zero then 6 else 0
def zB (z:List Qi) (s:List (List Qi)) (fz:List Qi) (f:List (List Qi)) (port:Int):List Qi:=iI (Bz z s fz f port) (z.set (port - 1).toNat (gv fz 1))
def Qw (z:List Qi) (s:List (List Qi)) (fz:List Qi) (f:List (List Qi)) (port:Int):List (List Qi):=iI (Bz z s fz f port) (pP s f (port - 1).toNat z.length)
theorem a0w {z fz:List Qi} {s f:List (List Qi)} {port:Int} (h:pZ z fz port 1 ≠ 0):Bz z s fz f port = pZ z fz port 1:=if_pos h
theorem Uw {z fz:List Qi} {s f:List (List Qi)} {port:Int} (h:pZ z fz port 1 = 0) (h2:gm f 0 1 = Qi.zero ∨ gm f 1 0 = Qi.zero ∨ oM s f (port - 1).toNat = Qi.zero):Bz z s fz f port = 6:=by rw [Bz,if_neg (fun k=>k h),if_pos h2]
theorem Sa {z fz:List Qi} {s f:List (List Qi)} {port:Int} (h:pZ z fz port 1 = 0) (h2:¬ (gm f 0 1 = Qi.zero ∨ gm f 1 0 = Qi.zero ∨ oM s f (port - 1).toNat = Qi.zero)):Bz z s fz f port = 0:=by rw [Bz,if_neg (fun k=>k h),if_neg h2]
end
section
open Go Go.RowKit
def tM (zl:List Rt) (zz:Qi):List Qi:=((oW 1 zl).map Rt.q).set 1 zz
def Dl (sl:List Rt):List (List Qi):=rq (tV 1 sl)
theorem vE (zl:List Rt) (zz:Qi):(tM zl zz).length = 2:=by rw [tM,List.length_set,List.length_map,oW,aO]; rfl
theorem Hg (zl:List Rt) (zz:Qi):gv (tM zl zz) 1 = zz:=by rw [tM,tC (by rw [List.length_map,oW,aO]; decide),if_pos rfl]
theorem rJ (sl:List Rt):eR (Dl sl) 2 2:=by
 obtain ⟨_,_,h,_⟩:=mK (yW 1 [] sl)
 have hl:((oW 1 []).map Rt.q).length = 2:=by rw [List.length_map,oW,aO]; rfl
 rw [hl] at h; exact h
theorem Qq (sl:List Rt):bT (Dl sl) 2:=bT.rt
theorem Hd (zl:List Rt) {zz:Qi} (h:aN zz 2):cC (tM zl zz) 2:=fun x hx=>(List.mem_or_eq_of_mem_set hx).elim (fun k=>(cC.rt:cC ((oW 1 zl).map Rt.q) 2) x k) fun e=>e ▸ h
theorem Rr (zl:List Rt) {zz:Qi} (h:kA zz = true):(tM zl zz).all kA = true:=by
 obtain ⟨_,_,_,hp⟩:=mK (yW 1 zl [])
 rw [List.all_eq_true] at hp ⊢
 intro x hx
 rcases List.mem_or_eq_of_mem_set hx with k | k
 ·exact hp x k
 ·rw [k]; exact h
theorem Xj (zl sl:List Rt) {zz:Qi} (h:kA zz = true):cD (tM zl zz) (Dl sl) = 0:=by
 have hs:=rJ sl
 have hz:=vE zl zz
 rw [cD,if_neg,if_pos (Rr zl h)]
 rintro (h | h | h | h)
 ·omega
 ·omega
 ·exact h (by rw [hs.1,hz])
 ·obtain ⟨r, hr, h2⟩ := List.any_eq_true.1 h
  simp [hs.2 r hr,hz] at h2
theorem Vg {a:Nat} {zl sl:List Rt} {zz:Qi} (hz:kA zz = true) (hf:aN zz 2):bB Tryz.prog 24 [zZ a zl sl,NT .i64 2,aE zz] (dN [bR (tM zl zz) (Dl sl),aC true]):=by
 have hzl:((oW 1 zl).map Rt.q).length = 2:=by rw [List.length_map,oW,aO]; rfl
 obtain ⟨z0,hz0⟩:∃ z0,z0 = ((oW 1 zl).map Rt.q):=⟨_,rfl⟩
 obtain ⟨s0,hs0⟩:∃ s0,s0 = Dl sl:=⟨_,rfl⟩
 have hsh:eR s0 2 2:=by rw [hs0]; exact rJ sl
 have hB:=Dw (a:=1) (zl:=zl) (sl:=sl) (by decide)
 rw [← hz0] at hzl
 rw [← hz0,show (rq (tV 1 sl)) = s0 from hs0.symm] at hB
 have hsl2:eR s0 z0.length z0.length:=by rw [hzl]; exact hsh
 have hrf : ∀ i, i < 2 → bB Tryz.prog 23 [bR z0 s0, NT .i64 (i + 1)] (dN [aE (gv z0 i), aD .i64 0]) := fun i hi => by
  have h:=Mh (z:=z0) (s:=s0) (i:=((i + 1:Nat):Int)) zo
  rw [show Vt z0 ((i + 1:Nat):Int) = gv z0 i from Ej zo,if_pos zo] at h; exact h
 have hat : ∀ i j, i < 2 → j < 2 → bB Tryz.prog 25 [bR z0 s0, NT .i64 (i + 1), NT .i64 (j + 1)] (dN [aE (gm s0 i j), aD .i64 0]) := fun i j hi hj => by
  have h:=Ol (z:=z0) (s:=s0) (i:=((i + 1:Nat):Int)) (j:=((j + 1:Nat):Int)) hsl2 zo
  rw [show Ot z0.length s0 ((i + 1:Nat):Int) ((j + 1:Nat):Int) = gm s0 i j from yC zo zo,if_pos zo] at h; exact h
 have hnw : bB Tryz.prog 85 [bA (tM zl zz), dM s0] (dN [bR (tM zl zz) s0, aD .i64 0]) := by
  have h:=vF (z:=tM zl zz) (s:=s0) (L:=2) (Hd zl hf) (by decide) (by rw [vE]; decide) (by rw [hsh.1]; decide)
  rw [show cD (tM zl zz) s0 = 0 by rw [hs0]; exact Xj zl sl hz] at h; exact h
 refine bB.intro Tryz.func24 rfl Tryz.ntmps24 rfl (fun cx=>(ts (rn rfl (fU (Ht rfl)) fun B3=>(rn rfl (fU (Ht rfl)) fun B5=>(rn rfl (eG (Ts:=[Is (.slice none 0 0),Is (.slice none 0 0)]) O_32 rfl (fun V=>aW zd (aW zd (aG)))) fun B6=>(ro rfl (cQ cV) (eZ (ts (ro rfl (eJ Cw (Ht rfl) rfl) (jL Z_5 (Ht rfl) (cJ 1) (i:=0) rfl (aK rfl) rfl (eZ (ts (ro rfl (eW A_57 Z_57 (Ht rfl) (i:=0) rfl rfl rfl) (ro rfl (cZ Tryz.call21 hB ⟨(Ht rfl),trivial⟩) ?_))))))))))))))
 refine rm rfl (ro rfl (dU (Ht rfl) rfl) (ro rfl (dU (Ht rfl) rfl) (ro rfl (dU (Ht rfl) rfl) (rn rfl (eG (Ts:=[Is (.slice none 0 0),Is (.slice none 0 0)]) O_32 rfl (fun V=>aW zd (aW zd (aG)))) fun B8=>(rn rfl (eG (Ts:=[Is (.slice none 0 0),Is (.slice none 0 0)]) O_38 rfl (fun V=>aW zd (aW zd (aG)))) fun B9=>(gJ Z_32 (Ht rfl) (Ht rfl) rfl (i:=3) rfl (aK rfl) rfl rfl (gJ Z_38 (Ht rfl) (Ht rfl) rfl (i:=4) rfl (aK rfl) rfl rfl ?_)))))))
 refine ra rfl (eZ (cK (ts (rm rfl (ro rfl (eH (Ht rfl)) (eZ (fN (Ht rfl) (by rfl) ?_)))))))
 refine cU (ts (rn rfl (gR (T:=aE Qi.zero) (i:=Tryz.t51) kD iS rfl rfl (cJ 2) rfl gS (El.ag rfl) (by show 88 * _ ≤ _; omega) zo) fun B27=>(ra rfl (eZ (ts (rn rfl (fS (T:=Is (.slice none 0 0)) (i:=Tryz.t29) V_30 sC rfl rfl (cJ 2) rfl (fun _=>rfl) trivial (by show 24 * _ ≤ _; omega) zo) fun B28=>(ra rfl (eZ (cK (ts (ro rfl (cX (cJ 0)) (eZ (eK (lT 6 rfl (uL (e:=51) (s:=5)) (bL [1,2,3,5,6] rfl (by decide) ?_)))))))))))))))
 refine cM (fun (i : Nat) => i ≤ 2) (fun (i : Nat) => 2 - i) (fun (i : Nat) => [(1, NT .i64 2), (5, bO B5 0), (6, bO B6 0), (8, bO B8 0), (11, Is B27), (12, Is (.slice (some ⟨B28, 0, none⟩) 2 2)), (29, NT .i64 i)]) (fun (i : Nat) => [box B5 51 [aC (decide (zz.a < 0)), aH zz.a.natAbs, aC (decide (zz.b < 0)), aH zz.b.natAbs, aH (du zz)], box B6 32 [Is (.slice none 0 0), Is (.slice none 0 0)], box B8 32 [bA z0, dM s0], bM 51 5 B27 ((jR (gv z0) Qi.zero 2 i).map aE), nJ B28 29 51 5 (dO aE (jR (fun i => tab 2 fun j => gm s0 i j) [] 2 i))]) 0 (Nat.zero_le _)
  (zS rfl) (aU (aB rfl) (aU (aB rfl) (aU (aB rfl) (aU (aR (by rw [← iH]; exact nG aE 2)) (aU (fA (by rw [← iH,pO]; exact rH aE 2)) aY))))) (fun i hi=>?_)
 refine ts (ro rfl (gV (Ht rfl) (cJ 2)) (eZ (cK (dQ (Ht rfl) (fun hd=>?_) (fun hd=>?_)))))
 ·have hi2 : i < 2 := by simp only [decide_eq_true_eq] at hd; omega
  refine cU (cK (eK (ts (rm rfl (ra rfl (eZ (ts (rm rfl (rm rfl (ro rfl (eW A_32 Z_32 (Ht rfl) (i:=2) rfl rfl rfl) (rm rfl (ro rfl (dW (Ht rfl) (cJ 1) z6) (ro rfl (cZ Tryz.call23 (hrf i hi2) ⟨(Ht rfl),(Ht rfl),trivial⟩) (rm rfl (ro rfl (dU (Ht rfl) rfl) (ro rfl (dU (Ht rfl) rfl) (ro rfl (dE U_29 Z_51 (Ht rfl) (Ht rfl) rfl (i:=3) rfl (by rw [List.length_map,cO]; omega) rfl) ?_)))))))))))))))))
  refine kS Z_51 (Ht rfl) (Ht rfl) (El.ag rfl) (i:=3) rfl rfl (by rw [List.length_map,cO]; omega) rfl ?_
  refine eZ (cK (lT 3 rfl (aR (by rw [fM,jI (f:=gv z0)])) ?_))
  refine oS 4 (i) rfl (tZ hi2) (fun v0=>(cY (rm rfl (rm rfl (rn rfl (gR (T:=aE Qi.zero) (i:=Tryz.t51) kD iS rfl rfl (cJ 2) rfl gS (El.ag rfl) (by show 88 * _ ≤ _; omega) zo) fun B44=>(ro rfl (gX U_30 Z_29 (Ht rfl) (Ht rfl) rfl zo (by rw [Nat.mul_one,Nat.zero_add])) ?_))))))
  refine yX Z_29 (Ht rfl) (Ht rfl) (by simp only [dO,List.length_map,cO]; omega) (j:=4) (l:=6) rfl rfl rfl ?_
  refine eZ (cK (bL [0,1,2,3,4,6] rfl (by decide) (cY (ro rfl (cX (cJ 0)) (eZ (eK ?_))))))
  refine cM (fun (j : Nat) => j ≤ 2) (fun (j : Nat) => 2 - j) (fun (j : Nat) => [(1, NT .i64 2), (5, bO B5 0), (6, bO B6 0), (8, bO B8 0), (11, Is B27), (12, Is (.slice (some ⟨B28, 0, none⟩) 2 2)), (13, NT .i64 i), (29, NT .i64 i), (46, NT .i64 j)]) (fun (j : Nat) => [box B5 51 [aC (decide (zz.a < 0)), aH zz.a.natAbs, aC (decide (zz.b < 0)), aH zz.b.natAbs, aH (du zz)], box B6 32 [Is (.slice none 0 0), Is (.slice none 0 0)], box B8 32 [bA z0, dM s0], bM 51 5 B27 ((jR (gv z0) Qi.zero 2 (i + 1)).map aE), Gx B28 29 51 5 (dO aE (jR (fun i => tab 2 fun j => gm s0 i j) [] 2 i)) i B44, bM 51 5 B44 ((jR (fun j => gm s0 i j) Qi.zero 2 j).map aE)]) 0 (Nat.zero_le _)
   (zS rfl) (aU (aB rfl) (aU (aB rfl) (aU (aB rfl) (aU (fun _ _ _ h=>h) (aU (fun _ _ _ h=>h) (aU (aR (by rw [← iH]; exact nG aE 2)) aY)))))) (fun j hj=>?_)
  refine ts (ro rfl (gV (Ht rfl) (cJ 2)) (eZ (cK (dQ (Ht rfl) (fun he=>?_) (fun he=>?_)))))
  ·have hj2 : j < 2 := by simp only [decide_eq_true_eq] at he; omega
   refine cU (cK (eK (ts (rm rfl (ra rfl (eZ (W.D_start (m:=16) (fun b=>cond b ([box B5 51 [aC (decide (zz.a < 0)),aH zz.a.natAbs,aC (decide (zz.b < 0)),aH zz.b.natAbs,aH (du zz)],box B6 32 [Is (.slice none 0 0),Is (.slice none 0 0)],box B8 32 [bA z0,dM s0],bM 51 5 B27 ((jR (gv z0) Qi.zero 2 (i + 1)).map aE),Gx B28 29 51 5 (dO aE (jR (fun i=>tab 2 fun j=>gm s0 i j) [] 2 i)) i B44,bM 51 5 B44 (((jR (fun j=>gm s0 i j) Qi.zero 2 j).map aE).set j (aE (gm s0 i j)))]) _) 15 (W.D_step (Ei:=[(12,_)]) rfl rfl (W.Srcs.cons (W.Src.pre rfl rfl) W.Srcs.nil) rfl (by kernel_rfl) (dX rfl (cX (Ht rfl))) ?_))))))))
   refine W.D_step (Ei:=[(13,_)]) rfl rfl (W.Srcs.cons (W.Src.pre rfl rfl) W.Srcs.nil) rfl (by kernel_rfl) (dX rfl (cX (Ht rfl))) (W.D_step (Ei:=[(50,_),(51,_)]) rfl rfl (W.Srcs.cons (W.Src.op 0 rfl rfl) (W.Srcs.cons (W.Src.op 1 rfl rfl) W.Srcs.nil)) rfl (by kernel_rfl) (dX rfl (gX U_30 Z_29 (Ht rfl) (Ht rfl) rfl zo (by rw [Nat.mul_one,Nat.zero_add]))) ?_)
   refine W.D_step (Ei:=[(52,_)]) rfl rfl (W.Srcs.cons (W.Src.op 2 rfl rfl) W.Srcs.nil) rfl (by kernel_rfl) (dX rfl (mH A_29 Z_29 (Ht rfl) (j:=4) rfl)) (W.D_step (Ei:=[(14,_)]) rfl rfl (W.Srcs.cons (W.Src.pre rfl rfl) W.Srcs.nil) rfl (by kernel_rfl) (dX rfl (cX (Ht rfl))) (W.D_step (Ei:=[(8,_)]) rfl rfl (W.Srcs.cons (W.Src.pre rfl rfl) W.Srcs.nil) rfl (by kernel_rfl) (dX rfl (eW A_32 Z_32 (Ht rfl) (i:=2) rfl rfl rfl)) (W.D_step (Ei:=[(13,_)]) rfl rfl (W.Srcs.cons (W.Src.pre rfl rfl) W.Srcs.nil) rfl (by kernel_rfl) (dX rfl (cX (Ht rfl))) ?_)))
   refine W.D_step (Ei:=[(56,_)]) rfl rfl (W.Srcs.cons (W.Src.op 6 rfl rfl) W.Srcs.nil) rfl (by kernel_rfl) (dX rfl (dW (Ht rfl) (cJ 1) z6)) (W.D_step (Ei:=[(14,_)]) rfl rfl (W.Srcs.cons (W.Src.pre rfl rfl) W.Srcs.nil) rfl (by kernel_rfl) (dX rfl (cX (Ht rfl))) (W.D_step (Ei:=[(58,_)]) rfl rfl (W.Srcs.cons (W.Src.op 8 rfl rfl) W.Srcs.nil) rfl (by kernel_rfl) (dX rfl (dW (Ht rfl) (cJ 1) z6)) (W.D_step (Ei:=[(55,_),(57,_),(59,_)]) rfl rfl (W.Srcs.cons (W.Src.op 5 rfl rfl) (W.Srcs.cons (W.Src.op 7 rfl rfl) (W.Srcs.cons (W.Src.op 9 rfl rfl) W.Srcs.nil))) rfl (by kernel_rfl) (dX rfl (cZ K_25 (hat i j hi2 hj2) ⟨(Ht rfl),(Ht rfl),(Ht rfl),trivial⟩)) ?_)))
   refine W.D_step (Ei:=[(60,_)]) rfl rfl (W.Srcs.cons (W.Src.op 10 rfl rfl) W.Srcs.nil) rfl (by kernel_rfl) (dX rfl (cX (Ht rfl))) (W.D_step (Ei:=[(49,_)]) rfl rfl (W.Srcs.cons (W.Src.op 11 rfl rfl) W.Srcs.nil) rfl (by kernel_rfl) (dX rfl (dU (Ht rfl) rfl)) (W.D_pure (Ei:=[(49,_)]) rfl rfl (W.Srcs.cons (W.Src.op 11 rfl rfl) W.Srcs.nil) rfl (fun _=>dX rfl (dU (Ht rfl) rfl)) (W.D_step (Ei:=[(53,_),(54,_)]) rfl rfl (W.Srcs.cons (W.Src.op 3 rfl rfl) (W.Srcs.cons (W.Src.op 4 rfl rfl) W.Srcs.nil)) rfl (by kernel_rfl) (dX rfl (dE U_29 Z_51 (Ht rfl) (Ht rfl) rfl (i:=5) rfl (by rw [List.length_map,cO]; omega) rfl)) ?_)))
   refine W.D_put (Ei:=[(63,_),(61,_)]) rfl rfl (W.Srcs.cons (W.Src.op 14 rfl rfl) (W.Srcs.cons (W.Src.op 12 rfl rfl) W.Srcs.nil)) rfl (Bv Z_51 (Ht rfl) (Ht rfl) (El.ag rfl) (i:=5) rfl rfl (by rw [List.length_map,cO]; omega)) ?_
   refine W.D_done bF rfl (by kernel_rfl) rfl (W.F_val (W.F_val (W.F_val (W.F_val (W.F_val (W.F_val (W.F_val (W.F_val (W.F_val (W.F_val (W.F_val (W.F_val (W.F_val (W.F_val (W.F_val (W.F_put (W.F_nil (eZ (bH (cY (ro rfl (dW (Ht rfl) (cJ 1) z6) (rm rfl (eZ (gQ (j + 1) hj2 zo (zS rfl) (aU (aB rfl) (aU (aB rfl) (aU (aB rfl) (aU (fun _ _ _ h=>h) (aU (fun _ _ _ h=>h) (aU (aR (by rw [fM]; exact congrArg _ (jI (f:=(fun j=>gm s0 i j))))) aY))))))))))))))))))))))))))))))
  ·obtain rfl : j = 2 := by simp only [decide_eq_false_iff_not] at he; omega
   rw [jJ (fun j=>gm s0 i j)]
   refine gK rfl (bH (kR 4 5 rfl rfl (by decide) (by simp only [dO,List.length_map,cO]; omega) ?_))
   refine cY (ro rfl (dW (Ht rfl) (cJ 1) z6) (rm rfl (eZ (bL [0,1,2,3,4] rfl (by decide) (gQ (i + 1) hi2 zo (zS rfl) (aU (aB rfl) (aU (aB rfl) (aU (aB rfl) (aU (fun _ _ _ h=>h) (aU (fA (by rw [kZ]; exact congrArg _ (jI (f:=(fun i=>tab 2 fun j=>gm s0 i j))))) aY))))))))))
 ·obtain rfl : i = 2 := by simp only [decide_eq_false_iff_not] at hd; omega
  rw [jJ,jJ]
  have hzt:tab 2 (gv z0) = z0:=by rw [← hzl]; exact (yQ rfl).symm
  have hst:(tab 2 fun i=>tab 2 fun j=>gm s0 i j) = s0:=(qN hsh).symm
  rw [hzt,hst]
  refine gK rfl (ts (rm rfl (rm rfl (ro rfl (dG (Ht rfl) (cJ 1) zo z6) (ro rfl (eW A_51 Z_51 (Ht rfl) (i:=0) rfl rfl rfl) (ro rfl (dE U_29 Z_51 (Ht rfl) (Ht rfl) rfl (i:=3) rfl (by rw [List.length_map]; omega) rfl) ?_))))))
  refine kS Z_51 (Ht rfl) (Ht rfl) (El.ag rfl) (i:=3) rfl rfl (by rw [List.length_map]; omega) rfl ?_
  refine eZ (cK (lT 3 rfl (aR ((fM aE z0 1 zz).trans (by rw [hz0]; rfl)):∀ S m V,_ → (bM 51 5 B27 ((tM zl zz).map aE)).h S m V) ?_))
  refine gG (i:=3) (tt:=11) rfl rfl fP (gG (i:=4) (tt:=12) rfl rfl (qY (s:=5) (M:=s0) hsh.1.symm) (cY (rm rfl (rm rfl (ro rfl (cZ Tryz.call85 hnw ⟨(Ht rfl),(Ht rfl),trivial⟩) (rm rfl (ro rfl (dU (Ht rfl) rfl) (ro rfl (dU (Ht rfl) rfl) (rn rfl (eG (Ts:=[Is (.slice none 0 0),Is (.slice none 0 0)]) O_32 rfl (fun V=>aW zd (aW zd (aG)))) fun B15=>(gJ Z_32 (Ht rfl) (Ht rfl) rfl (i:=5) rfl (aK rfl) rfl rfl (ra rfl (eZ ?_))))))))))))
  refine cK (bL [0,1,2,3,4,5] rfl (by decide) (cY (ro rfl (eW A_32 Z_32 (Ht rfl) (i:=5) rfl rfl rfl) (rm rfl (ro rfl (iW (Ht rfl) cV) (gJ Z_32 (Ht rfl) (Ht rfl) rfl (i:=1) rfl (aK rfl) rfl rfl (ra rfl (eZ (bI rfl (fJ (fY A_32 Z_32 rfl (i:=1) rfl rfl) ?_) (eY rfl))))))))))
  exact (fun v V h=>by rw [← hs0]; exact h)
end
section
open Go Go.RowKit
def tQ (zl:List Rt) (zz:Qi):List Qi:=((oW 1 zl).map Rt.q).set 0 zz
theorem uH (zl:List Rt) (zz:Qi):(tQ zl zz).length = 2:=by rw [tQ,List.length_set,List.length_map,oW,aO]; rfl
theorem Gq (zl:List Rt) (zz:Qi):gv (tQ zl zz) 0 = zz:=by rw [tQ,tC (by rw [List.length_map,oW,aO]; decide),if_pos rfl]
theorem Hh (zl:List Rt) {zz:Qi} (h:aN zz 2):cC (tQ zl zz) 2:=fun x hx=>(List.mem_or_eq_of_mem_set hx).elim (fun k=>(cC.rt:cC ((oW 1 zl).map Rt.q) 2) x k) fun e=>e ▸ h
theorem Qg (zl:List Rt) {zz:Qi} (h:kA zz = true):(tQ zl zz).all kA = true:=by
 obtain ⟨_,_,_,hp⟩:=mK (yW 1 zl [])
 rw [List.all_eq_true] at hp ⊢
 intro x hx
 rcases List.mem_or_eq_of_mem_set hx with k | k
 ·exact hp x k
 ·rw [k]; exact h
theorem Ww (zl sl:List Rt) {zz:Qi} (h:kA zz = true):cD (tQ zl zz) (Dl sl) = 0:=by
 have hs:=rJ sl
 have hz:=uH zl zz
 rw [cD,if_neg,if_pos (Qg zl h)]
 rintro (h | h | h | h)
 ·omega
 ·omega
 ·exact h (by rw [hs.1,hz])
 ·obtain ⟨r, hr, h2⟩ := List.any_eq_true.1 h
  simp [hs.2 r hr,hz] at h2
theorem Nu {a:Nat} {zl sl:List Rt} {zz:Qi} (hz:kA zz = true) (hf:aN zz 2):bB Tryz.prog 24 [zZ a zl sl,NT .i64 1,aE zz] (dN [bR (tQ zl zz) (Dl sl),aC true]):=by
 have hzl:((oW 1 zl).map Rt.q).length = 2:=by rw [List.length_map,oW,aO]; rfl
 obtain ⟨z0,hz0⟩:∃ z0,z0 = ((oW 1 zl).map Rt.q):=⟨_,rfl⟩
 obtain ⟨s0,hs0⟩:∃ s0,s0 = Dl sl:=⟨_,rfl⟩
 have hsh:eR s0 2 2:=by rw [hs0]; exact rJ sl
 have hB:=Dw (a:=1) (zl:=zl) (sl:=sl) (by decide)
 rw [← hz0] at hzl
 rw [← hz0,show (rq (tV 1 sl)) = s0 from hs0.symm] at hB
 have hsl2:eR s0 z0.length z0.length:=by rw [hzl]; exact hsh
 have hrf : ∀ i, i < 2 → bB Tryz.prog 23 [bR z0 s0, NT .i64 (i + 1)] (dN [aE (gv z0 i), aD .i64 0]) := fun i hi => by
  have h:=Mh (z:=z0) (s:=s0) (i:=((i + 1:Nat):Int)) zo
  rw [show Vt z0 ((i + 1:Nat):Int) = gv z0 i from Ej zo,if_pos zo] at h; exact h
 have hat : ∀ i j, i < 2 → j < 2 → bB Tryz.prog 25 [bR z0 s0, NT .i64 (i + 1), NT .i64 (j + 1)] (dN [aE (gm s0 i j), aD .i64 0]) := fun i j hi hj => by
  have h:=Ol (z:=z0) (s:=s0) (i:=((i + 1:Nat):Int)) (j:=((j + 1:Nat):Int)) hsl2 zo
  rw [show Ot z0.length s0 ((i + 1:Nat):Int) ((j + 1:Nat):Int) = gm s0 i j from yC zo zo,if_pos zo] at h; exact h
 have hnw : bB Tryz.prog 85 [bA (tQ zl zz), dM s0] (dN [bR (tQ zl zz) s0, aD .i64 0]) := by
  have h:=vF (z:=tQ zl zz) (s:=s0) (L:=2) (Hh zl hf) (by decide) (by rw [uH]; decide) (by rw [hsh.1]; decide)
  rw [show cD (tQ zl zz) s0 = 0 by rw [hs0]; exact Ww zl sl hz] at h; exact h
 refine bB.intro Tryz.func24 rfl Tryz.ntmps24 rfl (fun cx=>(ts (rn rfl (fU (Ht rfl)) fun B3=>(rn rfl (fU (Ht rfl)) fun B5=>(rn rfl (eG (Ts:=[Is (.slice none 0 0),Is (.slice none 0 0)]) O_32 rfl (fun V=>aW zd (aW zd (aG)))) fun B6=>(ro rfl (cQ cV) (eZ (ts (ro rfl (eJ Cw (Ht rfl) rfl) (jL Z_5 (Ht rfl) (cJ 1) (i:=0) rfl (aK rfl) rfl (eZ (ts (ro rfl (eW A_57 Z_57 (Ht rfl) (i:=0) rfl rfl rfl) (ro rfl (cZ Tryz.call21 hB ⟨(Ht rfl),trivial⟩) ?_))))))))))))))
 refine rm rfl (ro rfl (dU (Ht rfl) rfl) (ro rfl (dU (Ht rfl) rfl) (ro rfl (dU (Ht rfl) rfl) (rn rfl (eG (Ts:=[Is (.slice none 0 0),Is (.slice none 0 0)]) O_32 rfl (fun V=>aW zd (aW zd (aG)))) fun B8=>(rn rfl (eG (Ts:=[Is (.slice none 0 0),Is (.slice none 0 0)]) O_38 rfl (fun V=>aW zd (aW zd (aG)))) fun B9=>(gJ Z_32 (Ht rfl) (Ht rfl) rfl (i:=3) rfl (aK rfl) rfl rfl (gJ Z_38 (Ht rfl) (Ht rfl) rfl (i:=4) rfl (aK rfl) rfl rfl ?_)))))))
 refine ra rfl (eZ (cK (ts (rm rfl (ro rfl (eH (Ht rfl)) (eZ (fN (Ht rfl) (by rfl) ?_)))))))
 refine cU (ts (rn rfl (gR (T:=aE Qi.zero) (i:=Tryz.t51) kD iS rfl rfl (cJ 2) rfl gS (El.ag rfl) (by show 88 * _ ≤ _; omega) zo) fun B27=>(ra rfl (eZ (ts (rn rfl (fS (T:=Is (.slice none 0 0)) (i:=Tryz.t29) V_30 sC rfl rfl (cJ 2) rfl (fun _=>rfl) trivial (by show 24 * _ ≤ _; omega) zo) fun B28=>(ra rfl (eZ (cK (ts (ro rfl (cX (cJ 0)) (eZ (eK (lT 6 rfl (uL (e:=51) (s:=5)) (bL [1,2,3,5,6] rfl (by decide) ?_)))))))))))))))
 refine cM (fun (i : Nat) => i ≤ 2) (fun (i : Nat) => 2 - i) (fun (i : Nat) => [(1, NT .i64 1), (5, bO B5 0), (6, bO B6 0), (8, bO B8 0), (11, Is B27), (12, Is (.slice (some ⟨B28, 0, none⟩) 2 2)), (29, NT .i64 i)]) (fun (i : Nat) => [box B5 51 [aC (decide (zz.a < 0)), aH zz.a.natAbs, aC (decide (zz.b < 0)), aH zz.b.natAbs, aH (du zz)], box B6 32 [Is (.slice none 0 0), Is (.slice none 0 0)], box B8 32 [bA z0, dM s0], bM 51 5 B27 ((jR (gv z0) Qi.zero 2 i).map aE), nJ B28 29 51 5 (dO aE (jR (fun i => tab 2 fun j => gm s0 i j) [] 2 i))]) 0 (Nat.zero_le _)
  (zS rfl) (aU (aB rfl) (aU (aB rfl) (aU (aB rfl) (aU (aR (by rw [← iH]; exact nG aE 2)) (aU (fA (by rw [← iH,pO]; exact rH aE 2)) aY))))) (fun i hi=>?_)
 refine ts (ro rfl (gV (Ht rfl) (cJ 2)) (eZ (cK (dQ (Ht rfl) (fun hd=>?_) (fun hd=>?_)))))
 ·have hi2 : i < 2 := by simp only [decide_eq_true_eq] at hd; omega
  refine cU (cK (eK (ts (rm rfl (ra rfl (eZ (ts (rm rfl (rm rfl (ro rfl (eW A_32 Z_32 (Ht rfl) (i:=2) rfl rfl rfl) (rm rfl (ro rfl (dW (Ht rfl) (cJ 1) z6) (ro rfl (cZ Tryz.call23 (hrf i hi2) ⟨(Ht rfl),(Ht rfl),trivial⟩) (rm rfl (ro rfl (dU (Ht rfl) rfl) (ro rfl (dU (Ht rfl) rfl) (ro rfl (dE U_29 Z_51 (Ht rfl) (Ht rfl) rfl (i:=3) rfl (by rw [List.length_map,cO]; omega) rfl) ?_)))))))))))))))))
  refine kS Z_51 (Ht rfl) (Ht rfl) (El.ag rfl) (i:=3) rfl rfl (by rw [List.length_map,cO]; omega) rfl ?_
  refine eZ (cK (lT 3 rfl (aR (by rw [fM,jI (f:=gv z0)])) ?_))
  refine oS 4 (i) rfl (tZ hi2) (fun v0=>(cY (rm rfl (rm rfl (rn rfl (gR (T:=aE Qi.zero) (i:=Tryz.t51) kD iS rfl rfl (cJ 2) rfl gS (El.ag rfl) (by show 88 * _ ≤ _; omega) zo) fun B44=>(ro rfl (gX U_30 Z_29 (Ht rfl) (Ht rfl) rfl zo (by rw [Nat.mul_one,Nat.zero_add])) ?_))))))
  refine yX Z_29 (Ht rfl) (Ht rfl) (by simp only [dO,List.length_map,cO]; omega) (j:=4) (l:=6) rfl rfl rfl ?_
  refine eZ (cK (bL [0,1,2,3,4,6] rfl (by decide) (cY (ro rfl (cX (cJ 0)) (eZ (eK ?_))))))
  refine cM (fun (j : Nat) => j ≤ 2) (fun (j : Nat) => 2 - j) (fun (j : Nat) => [(1, NT .i64 1), (5, bO B5 0), (6, bO B6 0), (8, bO B8 0), (11, Is B27), (12, Is (.slice (some ⟨B28, 0, none⟩) 2 2)), (13, NT .i64 i), (29, NT .i64 i), (46, NT .i64 j)]) (fun (j : Nat) => [box B5 51 [aC (decide (zz.a < 0)), aH zz.a.natAbs, aC (decide (zz.b < 0)), aH zz.b.natAbs, aH (du zz)], box B6 32 [Is (.slice none 0 0), Is (.slice none 0 0)], box B8 32 [bA z0, dM s0], bM 51 5 B27 ((jR (gv z0) Qi.zero 2 (i + 1)).map aE), Gx B28 29 51 5 (dO aE (jR (fun i => tab 2 fun j => gm s0 i j) [] 2 i)) i B44, bM 51 5 B44 ((jR (fun j => gm s0 i j) Qi.zero 2 j).map aE)]) 0 (Nat.zero_le _)
   (zS rfl) (aU (aB rfl) (aU (aB rfl) (aU (aB rfl) (aU (fun _ _ _ h=>h) (aU (fun _ _ _ h=>h) (aU (aR (by rw [← iH]; exact nG aE 2)) aY)))))) (fun j hj=>?_)
  refine ts (ro rfl (gV (Ht rfl) (cJ 2)) (eZ (cK (dQ (Ht rfl) (fun he=>?_) (fun he=>?_)))))
  ·have hj2 : j < 2 := by simp only [decide_eq_true_eq] at he; omega
   refine cU (cK (eK (ts (rm rfl (ra rfl (eZ (W.D_start (m:=16) (fun b=>cond b ([box B5 51 [aC (decide (zz.a < 0)),aH zz.a.natAbs,aC (decide (zz.b < 0)),aH zz.b.natAbs,aH (du zz)],box B6 32 [Is (.slice none 0 0),Is (.slice none 0 0)],box B8 32 [bA z0,dM s0],bM 51 5 B27 ((jR (gv z0) Qi.zero 2 (i + 1)).map aE),Gx B28 29 51 5 (dO aE (jR (fun i=>tab 2 fun j=>gm s0 i j) [] 2 i)) i B44,bM 51 5 B44 (((jR (fun j=>gm s0 i j) Qi.zero 2 j).map aE).set j (aE (gm s0 i j)))]) _) 15 (W.D_step (Ei:=[(12,_)]) rfl rfl (W.Srcs.cons (W.Src.pre rfl rfl) W.Srcs.nil) rfl (by kernel_rfl) (dX rfl (cX (Ht rfl))) ?_))))))))
   refine W.D_step (Ei:=[(13,_)]) rfl rfl (W.Srcs.cons (W.Src.pre rfl rfl) W.Srcs.nil) rfl (by kernel_rfl) (dX rfl (cX (Ht rfl))) (W.D_step (Ei:=[(50,_),(51,_)]) rfl rfl (W.Srcs.cons (W.Src.op 0 rfl rfl) (W.Srcs.cons (W.Src.op 1 rfl rfl) W.Srcs.nil)) rfl (by kernel_rfl) (dX rfl (gX U_30 Z_29 (Ht rfl) (Ht rfl) rfl zo (by rw [Nat.mul_one,Nat.zero_add]))) ?_)
   refine W.D_step (Ei:=[(52,_)]) rfl rfl (W.Srcs.cons (W.Src.op 2 rfl rfl) W.Srcs.nil) rfl (by kernel_rfl) (dX rfl (mH A_29 Z_29 (Ht rfl) (j:=4) rfl)) (W.D_step (Ei:=[(14,_)]) rfl rfl (W.Srcs.cons (W.Src.pre rfl rfl) W.Srcs.nil) rfl (by kernel_rfl) (dX rfl (cX (Ht rfl))) (W.D_step (Ei:=[(8,_)]) rfl rfl (W.Srcs.cons (W.Src.pre rfl rfl) W.Srcs.nil) rfl (by kernel_rfl) (dX rfl (eW A_32 Z_32 (Ht rfl) (i:=2) rfl rfl rfl)) (W.D_step (Ei:=[(13,_)]) rfl rfl (W.Srcs.cons (W.Src.pre rfl rfl) W.Srcs.nil) rfl (by kernel_rfl) (dX rfl (cX (Ht rfl))) ?_)))
   refine W.D_step (Ei:=[(56,_)]) rfl rfl (W.Srcs.cons (W.Src.op 6 rfl rfl) W.Srcs.nil) rfl (by kernel_rfl) (dX rfl (dW (Ht rfl) (cJ 1) z6)) (W.D_step (Ei:=[(14,_)]) rfl rfl (W.Srcs.cons (W.Src.pre rfl rfl) W.Srcs.nil) rfl (by kernel_rfl) (dX rfl (cX (Ht rfl))) (W.D_step (Ei:=[(58,_)]) rfl rfl (W.Srcs.cons (W.Src.op 8 rfl rfl) W.Srcs.nil) rfl (by kernel_rfl) (dX rfl (dW (Ht rfl) (cJ 1) z6)) (W.D_step (Ei:=[(55,_),(57,_),(59,_)]) rfl rfl (W.Srcs.cons (W.Src.op 5 rfl rfl) (W.Srcs.cons (W.Src.op 7 rfl rfl) (W.Srcs.cons (W.Src.op 9 rfl rfl) W.Srcs.nil))) rfl (by kernel_rfl) (dX rfl (cZ K_25 (hat i j hi2 hj2) ⟨(Ht rfl),(Ht rfl),(Ht rfl),trivial⟩)) ?_)))
   refine W.D_step (Ei:=[(60,_)]) rfl rfl (W.Srcs.cons (W.Src.op 10 rfl rfl) W.Srcs.nil) rfl (by kernel_rfl) (dX rfl (cX (Ht rfl))) (W.D_step (Ei:=[(49,_)]) rfl rfl (W.Srcs.cons (W.Src.op 11 rfl rfl) W.Srcs.nil) rfl (by kernel_rfl) (dX rfl (dU (Ht rfl) rfl)) (W.D_pure (Ei:=[(49,_)]) rfl rfl (W.Srcs.cons (W.Src.op 11 rfl rfl) W.Srcs.nil) rfl (fun _=>dX rfl (dU (Ht rfl) rfl)) (W.D_step (Ei:=[(53,_),(54,_)]) rfl rfl (W.Srcs.cons (W.Src.op 3 rfl rfl) (W.Srcs.cons (W.Src.op 4 rfl rfl) W.Srcs.nil)) rfl (by kernel_rfl) (dX rfl (dE U_29 Z_51 (Ht rfl) (Ht rfl) rfl (i:=5) rfl (by rw [List.length_map,cO]; omega) rfl)) ?_)))
   refine W.D_put (Ei:=[(63,_),(61,_)]) rfl rfl (W.Srcs.cons (W.Src.op 14 rfl rfl) (W.Srcs.cons (W.Src.op 12 rfl rfl) W.Srcs.nil)) rfl (Bv Z_51 (Ht rfl) (Ht rfl) (El.ag rfl) (i:=5) rfl rfl (by rw [List.length_map,cO]; omega)) ?_
   refine W.D_done bF rfl (by kernel_rfl) rfl (W.F_val (W.F_val (W.F_val (W.F_val (W.F_val (W.F_val (W.F_val (W.F_val (W.F_val (W.F_val (W.F_val (W.F_val (W.F_val (W.F_val (W.F_val (W.F_put (W.F_nil (eZ (bH (cY (ro rfl (dW (Ht rfl) (cJ 1) z6) (rm rfl (eZ (gQ (j + 1) hj2 zo (zS rfl) (aU (aB rfl) (aU (aB rfl) (aU (aB rfl) (aU (fun _ _ _ h=>h) (aU (fun _ _ _ h=>h) (aU (aR (by rw [fM]; exact congrArg _ (jI (f:=(fun j=>gm s0 i j))))) aY))))))))))))))))))))))))))))))
  ·obtain rfl : j = 2 := by simp only [decide_eq_false_iff_not] at he; omega
   rw [jJ (fun j=>gm s0 i j)]
   refine gK rfl (bH (kR 4 5 rfl rfl (by decide) (by simp only [dO,List.length_map,cO]; omega) ?_))
   refine cY (ro rfl (dW (Ht rfl) (cJ 1) z6) (rm rfl (eZ (bL [0,1,2,3,4] rfl (by decide) (gQ (i + 1) hi2 zo (zS rfl) (aU (aB rfl) (aU (aB rfl) (aU (aB rfl) (aU (fun _ _ _ h=>h) (aU (fA (by rw [kZ]; exact congrArg _ (jI (f:=(fun i=>tab 2 fun j=>gm s0 i j))))) aY))))))))))
 ·obtain rfl : i = 2 := by simp only [decide_eq_false_iff_not] at hd; omega
  rw [jJ,jJ]
  have hzt:tab 2 (gv z0) = z0:=by rw [← hzl]; exact (yQ rfl).symm
  have hst:(tab 2 fun i=>tab 2 fun j=>gm s0 i j) = s0:=(qN hsh).symm
  rw [hzt,hst]
  refine gK rfl (ts (rm rfl (rm rfl (ro rfl (dG (Ht rfl) (cJ 1) zo z6) (ro rfl (eW A_51 Z_51 (Ht rfl) (i:=0) rfl rfl rfl) (ro rfl (dE U_29 Z_51 (Ht rfl) (Ht rfl) rfl (i:=3) rfl (by rw [List.length_map]; omega) rfl) ?_))))))
  refine kS Z_51 (Ht rfl) (Ht rfl) (El.ag rfl) (i:=3) rfl rfl (by rw [List.length_map]; omega) rfl ?_
  refine eZ (cK (lT 3 rfl (aR ((fM aE z0 0 zz).trans (by rw [hz0]; rfl)):∀ S m V,_ → (bM 51 5 B27 ((tQ zl zz).map aE)).h S m V) ?_))
  refine gG (i:=3) (tt:=11) rfl rfl fP (gG (i:=4) (tt:=12) rfl rfl (qY (s:=5) (M:=s0) hsh.1.symm) (cY (rm rfl (rm rfl (ro rfl (cZ Tryz.call85 hnw ⟨(Ht rfl),(Ht rfl),trivial⟩) (rm rfl (ro rfl (dU (Ht rfl) rfl) (ro rfl (dU (Ht rfl) rfl) (rn rfl (eG (Ts:=[Is (.slice none 0 0),Is (.slice none 0 0)]) O_32 rfl (fun V=>aW zd (aW zd (aG)))) fun B15=>(gJ Z_32 (Ht rfl) (Ht rfl) rfl (i:=5) rfl (aK rfl) rfl rfl (ra rfl (eZ ?_))))))))))))
  refine cK (bL [0,1,2,3,4,5] rfl (by decide) (cY (ro rfl (eW A_32 Z_32 (Ht rfl) (i:=5) rfl rfl rfl) (rm rfl (ro rfl (iW (Ht rfl) cV) (gJ Z_32 (Ht rfl) (Ht rfl) rfl (i:=1) rfl (aK rfl) rfl rfl (ra rfl (eZ (bI rfl (fJ (fY A_32 Z_32 rfl (i:=1) rfl rfl) ?_) (eY rfl))))))))))
  exact (fun v V h=>by rw [← hs0]; exact h)
end
section
open Go Go.RowKit
section
variable {P:Program} {n:Nat} {E:cF} {H:Hp}
variable {d:Option Tmp} {t:TypeId} {pos:String} {af:Array Edge} {g:Option (Nat × Bool)}
theorem Gf {x y : Operand} {i B o' : Nat} {BT : TypeId} {Ts Ws : List Ty} {T : Ty} [hsh : dC T 1 false] (hS : ∀ w, (sizeOf t).run P w = .ok 1 w) (hx : bC E x (bO B o')) (hy : bC E y T)
  (hH:H[i]? = some (box B BT Ts)) (hlt:o' < Ts.length) (hW:Ts.set o' T = Ws) {t':TypeId} {H':Hp} (hH':H.set i (box B BT Ws) = H') :
  W.PutTy P n E H H' ⟨none,.store t x y,t',pos,af,none⟩:=by subst hW; subst hH'; exact a2g hS hx hy hH hlt
theorem Pd {x y : Operand} {m e s : Nat} {tn : TypeId} {i : TypeInfo} {z : Value} {kd kn : IntKind} (ht : P.underlying t = some (.slice e)) (htn : P.underlying tn = some (.int kn)) (hi : P.info? e = some i) (hz : i.zero = some z) (hs : i.size = s) (hzs : z.cells.size = s) (hs0 : 0 < s)
  (hx:bC E x (Is (.slice none 0 0))) (hy:bC E y (aD kd (m:Int))) (h0:0 < m) (hb:m * i.bytes ≤ 281474976710656) (hm:m ≤ 9223372036854775807) {t':TypeId} :
  iD P n E H ⟨d,.call ⟨.builtin .append,#[x,y],#[t,tn]⟩,t',pos,af,g⟩ (Nat × Nat) (fun q=>Is (.slice (some ⟨q.1,0,none⟩) m q.2)) (fun q=>bM e s (.slice (some ⟨q.1,0,none⟩) 0 q.2) []):=iD.of fun cx X a w V hi' hsl=>by
 have ex:a.eval x = .slice none 0 0:=hx n V a hsl
 have ey:a.eval y = .int kd (m:Int):=hy n V a hsl
 have hr:=Lib.run_append_nil_zeros (P:=P) w t tn t' e i z kd kn ht htn hi hz m h0 zo zo hb
 have hge:=grownCap_ge w m 0 e
 have hcm:grownCap w m 0 e ≤ maxLen:=grownCap_le_maxLen w m 0 e (by simp only [maxLen]; omega)
 subst hs
 refine ⟨(w.heap.size,grownCap w m 0 e),_,_,?_,rfl,(hi'.drew).alloc (ob:=.cells (Builtin.zeroCells z.cells m ++ Builtin.zeroCells z.cells (grownCap w m 0 e - m)) e) (fun mm hm'=>⟨[],⟨trivial,by simp,by simp [cR]⟩,.inr ⟨w.heap.size,grownCap w m 0 e,_,rfl,rfl,hm',Nat.zero_le _,hcm,?_,by simp [cR]⟩⟩)⟩
 ·simp [execOp,resolve,invoke,builtin,ex,ey,hr,Sem.run_bind,Result.andThen]
 ·simp only [Array.size_append, size_zeroCells, hzs, ← Nat.add_mul]
  congr 1; omega
theorem Me {x : Operand} {ad : Option Addr} {l cap : Nat} {e : TypeId} {ta : TypeId} (hU : ∀ w, (underlying ta).run P w = .ok (.slice e) w) (hx : bC E x (Is (.slice ad l cap))) :
  aF P n E H ⟨d,.call ⟨.builtin .cap,#[x],#[ta]⟩,t,pos,af,g⟩ (aD .i64 cap) :=
 dP fun a V w hs => by
  have e1:a.eval x = .slice ad l cap:=hx n V a hs
  exact ⟨.int .i64 cap,by simp [execOp,resolve,e1,invoke,builtin,Builtin.cap_,Sem.run_bind,hU,Result.andThen,goInt],rfl⟩
theorem By {x hiO : Operand} {ad : Option Addr} {l cap m s : Nat} {kd : IntKind} {e : TypeId} (hU : ∀ w, (underlying t).run P w = .ok (.slice e) w) (hS : ∀ w, (sizeOf e).run P w = .ok s w) (hx : bC E x (Is (.slice ad l cap))) (hh : bC E hiO (aD kd (m : Int))) (h1 : m ≤ cap) {t' : TypeId} :
  aF P n E H ⟨d,.slice t x none (some hiO) none,t',pos,af,g⟩ (Is (.slice ad m cap)) :=
 dP fun a V w hs => by
  have e1:a.eval x = .slice ad l cap:=hx n V a hs
  have eh:a.eval hiO = .int kd (m:Int):=hh n V a hs
  have had:(ad.map fun x:Addr=>x.add 0) = ad:=by cases ad <;> simp [Addr.add]
  refine ⟨.slice ad m cap,?_,rfl⟩
  simp [execOp,e1,eh,Instr.sliceAt,Instr.slice,Instr.sliceBounds,Instr.sliceBound,asIntOf,Sem.run_bind,hU,hS,Result.andThen,h1,had]
end
end
section
open Go Go.RowKit
theorem a2v:Tryz.prog.underlying 3 = some (.int .i64):=by kernel_rfl
end
section
open Go Go.RowKit
theorem Wb {m:Nat} (hm:m ≤ 1000):jH Tryz.prog 205 [Is (.slice none 0 0),NT .i64 m] [] (Value) (fun v=>Is v) (fun v=>[bM 51 5 v []]) (fun _=>True):=by
 refine jH.intro Tryz.func205 rfl Tryz.ntmps205 rfl (fun cx Z=>(ts (ro rfl (cQ cV) (eZ (cK (ts (rm rfl (ro rfl (gV (Ht rfl) (cJ 0)) (eZ (fN (Ht rfl) (by simp) ?_))))))))))
 refine cU (cK (ts (rm rfl (rm rfl (ro rfl (Me U_29 (Ht rfl)) (rm rfl (ro rfl (jU U_29 (Ht rfl)) (ro rfl (dG (Ht rfl) (Ht rfl) zo z6) (ro rfl (dG (Ht rfl) (Ht rfl) zo z6) (ra rfl (eZ (ts (rm rfl (ro rfl (eT (Ht rfl) (cJ 0)) (eZ (dQ (Ht rfl) (fun hb=>?_) (fun hb=>?_)))))))))))))))))
 ·have h0 : 0 < m := by simp only [decide_eq_true_eq] at hb; omega
  refine cY (rm rfl (rm rfl (ro rfl (Me U_29 (Ht rfl)) (ro rfl (By U_29 Z_51 (Ht rfl) (Ht rfl) (Nat.le_refl _)) (rm rfl (rn rfl (Pd (i:=Tryz.t51) kD a2v iS rfl rfl rfl (by decide) (Ht rfl) (Ht rfl) zo (by show _ * 88 ≤ _; omega) zo) fun q22=>(rm rfl (ro rfl (jU U_29 (Ht rfl)) (ro rfl (By U_29 Z_51 (Ht rfl) (Ht rfl) (Nat.zero_le _)) (ra rfl (eZ (ts (rm rfl (ra rfl (eZ ?_)))))))))))))))
  exact lR _ trivial [0,1] ⟨⟨_,rfl,fun _ _ _ h=>h⟩,⟨_,rfl,fun _ _ _ h=>h⟩,trivial⟩ (by decide) (yO rfl (eY rfl))
 ·obtain rfl : m = 0 := by simp only [decide_eq_false_iff_not] at hb; omega
  refine rQ 51 5 (cU (ts (rm rfl (ra rfl (eZ ?_)))))
  exact lR _ trivial [0,1] ⟨⟨_,rfl,fun _ _ _ h=>h⟩,⟨_,rfl,fun _ _ _ h=>h⟩,trivial⟩ (by decide) (yO rfl (eY rfl))
abbrev cat (ls:List (List Qi)) (i:Nat):List Qi:=(ls.take i).flatten
theorem Gn {ls:List (List Qi)} {i:Nat} (h:i < ls.length):cat ls (i + 1) = cat ls i ++ ls.getD i []:=by
 simp only [cat]
 rw [List.take_succ_eq_append_getElem h,List.flatten_append]
 simp [List.getD,h]
theorem Nc (ls:List (List Qi)):cat ls ls.length = ls.flatten:=by rw [cat,List.take_length]
theorem Qz {ls:List (List Qi)} {i:Nat} (h:i ≤ ls.length):(cat ls i).length ≤ ls.flatten.length:=by
 have e:ls.flatten = (ls.take i).flatten ++ (ls.drop i).flatten:=by rw [← List.flatten_append,List.take_append_drop]
 show (ls.take i).flatten.length ≤ _
 rw [e,List.length_append]; omega
theorem Qy {ls:List (List Qi)} (hl:ls.length ≤ 1000) (hf:ls.flatten.length ≤ 1000):bB Tryz.prog 116 [jS 1 (ls.map bA)] (bA ls.flatten):=by
 refine bB.intro Tryz.func116 rfl Tryz.ntmps116 rfl (fun cx=>(ts (ro rfl (cQ cV) (eZ (ts (ro rfl (cQ (cJ 0)) (eZ (cK (ts (rm rfl (ro rfl (dK U_30 (Ht rfl) aA) (ro rfl (cX (cJ 0)) (eZ (eK ?_))))))))))))))
 refine cM (fun (i : Nat) => i ≤ ls.length) (fun (i : Nat) => ls.length - i) (fun (i : Nat) => [(0, jS 1 (ls.map bA)), (3, NT .i64 (cat ls i).length), (9, jS 1 (ls.map bA)), (10, NT .i64 ls.length), (11, NT .i64 i)]) (fun (i : Nat) => []) 0 (Nat.zero_le _)
  (zS rfl) aY (fun i hi=>?_)
 refine ts (ro rfl (gV (Ht rfl) (Ht rfl)) (eZ (cK (dQ (Ht rfl) (fun hd=>?_) (fun hd=>?_)))))
 ·have hin : i < ls.length := by simp only [decide_eq_true_eq] at hd; omega
  have hcn:=Gn hin
  have hcl:=Qz (ls:=ls) (i:=i + 1) hin
  rw [hcn,List.length_append] at hcl
  refine cU (cK (eK (ts (ro rfl (dZ U_30 Z_29 (Ht rfl) (Ht rfl) rfl (eQ (dY (d:=[]) zo))) (ro rfl (dV A_29 Z_29 (Ht rfl)) (ra rfl (eZ (ts (rm rfl (rm rfl (ro rfl (dK U_29 (Ht rfl) aA) (ro rfl (dW (Ht rfl) (Ht rfl) (by show _ < 9223372036854775808; omega)) (ra rfl (eZ (ts (rm rfl (ro rfl (gV (Ht rfl) (cJ 0)) (eZ (fN (Ht rfl) (by simp) ?_)))))))))))))))))))
  refine cU (bH (cY (ro rfl (dW (Ht rfl) (cJ 1) z6) (rm rfl (eZ (gQ (i + 1) hin zo (aQ rfl (aZ rfl (lL (by rw [hcn,List.length_append])) (zS rfl))) aY))))))
 ·have hin : i = ls.length := by simp only [decide_eq_false_iff_not] at hd; omega
  rw [hin,Nc]
  refine gK rfl (ts (rm rfl (nN Tryz.call205 (Wb (m:=ls.flatten.length) hf) ⟨cV,(Ht rfl),trivial⟩ rfl (fun v24 _=>(ra rfl (eZ (cK (ts (rm rfl (ro rfl (dK U_30 (Ht rfl) aA) (ro rfl (cX (cJ 0)) (eZ (eK ?_)))))))))))))
  refine fT (fun (j : Nat) (v : Value) => j ≤ ls.length) (fun (j : Nat) (v : Value) => ls.length - j) (fun (j : Nat) (v : Value) => [(0, jS 1 (ls.map bA)), (6, Is v), (25, jS 1 (ls.map bA)), (26, NT .i64 ls.length), (27, NT .i64 j)]) (fun (j : Nat) (v : Value) => [bM 51 5 v ((cat ls j).map aE)]) 0 _ (Nat.zero_le _)
   (zS rfl) (aU (aR rfl) aY) (fun j v hj=>?_)
  refine ts (ro rfl (gV (Ht rfl) (Ht rfl)) (eZ (cK (dQ (Ht rfl) (fun he=>?_) (fun he=>?_)))))
  ·have hjn : j < ls.length := by simp only [decide_eq_true_eq] at he; omega
   have hcn:=Gn hjn
   have hcl:=Qz (ls:=ls) (i:=j + 1) hjn
   rw [hcn,List.length_append] at hcl
   refine cU (cK (eK (ts (ro rfl (dZ U_30 Z_29 (Ht rfl) (Ht rfl) rfl (eQ (dY (d:=[]) zo))) (ro rfl (dV A_29 Z_29 (Ht rfl)) (ra rfl (eZ (cY (rm rfl (rm rfl (Az (inf:=Tryz.t51) kD iS rfl rfl rfl (Ht rfl) (Ht rfl) (i:=0) rfl (fun T hT=>by obtain ⟨x,_,rfl⟩:=List.mem_map.1 hT; exact El.ag rfl) (by show _ * 88 ≤ _; simp only [List.length_map]; omega) (by simp only [List.length_map]; omega) rfl (fun v2=>?_))))))))))))
   refine ra rfl (eZ (bH (cY (ro rfl (dW (Ht rfl) (cJ 1) z6) (rm rfl (eZ (gQ (j + 1,v2) hjn (by dsimp only; omega) (zS rfl) (aU (aR (by rw [hcn,List.map_append])) aY))))))))
  ·have hjn : j = ls.length := by simp only [decide_eq_false_iff_not] at he; omega
   rw [hjn,Nc]
   refine gK rfl (gG (i:=0) (tt:=6) rfl rfl fP (ts (rm rfl (ra rfl (eZ ?_)))))
   exact fK rfl (eY rfl)
theorem Sx {z zb:List Qi} {a b:List (List Qi)} {x y i j:Nat} (ha:eR a x x) (hb:eR b y y) (hx:x ≤ 100) (hy:y ≤ 100) (hi:i < x + y) (hj:j < x + y):bB Tryz.prog 115 [NT .i64 i,NT .i64 j,PT (NT .i64 x),PT (bR z a),PT (bR zb b)] (aE (gm (zY a b x y) i j)):=by
 have hal:=ha.1
 have hbl:=hb.1
 rw [oU hi hj]
 refine bB.intro Tryz.func115 rfl Tryz.ntmps115 rfl (fun cx=>(ts (rn rfl (eG (Ts:=[Is (.bool false),Is (.slice none 0 0),Is (.bool false),Is (.slice none 0 0),Is (.slice none 0 0)]) O_51 rfl (fun V=>aW zd (aW zd (aW zd (aW zd (aW zd (aG))))))) fun B7=>(eZ (cK (eK (ts (rm rfl (ro rfl (dV A_3 Z_3 (Ht rfl)) (ro rfl (gV (Ht rfl) (Ht rfl)) (rm rfl (fX rfl rfl (eU rfl rfl (Ht rfl) (fun h=>cX (Ht rfl))) ?_))))))))))))
 refine fX rfl rfl (eU rfl rfl (Ht rfl) (fun h=>dV A_3 Z_3 (Ht rfl))) (fX rfl rfl (eU rfl rfl (Ht rfl) (fun h=>gV (fW rfl h) (fW rfl h))) (ro rfl (eA (Ht rfl) (fun h=>(fW rfl h))) (ra rfl (eZ (dQ (Ht rfl) (fun h1=>?_) (fun h1=>?_))))))
 ·have h2 : i < x ∧ j < x := by simpa using h1
  have har:=ha.row h2.1
  refine ts (ro rfl (jK dI (Ht rfl) rfl) (ro rfl (dV A_30 Z_30 (Ht rfl)) (rm rfl (ro rfl (dZ U_30 Z_29 (Ht rfl) (Ht rfl) rfl (eQ (dY (d:=[]) zo))) (ro rfl (dV A_29 Z_29 (Ht rfl)) (rm rfl (ro rfl (dZ U_29 Z_51 (Ht rfl) (Ht rfl) rfl (eQ (dY (d:=Qi.zero) zo))) (ro rfl (dV A_51 Z_51 (Ht rfl)) (gJ Z_51 (Ht rfl) (Ht rfl) rfl (i:=0) rfl (aK rfl) rfl rfl (eZ (fK rfl (fJ (fY A_51 Z_51 rfl (i:=0) rfl rfl) ?_))))))))))))
  exact (gP (by rw [if_pos h2.1,if_pos h2.2]))
 ·have h2 : ¬ (i < x ∧ j < x) := by simpa using h1
  refine ts (rm rfl (ro rfl (dV A_3 Z_3 (Ht rfl)) (ro rfl (mP (Ht rfl) (Ht rfl)) (rm rfl (fX rfl rfl (eU rfl rfl (Ht rfl) (fun h=>cX (Ht rfl))) (fX rfl rfl (eU rfl rfl (Ht rfl) (fun h=>dV A_3 Z_3 (Ht rfl))) (fX rfl rfl (eU rfl rfl (Ht rfl) (fun h=>mP (fW rfl h) (fW rfl h))) (ro rfl (eA (Ht rfl) (fun h=>(fW rfl h))) (ra rfl (eZ (dQ (Ht rfl) (fun h3=>?_) (fun h3=>?_))))))))))))
  ·have h4 : x ≤ i ∧ x ≤ j := by simpa using h3
   have hbr:=hb.row (i:=i - x) zo
   refine cK (fV (m:=10) (dp 4 rfl (jK dI (Ht rfl) rfl) (dq 34 0 rfl (dV A_30 Z_30 (Ht rfl)) (dp 0 rfl (cX (Ht rfl)) (dp 2 rfl (dV A_3 Z_3 (Ht rfl)) (dS 36 2 37 3 rfl (dG (Ht rfl) (Ht rfl) zo z6) (dS 35 1 38 4 rfl (dZ U_30 Z_29 (Ht rfl) (Ht rfl) rfl (eQ (dY (d:=[]) zo))) (dq 39 5 rfl (dV A_29 Z_29 (Ht rfl)) (dp 1 rfl (cX (Ht rfl)) (dp 2 rfl (dV A_3 Z_3 (Ht rfl)) ?_))))))))))
   refine dS 41 7 42 8 rfl (dG (Ht rfl) (Ht rfl) zo z6) (fG bF rfl (by kernel_rfl) (zF (zF (aJ (aJ (aV (ro rfl (dZ U_29 Z_51 (Ht rfl) (Ht rfl) rfl (eQ (dY (d:=Qi.zero) zo))) (ro rfl (dV A_51 Z_51 (Ht rfl)) (gJ Z_51 (Ht rfl) (Ht rfl) rfl (i:=0) rfl (aK rfl) rfl rfl (eZ (fK rfl (fJ (fY A_51 Z_51 rfl (i:=0) rfl rfl) ?_))))))))))))
   exact (gP (by rw [if_neg zo,if_pos h4.2]))
  ·have h4 : ¬ (x ≤ i ∧ x ≤ j) := by simpa using h3
   have h5 : Qi.ofInt (0 : Nat) = (if i < x then if j < x then gm a i j else Qi.zero else if x ≤ j then gm b (i - x) (j - x) else Qi.zero) := by
    by_cases e:i < x
    ·rw [if_pos e,if_neg zo]; rfl
    ·rw [if_neg e,if_neg zo]; rfl
   refine cU (bH (ts (ro rfl (cZ K_109 (sM (n:=0) (by decide) (by decide)) ⟨(cJ 0),trivial⟩) (gJ Z_51 (Ht rfl) (Ht rfl) rfl (i:=0) rfl (aK rfl) rfl rfl (eZ (fK rfl (fJ (fY A_51 Z_51 rfl (i:=0) rfl rfl) ?_)))))))
   exact (gP h5)
theorem Xt {z zb:List Qi} {a b:List (List Qi)} (ha:eR a z.length z.length) (hb:eR b zb.length zb.length) (hx:z.length ≤ 100) (hy:zb.length ≤ 100):bB Tryz.prog 30 [bR z a,bR zb b] (dN [bR (a04 z zb) (Ys z zb a b),aD .i64 (So z.length zb.length)]):=by
 refine bB.intro Tryz.func30 rfl Tryz.ntmps30 rfl (fun cx=>(ts (rn rfl (fU (Ht rfl)) fun B2=>(rn rfl (fU (Ht rfl)) fun B3=>(rn rfl (eG (Ts:=[Is (.slice none 0 0),Is (.slice none 0 0)]) O_32 rfl (fun V=>aW zd (aW zd (aG)))) fun B4=>(ro rfl (cQ (cJ 0)) (eZ (cK (Y.D_start (m:=12) [] (bY (Ei:=[(2,_)]) rfl rfl (bQ (bJ rfl rfl) bX) rfl rfl (dX rfl (eJ eO (Ht rfl) rfl)) (bY (Ei:=[(9,_)]) rfl rfl (bQ (bZ 0 rfl rfl) bX) rfl rfl (dX rfl (fQ A_29 Z_29 (Ht rfl) (i:=0) rfl rfl)) ?_)))))))))))
 refine bY (Ei:=[(10,_)]) rfl rfl (bQ (bZ 1 rfl rfl) bX) rfl rfl (dX rfl (dK U_29 (Ht rfl) aA)) (bY (Ei:=[(2,_)]) rfl rfl (bQ (bJ rfl rfl) bX) rfl rfl (dX rfl (eJ eO (Ht rfl) rfl)) (bY (Ei:=[(12,_)]) rfl rfl (bQ (bZ 3 rfl rfl) bX) rfl rfl (dX rfl (fQ A_29 Z_29 (Ht rfl) (i:=0) rfl rfl)) (bY (Ei:=[(13,_)]) rfl rfl (bQ (bZ 4 rfl rfl) bX) rfl rfl (dX rfl (dK U_29 (Ht rfl) aA)) ?_)))
 refine bY (Ei:=[(3,_)]) rfl rfl (bQ (bJ rfl rfl) bX) rfl rfl (dX rfl (eJ eO (Ht rfl) rfl)) (bY (Ei:=[(15,_)]) rfl rfl (bQ (bZ 6 rfl rfl) bX) rfl rfl (dX rfl (fQ A_29 Z_29 (Ht rfl) (i:=1) rfl rfl)) (bY (Ei:=[(16,_)]) rfl rfl (bQ (bZ 7 rfl rfl) bX) rfl rfl (dX rfl (dK U_29 (Ht rfl) aA)) (bY (Ei:=[(14,_),(17,_)]) rfl rfl (bQ (bZ 5 rfl rfl) (bQ (bZ 8 rfl rfl) bX)) rfl rfl (dX rfl (dW (Ht rfl) (Ht rfl) z6)) ?_)))
 refine Y.D_newp (Ei:=[]) (fun bb=>box bb 3 [NT .i64 z.length]) 11 rfl rfl rfl bX rfl rfl (by kernel_rfl) (eG (Ts:=[Is (.int .i64 0)]) O_3 rfl (fun V=>aW zd (aG))) (Y.D_putN (Ei:=[(11,_)]) 10 rfl rfl rfl rfl rfl rfl (bQ (bZ 2 rfl rfl) bX) (fun bb=>Gf Z_3 (Ht rfl) (Ht rfl) (i:=0) rfl (aK rfl) rfl rfl) (Y.D_done bF rfl (by kernel_rfl) rfl (by simp [Y.okP]) rfl rfl (bU (bU (bU (bU (bU (bU (bU (bU (bU (bU (Y.F_newp (fun B6=>Y.F_putN (Y.F_nil ?_)))))))))))))))
 refine ra rfl (eZ (cK (ts (rm rfl (ro rfl (eT (Ht rfl) (cJ 8)) (eZ (dQ (Ht rfl) (fun hb1=>?_) (fun hb1=>?_))))))))
 ·have h2 : 8 < z.length + zb.length := by simpa using hb1
  have he:=Yh h2
  refine ts (ro rfl (aF.imp (iU ) iR) (gJ Z_32 (Ht rfl) (Ht rfl) rfl (i:=2) rfl (aK rfl) rfl rfl (ro rfl (cQ (cJ 4)) (eZ (bI rfl (fJ (fY A_32 Z_32 rfl (i:=2) rfl rfl) ?_) (fJ (eY rfl) ?_))))))
  ·exact (fun v V h=>by rw [a04,Ys,iI,iI,he]; exact h)
  ·exact (aM he.symm)
 ·have h2 : ¬ 8 < z.length + zb.length := by simpa using hb1
  have he:=Tu h2
  refine cU (cK (gG (i:=0) (tt:=2) rfl rfl gE (gG (i:=1) (tt:=3) rfl rfl gE (gG (i:=3) (tt:=6) rfl rfl gY (cY (rm rfl (ro rfl (lW (γ:=Fin (z.length + zb.length) × Fin (z.length + zb.length)) (Ts:=fun x=>[NT .i64 x.1.1,NT .i64 x.2.1]) (U:=fun x=>aE (gm (zY a b z.length zb.length) x.1.1 x.2.1)) Tryz.call115 (fun x=>Sx ha hb hx hy x.1.2 x.2.2) ⟨(Ht rfl),(Ht rfl),(Ht rfl),trivial⟩) (ro rfl (cZ K_114 (eX (Ad (n:=z.length + zb.length) (f:=fun i j=>gm (zY a b z.length zb.length) i j) zo) (kB (congrArg _ (qN (zQ a b z.length zb.length)).symm))) ⟨(Ht rfl),(Ht rfl),trivial⟩) ?_))))))))
  refine ra rfl (eZ (ts (ro rfl (jK eO (Ht rfl) rfl) (ro rfl (dV A_29 Z_29 (Ht rfl)) (ro rfl (jK eO (Ht rfl) rfl) (ro rfl (dV A_29 Z_29 (Ht rfl)) (ro rfl (dH (xs:=[.tmp 26,.tmp 28]) U_30 Z_29 O_29 (cW (Ht rfl) (cW (Ht rfl) cG)) rfl rfl rfl) (ro rfl (cZ Tryz.call116 (eX (Qy (ls:=[z,zb]) (by simp) (by simp; omega)) (kB (Us:=(z ++ zb).map aE) (by simp))) ⟨(Ht rfl),trivial⟩) ?_))))))))
  refine rm rfl (ro rfl (qP (Ht rfl) (Ht rfl)) (gJ Z_32 (Ht rfl) (Ht rfl) rfl (i:=2) rfl (aK rfl) rfl rfl (ro rfl (cQ (cJ 0)) (eZ (bI rfl (fJ (fY A_32 Z_32 rfl (i:=2) rfl rfl) ?_) (fJ (eY rfl) ?_))))))
  ·exact (fun v V h=>by rw [a04,Ys,iI,iI,he]; exact h)
  ·exact (aM he.symm)
theorem Md {z:List Qi} {s:List (List Qi)} {q:Int} {o:List Int} (hl:z.length ≤ 1000) (ho:o.length ≤ 1000):bB Tryz.prog 125 [bR z s,aD .i64 q,jS 1 (o.map (aD .i64))] (aD .i64 (dR z.length q o)):=by
 refine bB.intro Tryz.func125 rfl Tryz.ntmps125 rfl (fun cx=>(ts (rn rfl (fU (Ht rfl)) fun B3=>(ro rfl (cQ (cJ 0)) (eZ (cK (eK (ts (ro rfl (eW A_32 Z_32 (Ht rfl) (i:=0) rfl rfl rfl) (rm rfl (ro rfl (cZ K_106 Ch ⟨(Ht rfl),(Ht rfl),trivial⟩) (ro rfl (eH (Ht rfl)) (ra rfl (eZ (dQ (Ht rfl) (fun hb1=>?_) (fun hb1=>?_))))))))))))))))
 ·have h2 : ¬ (1 ≤ q ∧ q ≤ (z.length : Int)) := by simpa only [Bool.not_eq_true', decide_eq_false_iff_not] using hb1
  refine ts (ro rfl (cQ (cJ 1)) (eZ (fK rfl (fJ (eY rfl) ?_))))
  exact (aM (if_pos h2).symm)
 ·have h2 : 1 ≤ q ∧ q ≤ (z.length : Int) := by simpa using hb1
  refine ts (rm rfl (rm rfl (ro rfl (cZ Tryz.call95 (tA (l:=o) (v:=q) zo) ⟨(Ht rfl),(Ht rfl),trivial⟩) (ra rfl (eZ (dQ (Ht rfl) (fun hb2=>?_) (fun hb2=>?_)))))))
  ·refine ts (ro rfl (cQ (cJ 8)) (eZ (fK rfl (fJ (eY rfl) ?_))))
   exact (aM (by rw [dR,if_neg (fun k=>k h2),if_pos hb2]; rfl))
  ·refine cU (bH (ts (ro rfl (cQ (cJ 0)) (eZ (fK rfl (fJ (eY rfl) ?_))))))
   exact (aM (by rw [dR,if_neg (fun k=>k h2),if_neg (by rw [hb2]; decide)]; rfl))
theorem Xv {z:List Qi} {s:List (List Qi)} {l:List Int} (hs:eR s z.length z.length) (hl:z.length ≤ 1000) (hll:l.length ≤ 1000):bB Tryz.prog 33 [bR z s,jS 1 (l.map (aD .i64))] (dN [bR (Vj z l) (To z s l),aD .i64 (Gw z.length l)]):=by
 refine bB.intro Tryz.func33 rfl Tryz.ntmps33 rfl (fun cx=>(ts (rn rfl (fU (Ht rfl)) fun B2=>(rn rfl (eG (Ts:=[Is (.slice none 0 0),Is (.slice none 0 0)]) O_32 rfl (fun V=>aW zd (aW zd (aG)))) fun B4=>(ro rfl (cQ (cJ 0)) (eZ (cK (ts (rm rfl (ro rfl (dK U_72 (Ht rfl) aA) (ro rfl (eJ eO (Ht rfl) rfl) (ro rfl (fQ A_29 Z_29 (Ht rfl) (i:=0) rfl rfl) (ro rfl (dK U_29 (Ht rfl) aA) (ro rfl (iV (Ht rfl) (Ht rfl)) ?_))))))))))))))
 refine eZ (dQ (Ht rfl) (fun hb1=>?_) (fun hb1=>?_))
 ·have h2 : l.length ≠ z.length := by simpa using hb1
  have he:=Vo h2
  refine ts (ro rfl (aF.imp (iU ) iR) (gJ Z_32 (Ht rfl) (Ht rfl) rfl (i:=1) rfl (aK rfl) rfl rfl (ro rfl (cQ (cJ 4)) (eZ (bI rfl (fJ (fY A_32 Z_32 rfl (i:=1) rfl rfl) ?_) (fJ (eY rfl) ?_))))))
  ·exact (fun v V h=>by rw [Vj,To,iI,iI,he]; exact h)
  ·exact (aM he.symm)
 ·have h2 : l.length = z.length := by simpa using hb1
  have hok:=Ti h2
  refine cU (cK (ts (rm rfl (ro rfl (dK U_72 (Ht rfl) aA) (ro rfl (cX (cJ 0)) (eZ (eK ?_)))))))
  refine cM (fun (i : Nat) => i ≤ l.length ∧ ∀ j, j < i → (fun i => dR z.length (l.getD i 0) (l.take i)) j = 0) (fun (i : Nat) => l.length - i) (fun (i : Nat) => [(1, jS 1 (l.map (aD .i64))), (2, bO B2 0), (4, bO B4 0), (16, jS 1 (l.map (aD .i64))), (17, NT .i64 l.length), (18, NT .i64 i)]) (fun (i : Nat) => [box B2 32 [bA z, dM s], box B4 32 [Is (.slice none 0 0), Is (.slice none 0 0)]]) 0 ⟨Nat.zero_le _, fun j h => by omega⟩
   (zS rfl) (aU (aB rfl) (aU (aB rfl) aY)) (fun i ⟨hi,h0⟩=>?_)
  refine ts (ro rfl (gV (Ht rfl) (Ht rfl)) (eZ (cK (dQ (Ht rfl) (fun hd=>?_) (fun hd=>?_)))))
  ·have hin : i < l.length := by simp only [decide_eq_true_eq] at hd; omega
   refine cU (cK (eK (ts (rm rfl (ro rfl (dZ U_72 Z_3 (Ht rfl) (Ht rfl) rfl (eQ (dY (d:=0) zo))) (ro rfl (dV A_3 Z_3 (Ht rfl)) (ra rfl (ra rfl (eZ (cK (fV (m:=5) (dp 2 rfl (eW A_32 Z_32 (Ht rfl) (i:=0) rfl rfl rfl) (dp 7 rfl (cX (Ht rfl)) (dp 1 rfl (cX (Ht rfl)) (dp 6 rfl (cX (Ht rfl)) (dS 25 2 26 3 rfl (pR U_72 Z_3 (Ht rfl) (Ht rfl) (fun m e=>by cases e) zo (by rw [List.length_map]; omega) (Us:=(l.take i).map (aD .i64)) (by rw [Int.toNat_natCast,List.map_take])) ?_))))))))))))))))
   refine fG bF rfl (by kernel_rfl) (zF (aJ (aV (ro rfl (cZ Tryz.call125 (Md (q:=l.getD i 0) (o:=l.take i) hl (by rw [List.length_take]; omega)) ⟨(Ht rfl),(Ht rfl),(Ht rfl),trivial⟩) ?_))))
   refine ra rfl (eZ (ts (rm rfl (ro rfl (fB (Ht rfl) cV) (eZ (dQ (Ht rfl) (fun he=>?_) (fun he=>?_)))))))
   ·have h3 : (fun i => dR z.length (l.getD i 0) (l.take i)) i ≠ 0 := by simpa using he
    have he2:Gw z.length l = dR z.length (l.getD i 0) (l.take i):=hok.trans (pW h0 h3 hin)
    refine ts (ro rfl (aF.imp (iU ) iR) (rm rfl (gJ Z_32 (Ht rfl) (Ht rfl) rfl (i:=1) rfl (aK rfl) rfl rfl (ra rfl (eZ (bI rfl (fJ (fY A_32 Z_32 rfl (i:=1) rfl rfl) ?_) (fJ (eY rfl) ?_)))))))
    ·exact (fun v V h=>by rw [Vj,To,iI,iI,he2,if_neg h3,if_neg h3]; exact h)
    ·exact (aM he2.symm)
   ·have h3 : (fun i => dR z.length (l.getD i 0) (l.take i)) i = 0 := by simpa using he
    refine cU (bH (cY (ro rfl (dW (Ht rfl) (cJ 1) z6) (rm rfl (eZ (bL [0,1] rfl (by decide) ?_))))))
    refine gQ (i + 1) ⟨hin, fun j h => by
      by_cases e:j = i
      ·rw [e]; exact h3
      ·exact h0 j zo⟩ zo (zS rfl) (aU (aB rfl) (aU (aB rfl) aY))
  ·have hin : i = l.length := by simp only [decide_eq_false_iff_not] at hd; omega
   have h3:sU z.length l = 0:=iP (by rw [hin] at h0; exact h0)
   have he:Gw z.length l = 0:=hok.trans h3
   refine gK rfl (ts (ro rfl (eW A_32 Z_32 (Ht rfl) (i:=0) rfl rfl rfl) (ro rfl (cX (bC.to (Ht rfl) (kB (Ft h3)))) (nN Tryz.call122 (Ee (Q:=uZ l) (m:=l.length) hs (a0W h3) (Fl l) hll hl) ⟨(Ht rfl),(Ht rfl),trivial⟩ rfl (fun B36 _=>(gJ Z_32 (Ht rfl) (Ht rfl) rfl (i:=1) rfl (aK rfl) rfl rfl (ro rfl (cQ (cJ 0)) (eZ (tE 1 2 1 rfl rfl rfl (by decide) (a1j (q:=fun _=>True) (M:=tH s (uZ l)) (by rw [(Sn s (uZ l)).1,Fl])) ?_)))))))))
   refine bI rfl (fJ (fY A_32 Z_32 rfl (i:=1) rfl rfl) ?_) (fJ (eY rfl) ?_)
   ·exact (fun v V h=>by rw [Vj,To,iI,iI,he]; exact h)
   ·exact (aM he.symm)
end
section
open Go Go.RowKit
section
variable {P:Program} {n:Nat} {E:cF} {H:Hp}
variable {d:Option Tmp} {t:TypeId} {pos:String} {af:Array Edge} {g:Option (Nat × Bool)}
theorem Sb {f : FuncId} {xs : List Operand} {tys : Array TypeId} {Ts : List Ty} {U T0 T1 : Ty} {A : SA} {j tt : Nat} (hc : ∀ args w, (callFunc f args).run P w = .ok (.enter f args) w) (hF : bB P f Ts U)
  (hA:H[j]? = some A) (hl:fL E tt = some T0) (hz:∀ v S V,T0.p v V → A.h S V V → T1.p v V) (hU:∀ v V V',U.p v V → U.p v V') (ha:pH ((tt,T1) :: E) xs Ts) :
  aF P n E H ⟨d,.call ⟨.value (.func f),xs.toArray,tys⟩,t,pos,af,g⟩ U:=fun cx X a w V hi hs K Q hK=>by
 have hrun : (execOp a.eval ⟨d, .call ⟨.value (.func f), xs.toArray, tys⟩, t, pos, af, g⟩).run P w = .ok (.enter f (xs.map a.eval).toArray) w := by
  simp [execOp,resolve,Act.eval,Deferred.ofValue,invoke,hc]
 simp only [Oper.wp,hrun,Oper.upon_enter]
 obtain ⟨F,h1,h2⟩:=hi.hp
 have hjl:=(List.getElem?_eq_some_iff.1 hA).1
 obtain ⟨k1,k2⟩:=h1 j A (by rw [List.getElem?_append_left hjl]; exact hA)
 let V1:aS:=fun b=>if b ∈ F j then w.heap[b]? else V b
 have hle : mD V V1 := fun b o hb => by
  have:b ∉ F j:=fun hf=>by have:=(k2 b hf).1; rw [hb] at this; cases this
  simp only [V1,if_neg this]; exact hb
 have hon : ∀ b o, V1 b = some o → w.heap[b]? = some o := fun b o hb => by
  by_cases hf:b ∈ F j
  ·simp only [V1,if_pos hf] at hb; exact hb
  ·simp only [V1,if_neg hf] at hb; exact hi.on b o hb
 have hA1:A.h (F j) V1 V1:=A.mono (A.loc k1 fun b hb=>by simp only [V1,if_pos hb]; rfl) hle
 have hsl : eL n ((tt, T1) :: E) V1 a := by
  have hs':=hs.mono hle
  refine ⟨hs'.1,hs'.2.1,fun t' T hT=>?_⟩
  rw [cL] at hT
  by_cases e:tt = t'
  ·subst e
   rw [if_pos rfl] at hT; obtain rfl:=Option.some.inj hT
   obtain ⟨v,q1,q2⟩:=hs'.2.2 _ _ hl
   exact ⟨v,q1,hz v (F j) V1 q2 hA1⟩
  ·rw [if_neg e] at hT; exact hs'.2.2 t' T hT
 refine (hF _ V1 w hon (pH.all hsl ha)).mono ?_
 rintro e w' ⟨v,V',rfl,m1,m2,m3,m4,m5⟩
 exact hK v w' V (hi.after (mD.refl V) (fun b o hb=>m2 b o (m1 b o (hle b o hb))) (fun b o hb h0=>by rw [hb] at h0; cases h0) m4) (mD.refl V) (hU v V' V m5)
theorem Nk {x i : Operand} {q : Nat} {Ts : List Ty} {T : Ty} {kd : IntKind} {e : TypeId} {len : Nat} (hU : ∀ w, (underlying t).run P w = .ok (.array len e) w) (hS : ∀ w, (sizeOf e).run P w = .ok 1 w) (hg : ∀ w, (isAgg e).run P w = .ok false w)
  (hx:bC E x (eD Ts)) (hi:bC E i (NT kd q)) (hl:q < len) (hT:Ts[q]? = some T) {t':TypeId}:aF P n E H ⟨d,.index t x i,t',pos,af,g⟩ T :=
 dP fun a V w hs => by
  obtain ⟨vs,e1,e4⟩:=hx n V a hs
  have ei:a.eval i = .int kd (q:Int):=hi n V a hs
  obtain ⟨u,e5,e6⟩:=e4.all.get hT
  exact ⟨u,by simp [execOp,e1,ei,Instr.index,asIntOf,Sem.run_bind,hU,hS,hg,part,Result.andThen,hl,e5],e6⟩
end
end
section
open Go Go.RowKit
theorem Kd {n : Nat} {E : cF} {H : Hp} {d : Option Tmp} {t : TypeId} {pos : String} {af : Array Edge} {g : Option (Nat × Bool)} {x0 x1 : Operand} {T0 T1 : Ty} [s0 : dC T0 1 false] (h0 : bC E x0 T0) [s1 : dC T1 1 false] (h1 : bC E x1 T1) :
  aF Tryz.prog n E H ⟨d,.build 71 #[(0,x0),(1,x1)],t,pos,af,g⟩ (eD [T0,T1]) :=
 iA (parts := [(0, x0), (1, x1)]) fun a V w hs => by
  have p0:=h0 n V a hs
  generalize e0:a.eval x0 = v0 at p0
  have q0:=(s0.ok v0 V p0).2.2 rfl
  have p1:=h1 n V a hs
  generalize e1:a.eval x1 = v1 at p1
  have q1:=(s1.ok v1 V p1).2.2 rfl
  refine ⟨.agg #[v0,v1],?_,[v0,v1],rfl,aW (⟨p0,q0⟩) (aW (⟨p1,q1⟩) (aG))⟩
  simp [e0,e1,Instr.build,Instr.fill,Sem.run_bind,Result.andThen,fI,q0.cells,q1.cells,Tryz.zeroValue71,U_71,Z_3]
end
section
open Go Go.RowKit
theorem Re {z:List Qi} {S:List (List Qi)} {js:List (Int × Int)} {L:Nat} (hfz:cC z L) (hL:1 ≤ L) (hLb:L ≤ 1000000) (hz:z.length ≤ 1000) (hj:js.length ≤ 100):bB Tryz.prog 117 [bR z S,JsT js] (dN [jS 1 ((jeL z js).map (aD .i64)),aD .i64 (Ak z js)]):=by
 refine bB.intro Tryz.func117 rfl Tryz.ntmps117 rfl (fun cx=>(ts (rn rfl (fU (Ht rfl)) fun B2=>(ro rfl (cQ cV) (ro rfl (cQ (cJ 0)) (eZ (ts (ro rfl (cQ cV) (eZ (cK (cK (rQ 3 1 (cY (rm rfl (ro rfl (dK U_26 (Ht rfl) aA) (ro rfl (cX (cJ 0)) (eZ (eK ?_))))))))))))))))))
 refine fT (fun (k : Nat) (vG : Value) => k ≤ js.length ∧ ∀ j, j < k → uA z js j = 0) (fun (k : Nat) (vG : Value) => js.length - k) (fun (k : Nat) (vG : Value) => [(1, JsT js), (2, bO B2 0), (6, Is vG), (12, JsT js), (13, NT .i64 js.length), (14, NT .i64 k)]) (fun (k : Nat) (vG : Value) => [box B2 32 [bA z, dM S], bM 3 1 vG ((nP (js.take k)).map (aD .i64))]) 0 _ ⟨Nat.zero_le _, fun j h => by omega⟩
  (zS rfl) (aU (aB rfl) (aU (aR rfl) aY)) (fun k vG ⟨hk,h0⟩=>?_)
 refine ts (ro rfl (gV (Ht rfl) (Ht rfl)) (eZ (cK (dQ (Ht rfl) (fun hd=>?_) (fun hd=>?_)))))
 ·have hkn : k < js.length := by simp only [decide_eq_true_eq] at hd; omega
  have hjk:=qE (js.take k)
  refine cU (cK (eK (ts (ro rfl (dZ U_26 Z_71 (Ht rfl) (Ht rfl) rfl (eQ (dY (d:=(0,0)) hkn))) (ro rfl (dV Tryz.isAgg71 Z_71 (Ht rfl)) (rn rfl (eG (Ts:=[Is (.int .i64 0),Is (.int .i64 0)]) Tryz.zeroValue71 rfl (fun V=>aW zd (aW zd (aG)))) fun B8=>(gJ Z_71 (Ht rfl) (Ht rfl) rfl (i:=2) rfl (aK rfl) rfl rfl (eZ (cK (cK (gG (i:=2) (tt:=8) rfl rfl gE (cY (ro rfl (dV Tryz.isAgg71 Z_71 (Ht rfl)) ?_)))))))))))))
  refine ro rfl (cX (cJ 0)) (eZ (eK (bL [0,1] rfl (by decide) ?_)))
  refine fT (fun (i : Nat) (vI : Value) => i ≤ 2 ∧ ∀ x, x < i → Ef z js k x = 0) (fun (i : Nat) (vI : Value) => 2 - i) (fun (i : Nat) (vI : Value) => [(1, JsT js), (2, bO B2 0), (6, Is vI), (8, PT (JT (lY js k))), (12, JsT js), (13, NT .i64 js.length), (14, NT .i64 k), (18, JT (lY js k)), (19, NT .i64 i)]) (fun (i : Nat) (vI : Value) => [box B2 32 [bA z, dM S], bM 3 1 vI ((nP (js.take k) ++ (Ih (lY js k)).take i).map (aD .i64))]) 0 _ ⟨Nat.zero_le _, fun x h => by omega⟩
   (zS rfl) (aU (aB rfl) (aU (aR (by rw [List.take_zero,List.append_nil])) aY)) (fun i vI ⟨hi,h1⟩=>?_)
  refine ts (ro rfl (gV (Ht rfl) (cJ 2)) (eZ (cK (dQ (Ht rfl) (fun he=>?_) (fun he=>?_)))))
  ·have hi2 : i < 2 := by simp only [decide_eq_true_eq] at he; omega
   have hol:(nP (js.take k) ++ (Ih (lY js k)).take i).length ≤ 300:=by rw [List.length_append,hjk,List.length_take,List.length_take]; omega
   refine cU (cK (eK (ts (ro rfl (Nk U_71 Z_3 A_3 (Ht rfl) (Ht rfl) zo (Zf hi2)) (ra rfl (eZ (cK (ts (ro rfl (eW A_32 Z_32 (Ht rfl) (i:=0) rfl rfl rfl) (rm rfl (rm rfl (ro rfl (Sb Tryz.call125 (Md (z:=z) (s:=S) (q:=(Ih (lY js k)).getD i 0) (o:=nP (js.take k) ++ (Ih (lY js k)).take i) hz zo) (j:=1) (tt:=24) rfl rfl fP (fun _ _ _ h=>h) ⟨(Ht rfl),(Ht rfl),(Ht rfl),trivial⟩) (ra rfl (eZ (ts (rm rfl (ro rfl (fB (Ht rfl) cV) (eZ (dQ (Ht rfl) (fun hf=>?_) (fun hf=>?_))))))))))))))))))))
   ·have h3 : Ef z js k i ≠ 0 := by simp only [Bool.not_eq_true', decide_eq_false_iff_not] at hf; exact hf
    have h4:=a35 hi2 h1 h3
    have h5:Av z js = Ef z js k i:=(pW h0 (by rw [h4]; exact h3) hkn).trans h4
    have h6:Ak z js = Ef z js k i:=(Sy (by rw [h5]; exact h3)).trans h5
    refine ts (rm rfl (ro rfl (cQ cV) (ra rfl (eZ (bI rfl (fJ (eY rfl) ?_) (fJ (eY rfl) ?_))))))
    ·exact (fun v V h=>by rw [jeL,iI,h6,if_neg h3]; exact iT v V h)
    ·exact (aM h6.symm)
   ·have h3 : Ef z js k i = 0 := by simp only [Bool.not_eq_false', decide_eq_true_eq] at hf; exact hf
    refine cU (cY (rm rfl (rm rfl (ro rfl (dH (xs:=[.tmp 30]) U_72 Z_3 O_3 (cW (Ht rfl) cG) rfl rfl rfl) (mW (inf:=Tryz.t3) zH yN rfl rfl rfl (Ht rfl) (Ht rfl) (i:=1) rfl (by simp) (fun T hT=>by simp at hT; subst hT; exact El.one) (by show _ * 8 ≤ _; simp only [List.length_map,List.length_cons,List.length_nil]; omega) (by simp only [List.length_map,List.length_cons,List.length_nil]; omega) rfl (fun v2=>?_))))))
    refine ra rfl (eZ (bH (cY (ro rfl (dW (Ht rfl) (cJ 1) z6) (rm rfl (eZ ?_))))))
    refine gQ (i + 1, v2) ⟨hi2, fun x hx => by
      by_cases e:x = i
      ·rw [e]; exact h3
      ·exact h1 x zo⟩ (by dsimp only; omega) (zS rfl) (aU (aB rfl) (aU (aR (by rw [Vb hi2,← List.append_assoc,List.map_append (l₁:=nP (js.take k) ++ (Ih (lY js k)).take i)]; rfl)) aY))
  ·obtain rfl : i = 2 := by simp only [decide_eq_false_iff_not] at he; omega
   obtain ⟨⟨p1,p2⟩,⟨p3,p4⟩,h3⟩:=a2n h1
   have hrow:nP (js.take (k + 1)) = nP (js.take k) ++ (Ih (lY js k)).take 2:=Hw hkn
   haveI g1:=hfz.get hL ((lY js k).1 - 1).toNat
   haveI g2:=hfz.get hL ((lY js k).2 - 1).toNat
   refine gK rfl (cK (fV (m:=14) (dp 2 rfl (eJ eO (Ht rfl) rfl) (dq 34 0 rfl (fQ A_29 Z_29 (Ht rfl) (i:=0) rfl rfl) (dp 8 rfl (Lg U_71 Z_3 (Ht rfl) cV rfl (by decide) rfl) (dq 36 2 rfl (dV A_3 Z_3 (Ht rfl)) (dq 37 3 rfl (gM (Ht rfl) cV (r:=((((lY js k).1 - 1).toNat:Nat):Int)) ((tD (z:=(lY js k).1 - 1) zo).trans zo)) ?_)))))))
   refine dS 35 1 38 4 rfl (dZ U_29 Z_51 (Ht rfl) (Ht rfl) rfl (eQ (dY (d:=Qi.zero) zo))) (dq 39 5 rfl (dV A_51 Z_51 (Ht rfl)) (dp 2 rfl (eJ eO (Ht rfl) rfl) (dq 41 7 rfl (fQ A_29 Z_29 (Ht rfl) (i:=0) rfl rfl) (dp 8 rfl (Lg U_71 Z_3 (Ht rfl) cV rfl (by decide) rfl) (dq 43 9 rfl (dV A_3 Z_3 (Ht rfl)) (dq 44 10 rfl (gM (Ht rfl) cV (r:=((((lY js k).2 - 1).toNat:Nat):Int)) ((tD (z:=(lY js k).2 - 1) zo).trans zo)) ?_))))))
   refine dS 42 8 45 11 rfl (dZ U_29 Z_51 (Ht rfl) (Ht rfl) rfl (eQ (dY (d:=Qi.zero) zo))) (dq 46 12 rfl (dV A_51 Z_51 (Ht rfl)) (fG bF rfl (by kernel_rfl) (zF (zF (zF (aJ (aJ (aV (ro rfl (cZ Tryz.call139 (Du (x:=gv z ((lY js k).1 - 1).toNat) (y:=gv z ((lY js k).2 - 1).toNat) (L:=L) (M:=L) zo zo) ⟨(Ht rfl),(Ht rfl),trivial⟩) (ro rfl (eH (Ht rfl)) ?_))))))))))
   refine eZ (dQ (Ht rfl) (fun hg=>?_) (fun hg=>?_))
   ·have h4 : uA z js k = 40 := by rw [h3, if_neg (by simpa using hg)]
    have h5:Av z js = 40:=(pW h0 (by rw [h4]; decide) hkn).trans h4
    have h6:Ak z js = 40:=(Sy (by rw [h5]; decide)).trans h5
    refine ts (ro rfl (cQ cV) (ro rfl (cQ (cJ 40)) (eZ (bI rfl (fJ (eY rfl) ?_) (fJ (eY rfl) ?_)))))
    ·exact (fun v V h=>by rw [jeL,iI,h6]; exact iT v V h)
    ·exact (aM h6.symm)
   ·have h4 : uA z js k = 0 := by rw [h3, if_pos (by simpa using hg)]
    refine cU (bH (cY (ro rfl (dW (Ht rfl) (cJ 1) z6) (rm rfl (eZ ?_)))))
    refine gQ (k + 1, vI) ⟨hkn, fun j h => by
      by_cases e:j = k
      ·rw [e]; exact h4
      ·exact h0 j zo⟩ (by dsimp only; omega) (zS rfl) (aU (aB rfl) (aU (aR (by rw [hrow])) aY))
 ·obtain rfl : k = js.length := by simp only [decide_eq_false_iff_not] at hd; omega
  have h2:Av z js = 0:=iP h0
  have hll:=qE js
  rw [List.take_length]
  refine gK rfl (cK (ts (rm rfl (ro rfl (nS U_72 (Ht rfl) (i:=1) rfl aA) (ro rfl (eT (Ht rfl) (cJ 0)) (rm rfl (fX rfl rfl (eU rfl rfl (Ht rfl) (fun h=>cX (Ht rfl))) (fX rfl rfl (eU rfl rfl (Ht rfl) (fun h=>nS U_72 (fW rfl h) (i:=1) rfl aA)) (fX rfl rfl (eU rfl rfl (Ht rfl) (fun h=>eJ eO (Ht rfl) rfl)) (fX rfl rfl (eU rfl rfl (Ht rfl) (fun h=>fQ A_29 Z_29 (fW rfl h) (i:=0) rfl rfl)) (fX rfl rfl (eU rfl rfl (Ht rfl) (fun h=>dK U_29 (fW rfl h) aA)) ?_)))))))))))
  refine fX rfl rfl (eU rfl rfl (Ht rfl) (fun h=>cB (fW rfl h) (fW rfl h))) (ro rfl (eA (Ht rfl) (fun h=>(fW rfl h))) (eZ (dQ (Ht rfl) (fun hc=>?_) (fun hc=>?_))))
  ·have h3 : 0 < 2 * js.length ∧ 2 * js.length = z.length := by simpa [hll] using hc
   have h6:Ak z js = 4:=Xd h2 h3
   refine ts (ro rfl (cQ cV) (ro rfl (cQ (cJ 4)) (eZ (bI rfl (fJ (eY rfl) ?_) (fJ (eY rfl) ?_)))))
   ·exact (fun v V h=>by rw [jeL,iI,h6]; exact iT v V h)
   ·exact (aM h6.symm)
  ·have h3 : ¬ (0 < 2 * js.length ∧ 2 * js.length = z.length) := by simpa [hll] using hc
   have h6:Ak z js = 0:=a0j h2 h3
   refine gG (i:=1) (tt:=6) rfl rfl fP (cU (ts (rm rfl (ra rfl (ro rfl (cQ (cJ 0)) (eZ (bI rfl (fJ (eY rfl) ?_) (fJ (eY rfl) ?_))))))))
   ·exact (kB (by rw [jeL,iI,h6]; rfl))
   ·exact (aM h6.symm)
end
section
open Go Go.RowKit
section
variable {P:Program} {R:iF} {cx:Cx} {n:Nat} {k:List It} {E:cF} {H:Hp}
theorem HH.two {base:Nat} {w:World} {V:aS} {Z:SA} {X:Hp} (h:HH base w V (Z :: X)):HH base w V [Z,gH (SA.emp :: X)]:=by
 have h1:HH base w V ((Z :: X).set 0 SA.emp ++ [Z]):=h.last rfl
 have h2:HH base w V (gH (SA.emp :: X) :: [Z]):=HH.repack h1
 exact h2.pick (is:=[1,0]) ⟨⟨_,rfl,fun _ _ _ h=>h⟩,⟨_,rfl,fun _ _ _ h=>h⟩,trivial⟩ (by decide)
theorem jH.pack {f : FuncId} {Ts : List Ty} {γ : Type} {U : γ → Ty} {X : γ → Hp} {Q : γ → Prop} (h : jH P f Ts [] γ U X Q) : jH P f Ts [] γ U (fun x => [gH (SA.emp :: X x)]) Q :=
 fun cx Z vs V w h1 h2=>(h cx Z vs V w h1 h2).mono fun e w' ⟨v,V',x,a,b,c,d,e'⟩=>⟨v,V',x,a,b,c.withHH c.hp.two,d,e'⟩
theorem a1l {X Y:Hp} (h:Tr P R cx n k E (X ++ Y)):Tr P R cx n k E (gH X :: Y):=fun a w ⟨V,hin,hs⟩=>h a w ⟨V,hin.withHH hin.hp.unpack,hs⟩
end
namespace W
variable {P:Program} {R:iF} {cx:Cx} {n:Nat} {k:List It} {E:cF} {H:Hp} {Hf:Bool → Hp} {p:Nat}
end W
end
section
open Go Go.RowKit
theorem Xw {z:List Qi} {s:List (List Qi)} {Q:List Nat} {m:Nat} (hs:eR s z.length z.length) (hQ:∀ x,x ∈ Q → x < z.length) (hm:Q.length = m) (hm2:m ≤ 1000) (hl:z.length ≤ 1000):jH Tryz.prog 122 [bR z s,hJ (Q.map Nat.succ)] [] (Nat × Nat) (fun B=>eD [Is (.slice (some ⟨B.1,0,none⟩) m m),Is (.slice (some ⟨B.2,0,none⟩) m m)]) (fun B=>[bM 51 5 (.slice (some ⟨B.1,0,none⟩) m m) ((nO z Q).map aE),nJ B.2 29 51 5 (dO aE (tH s Q))]) (fun _=>True):=by
 have hll:(Q.map Nat.succ).length = m:=by rw [List.length_map]; exact hm
 refine jH.intro Tryz.func122 rfl Tryz.ntmps122 rfl (fun cx Z=>(ts (rn rfl (fU (Ht rfl)) fun B2=>(rn rfl (pM (Ht rfl)) fun B3=>(rn rfl (eG (Ts:=[Is (.slice none 0 0),Is (.slice none 0 0)]) O_32 rfl (fun V=>aW zd (aW zd (aG)))) fun B4=>(eZ (cK (gG (i:=1) (tt:=2) rfl rfl gE (gG (i:=2) (tt:=3) rfl rfl gY (cY (ro rfl (dV A_72 Z_72 (Ht rfl)) (ro rfl (dK U_72 (Ht rfl) (by rw [List.length_map,hll])) ?_))))))))))))
 refine rn rfl (Nx (T:=aE Qi.zero) (i:=Tryz.t51) kD iS rfl rfl (Ht rfl) rfl gS (El.ag rfl) (by show 88 * _ ≤ _; omega) zo) fun B10=>ra rfl (eZ (cK (ts (ro rfl (dV A_72 Z_72 (Ht rfl)) (ro rfl (dK U_72 (Ht rfl) (by rw [List.length_map,hll])) ?_)))))
 refine ro rfl (cX (cJ 0)) (eZ (eK (bL [0,3,4] rfl (by decide) ?_)))
 refine cM (fun (i : Nat) => i ≤ m) (fun (i : Nat) => m - i) (fun (i : Nat) => [(2, PT (bR z s)), (3, PT (hJ (Q.map Nat.succ))), (4, bO B4 0), (5, Is (.slice (some ⟨B10, 0, none⟩) m m)), (11, hJ (Q.map Nat.succ)), (12, NT .i64 m), (13, NT .i64 i)]) (fun (i : Nat) => [Z, box B4 32 [Is (.slice none 0 0), Is (.slice none 0 0)], bM 51 5 (.slice (some ⟨B10, 0, none⟩) m m) ((jR (fun i => gv z (fC Q i)) Qi.zero m i).map aE)]) 0 (Nat.zero_le _)
  (zS rfl) (aU (fun _ _ _ h=>h) (aU (fun _ _ _ h=>h) (aU (aR (by rw [← iH]; exact nG aE m)) aY))) (fun i hi=>?_)
 refine ts (ro rfl (gV (Ht rfl) (Ht rfl)) (eZ (cK (dQ (Ht rfl) (fun hd=>?_) (fun hd=>?_)))))
 ·simp only [decide_eq_true_eq] at hd
  have hki:fC Q i < z.length:=Dh hQ zo
  refine cU (cK (eK (ts (rm rfl (ro rfl (dZ U_72 Z_3 (Ht rfl) (Ht rfl) rfl (eQ (nM zo))) (ro rfl (dV A_3 Z_3 (Ht rfl)) (ra rfl (ra rfl (eZ (cY (rm rfl (rm rfl (ro rfl (jK eO (Ht rfl) rfl) (ro rfl (dV A_29 Z_29 (Ht rfl)) (rm rfl (ro rfl (aF.nat (dG (Ht rfl) (cJ 1) zo z6) (show fC Q i + 1 - 1 = fC Q i by omega)) (ro rfl (dZ U_29 Z_51 (Ht rfl) (Ht rfl) rfl (eQ (dY (d:=Qi.zero) hki))) ?_)))))))))))))))))
  refine ro rfl (dV A_51 Z_51 (Ht rfl)) (ro rfl (dE U_29 Z_51 (Ht rfl) (Ht rfl) rfl (i:=2) rfl (by rw [List.length_map,cO]; omega) rfl) ?_)
  refine kS Z_51 (Ht rfl) (Ht rfl) (El.ag rfl) (i:=2) rfl rfl (by rw [List.length_map,cO]; omega) rfl ?_
  refine eZ (bH (cY (ro rfl (dW (Ht rfl) (cJ 1) z6) (rm rfl (eZ (gQ (i + 1) hd zo (zS rfl) (aU (fun _ _ _ h=>h) (aU (fun _ _ _ h=>h) (aU (aR (by rw [fM,← jI (f:=(fun i=>gv z (fC Q i)))])) aY)))))))))
 ·simp only [decide_eq_false_iff_not] at hd
  obtain rfl:m = i:=Nat.le_antisymm zo hi
  rw [jJ]
  rw [show nO z Q = tab m fun i=>gv z (fC Q i) from by rw [nO,hm],show tH s Q = tab m fun i=>tab m fun j=>gm s (fC Q i) (fC Q j) from by rw [tH,hm]]
  refine gK rfl (ts (rm rfl (ro rfl (dV A_72 Z_72 (Ht rfl)) (ro rfl (dK U_72 (Ht rfl) (by rw [List.length_map,hll])) ?_))))
  refine ro rfl (lW (γ:=Fin m × Fin m) (Ts:=fun x=>[NT .i64 x.1.1,NT .i64 x.2.1]) (U:=fun x=>aE (gm s (fC Q x.1.1) (fC Q x.2.1))) Tryz.call206 (fun x=>Mn hs hQ hm hm2 hl x.1.2 x.2.2) ⟨(Ht rfl),(Ht rfl),trivial⟩) (nN K_114 (En (n:=m) (f:=fun i j=>gm s (fC Q i) (fC Q j)) zo) ⟨(Ht rfl),(Ht rfl),trivial⟩ rfl (fun B32 _=>(ro rfl (qP (Ht rfl) (Ht rfl)) (gJ Z_32 (Ht rfl) (Ht rfl) rfl (i:=1) rfl (aK rfl) rfl rfl (eZ ?_)))))
  exact lR (B10,B32) trivial [0,2,3] ⟨⟨_,rfl,fun _ _ _ h=>h⟩,⟨_,rfl,fun _ _ _ h=>h⟩,⟨_,rfl,fun _ _ _ h=>h⟩,trivial⟩ (by decide) (yO rfl (fY A_32 Z_32 rfl (i:=1) rfl rfl))
end
section
open Go Go.RowKit
theorem Wt {z : List Qi} {s : List (List Qi)} (hl : z.length ≤ 1000) : bB Tryz.prog 121 [bR z s, Is (.slice none 0 0)] (hJ ((nR [] z.length).map Nat.succ)) :=
 (Do (z := z) (s := s) (G := []) hl (by simp)).arg fun vs V h => match vs, h with
  | [_,b],⟨h1,h2,_⟩=>⟨h1,iT b V h2,trivial⟩
end
section
open Go Go.RowKit
section
variable {P:Program} {n:Nat} {E:cF} {H:Hp}
variable {d:Option Tmp} {t:TypeId} {pos:String} {af:Array Edge} {g:Option (Nat × Bool)}
theorem iB {x i : Operand} {B o q r s : Nat} {kd : IntKind} {j : Int} {e : TypeId} {len : Nat} (hU : ∀ w, (underlying t).run P w = .ok (.array len e) w) (hS : ∀ w, (sizeOf e).run P w = .ok s w)
  (hx:bC E x (bO B o)) (hi:bC E i (aD kd j)) (hj:j = (q:Int)) (hl:q < len) (hr:o + q * s = r) {t':TypeId}:aF P n E H ⟨d,.indexAddr t x i,t',pos,af,g⟩ (bO B r) :=
 dP fun a V w hs => by
  have e1:a.eval x = .pointer (some ⟨B,o,none⟩):=hx n V a hs
  have ei:a.eval i = .int kd j:=hi n V a hs
  subst hj hr
  exact ⟨.pointer (some ⟨B,o + q * s,none⟩),by simp [execOp,e1,ei,Instr.indexAt,Instr.sureAddr,asIntOf,Sem.run_bind,hU,hS,Result.andThen,hl,gF],rfl⟩
theorem Zi {x : Operand} {arr e : TypeId} {s : Nat} {Us Ws : List Ty} (hU : ∀ w, (underlying arr).run P w = .ok (.array 2 e) w) (hx : bC E x (jS s [eD Us, eD Ws])) (hl : Us.length = s) {t' : TypeId} :
  aF P n E H ⟨d,.sliceToArrayPointer arr x,t',pos,af,g⟩ (PT (eD (Us ++ Ws))) :=
 dP fun a V w hs => by
  obtain ⟨a0,cap,e1,hcap,h3⟩:=hx n V a hs
  obtain ⟨b,o,x0,ea,⟨c,BT,fr,l2,l3⟩,c0,us,rfl,hu⟩:=h3 0 _ rfl
  obtain ⟨b',o',x1,ea',⟨c',BT',fr',l2',l3'⟩,c1,ws,rfl,hw⟩:=h3 1 _ rfl
  subst ea
  obtain ⟨rfl,rfl⟩:b = b' ∧ o = o':=by simpa using ea'
  obtain ⟨rfl,rfl,rfl⟩:c = c' ∧ BT = BT' ∧ fr = fr':=by rw [l2] at l2'; simpa using l2'
  have hlu:us.length = s:=hu.length.trans hl
  refine ⟨.pointer (some ⟨b,o,none⟩),by simp [execOp,e1,Instr.arrayAt,Sem.run_bind,hU,Result.andThen,pure,Sem.run],b,o,.agg (us ++ ws).toArray,rfl,⟨c,BT,fr,l2,fun j u hj=>?_⟩,us ++ ws,rfl,hu.append hw⟩
  simp only [Value.cells,List.getElem?_toArray] at hj
  by_cases c2:j < us.length
  ·rw [List.getElem?_append_left c2] at hj
   have:=l3 j u (by simpa [Value.cells] using hj)
   rw [show o + j = o + 0 * s + j by omega]; exact this
  ·rw [List.getElem?_append_right zo] at hj
   have:=l3' (j - us.length) u (by simpa [Value.cells] using hj)
   rw [show o + j = o + 1 * s + (j - us.length) by omega]; exact this
end
end
end Go.Proofs.YteohomnhncjcnaaGreat
