/- What functions of the program compute, proved by walks over their code, and the plain mathematics of it; a part of the proof in the last text. -/
import Derived.Test.YthcmlodgnfekeaaGreatP03
set_option linter.unusedVariables false
set_option linter.unusedSimpArgs false
set_option maxRecDepth 100000
set_option maxHeartbeats 4000000
namespace Go.Proofs.YthcmlodgnfekeaaGreat
section
open Go Go.RowKit
theorem Uj {M:List (List Qi)} {n m G B:Nat} (hs:cI M n m) (hstg:∀ c,c ≤ n → aS (bL M c).1 G) (hG1:1 ≤ G) (hg:6 * G + 4 ≤ 17592186044415) (hnm:n ≤ m) (hm:m ≤ 1000):iH Tryz.prog 265 [Is (.slice (some ⟨B,0,none⟩) n n)] [nL B 54 32 5 (dD aE M)] (Unit) (fun _=>fB [NT .i64 (bL M n).2.1,aF .i64 (bL M n).2.2]) (fun _=>[nL B 54 32 5 (dD aE (bL M n).1)]) (fun _=>True):=by
 have hs1:=hs.1
 refine iH.intro Tryz.func265 rfl Tryz.ntmps265 rfl (fun cx Z=>(ts (ro rfl (cQ (cJ 0)) (ro rfl (cQ (cJ 0)) (eX (ts (ro rfl (cQ (cJ 0)) (eX (cK (ts (rm rfl (ro rfl (iK U_78 (Ht rfl)) (ro rfl (cX (cJ 0)) (eX (eG (Iy 1 rfl (fun vs hvs=>?_)))))))))))))))))
 have hvs2:Yj vs n:=by have h:=hvs; rw [List.length_map,hs1] at h; exact h
 refine Bs (fun (c : Nat) (sw : Nat) (vs : List Value) (A : List (List Qi)) => (c ≤ n ∧ sw ≤ c) ∧ bL M c = (A, sw, -1) ∧ Yj vs n) (fun (c : Nat) (sw : Nat) (vs : List Value) (A : List (List Qi)) => n - c) (fun (c : Nat) (sw : Nat) (vs : List Value) (A : List (List Qi)) => [(0, Is (.slice (some ⟨B, 0, none⟩) n n)), (4, NT .i64 sw), (12, NT .i64 n), (13, NT .i64 c)]) (fun (c : Nat) (sw : Nat) (vs : List Value) (A : List (List Qi)) => [Z, iZ B 54 32 5 vs vs (dD aE A)]) 0 0 vs M ⟨⟨Nat.zero_le _, Nat.le_refl _⟩, rfl, hvs2⟩
  (zS rfl) (eS.refl _) (fun c sw vs A ⟨⟨hc,hsw⟩,hA,hvs⟩=>?_)
 refine ts (ro rfl (gJ (Ht rfl) (Ht rfl)) (eX (cK (dQ (Ht rfl) (fun hcn=>?_) (fun hcn=>?_)))))
 ·simp only [decide_eq_true_eq] at hcn
  have hvl:=hvs.len
  have hAs:cI A n m:=by have h:=mZ hs hc; rw [hA] at h; exact h
  have hAf:aS A G:=by have h:=hstg c hc; rw [hA] at h; exact h
  have hAl:=hAs.1
  refine cU (cK (eG (ts (rm rfl (ra rfl (eX (ts (rm rfl (ra rfl (eX (cK (eG ?_))))))))))))
  refine eL (fun (p : Nat) => (c ≤ p ∧ p ≤ n) ∧ ∀ r, c ≤ r → r < p → gm A r c = Qi.zero) (fun (p : Nat) => n - p) (fun (p : Nat) => [(0, Is (.slice (some ⟨B, 0, none⟩) n n)), (4, NT .i64 sw), (5, NT .i64 c), (6, NT .i64 p), (12, NT .i64 n), (13, NT .i64 c)]) (fun (p : Nat) => [Z, iZ B 54 32 5 vs vs (dD aE A)]) c ⟨⟨Nat.le_refl _, hc⟩, fun r h1 h2 => by omega⟩
   (zS rfl) (eS.refl _) (fun p ⟨⟨hcp,hpn⟩,hz⟩=>?_)
  haveI fp:aI (gm A p c) G:=hAf.get hG1 p c
  refine cK (ts (rm rfl (rm rfl (ro rfl (iK U_78 (Ht rfl)) (ro rfl (gJ (Ht rfl) (Ht rfl)) (rm rfl (fQ rfl rfl (eK rfl rfl (Ht rfl) (fun h=>cX (Ht rfl))) (fQ rfl rfl (eK rfl rfl (Ht rfl) (fun h=>cX (Ht rfl))) (fQ rfl rfl (eK rfl rfl (Ht rfl) (fun h=>gX U_78 Z_54 (fV rfl h) (fV rfl h) rfl (by first | omega | (simp at h; omega)) (by rw [Nat.mul_one,Nat.zero_add]))) ?_)))))))))
  refine fQ rfl rfl (eK rfl rfl (Ht rfl) (fun h=>kE A_54 Z_54 (fV rfl h) (j:=1) rfl (by simp at h; omega))) ?_
  refine fQ rfl rfl (eK rfl rfl (Ht rfl) (fun h=>cX (Ht rfl))) (fQ rfl rfl (eK rfl rfl (Ht rfl) (fun h=>mJ U_54 Z_32 (fV rfl h) (fV rfl h) rfl (j:=1) rfl zo (by simp at h; omega) (by simp at h; rw [hAs.row h]; omega))) ?_)
  refine fQ rfl rfl (eK rfl rfl (Ht rfl) (fun h=>qA A_32 Z_32 (fV rfl h) (j:=1) rfl zo (by simp at h; omega) (by simp at h; rw [hAs.row h]; omega))) ?_
  refine fQ rfl rfl (eK rfl rfl (Ht rfl) (fun h=>aN aR (fV rfl h))) (fQ rfl rfl (eK rfl rfl (Ht rfl) (fun h=>aH lJ K_34 (jN (x:=gm A p c) (L:=G) zo) (fV rfl h) trivial)) (fQ rfl rfl (eK rfl rfl (Ht rfl) (fun h=>dE (fV rfl h))) (ro rfl (gA (Ht rfl) (fun h=>(fV rfl h))) (eX (dQ (Ht rfl) (fun he=>?_) (fun he=>?_))))))
  ·have he2 : p < n ∧ gm A p c = Qi.zero := by simpa using he
   refine cU (eG (cY (rm rfl (ro rfl (dW (Ht rfl) (cJ 1) z6) (ra rfl (eX (cF ?_)))))))
   refine gQ (p + 1) ⟨⟨by omega, by omega⟩, fun r h1 h2 => by
     by_cases e:r = p
     ·rw [e]; exact he2.2
     ·exact hz r h1 zo⟩ zo (zS rfl) (eS.refl _)
  ·have hpv : pv A c n = p := a1O hcp hpn hz (fun h => by simp at he; exact he h)
   refine gG rfl (cK (ts (rm rfl (rm rfl (ro rfl (iK U_78 (Ht rfl)) (ro rfl (dN (Ht rfl) (Ht rfl)) (eX (dQ (Ht rfl) (fun hp=>?_) (fun hp=>?_)))))))))
   ·have hp2 : p = n := by simpa using hp
    have hend:=Pz hs1 hA (by rw [hpv]; exact hp2) hcn
    refine ts (rm rfl (rm rfl (ra rfl (ra rfl (eX ?_)))))
    exact kY () trivial [0,1] ⟨⟨_,rfl,fun _ _ _ h=>h⟩,⟨_,rfl,(fun S w V h=>dO (by rw [hend]) S w V (yD (by rw [List.length_map]; omega) S w V h))⟩,trivial⟩ (by decide) (Ig rfl (fZ (eU rfl) (mE (by rw [hend]))) (fZ (eU rfl) (bR (by rw [hend]))))
   ·have hp2 : p < n := by simp at hp; omega
    have hpz:=(lM (M:=A) (c:=c) (n:=n) hc).2.2.2 (by rw [hpv]; exact hp2)
    rw [hpv] at hpz
    have hnx:=Mc hs1 hA hpv hp2
    refine cU (cK (Tu (fun (q:Nat) (us:List Value) (D:List (List Qi))=>(q = sw + (if p = c then 0 else 1) ∧ D = (if p = c then A else swp [] A p c)) ∧ Yj us n) (fun (q:Nat) (us:List Value) (D:List (List Qi))=>[(0,Is (.slice (some ⟨B,0,none⟩) n n)),(4,NT .i64 q),(5,NT .i64 c),(12,NT .i64 n),(13,NT .i64 c)]) (fun (q:Nat) (us:List Value) (D:List (List Qi))=>[Z,iZ B 54 32 5 us us (dD aE D)]) ?_ (fun q us D ⟨⟨hq,hD⟩,hus⟩=>?_)))
    ·refine ts (rm rfl (rm rfl (ro rfl (fR (Ht rfl) (Ht rfl)) (eX (dQ (Ht rfl) (fun hpc => ?_) (fun hpc => ?_))))))
     ·have hpc2 : ¬ p = c := by simpa using hpc
      refine cK (Y.D_start (m:=14) [(13,1,iZ B 54 32 5 (vs.set p (hd vs c)) vs (dD aE A))] (Y.D_step (Ei:=[(0,_)]) rfl rfl (bQ (bJ rfl rfl) bX) rfl rfl (by kernel_rfl) (dX rfl (cX (Ht rfl))) (Y.D_step (Ei:=[(6,_)]) rfl rfl (bQ (bJ rfl rfl) bX) rfl rfl (by kernel_rfl) (dX rfl (cX (Ht rfl))) (bY (Ei:=[(0,_)]) rfl rfl (bQ (bJ rfl rfl) bX) rfl rfl (dX rfl (cX (Ht rfl))) (bY (Ei:=[(5,_)]) rfl rfl (bQ (bJ rfl rfl) bX) rfl rfl (dX rfl (cX (Ht rfl))) ?_)))))
      refine Y.D_step (Ei:=[(0,_)]) rfl rfl (bQ (bJ rfl rfl) bX) rfl rfl (by kernel_rfl) (dX rfl (cX (Ht rfl))) (Y.D_step (Ei:=[(5,_)]) rfl rfl (bQ (bJ rfl rfl) bX) rfl rfl (by kernel_rfl) (dX rfl (cX (Ht rfl))) (Y.D_step (Ei:=[(48,_),(49,_)]) rfl rfl (bQ (bZ 4 rfl rfl) (bQ (bZ 5 rfl rfl) bX)) rfl rfl (by kernel_rfl) (dX rfl (gX U_78 Z_54 (Ht rfl) (Ht rfl) rfl zo (by rw [Nat.mul_one,Nat.zero_add]))) ?_))
      refine Y.D_step (Ei:=[(50,_)]) rfl rfl (bQ (bZ 6 rfl rfl) bX) rfl rfl (by kernel_rfl) (dX rfl (kE A_54 Z_54 (Ht rfl) (j:=1) rfl zo)) (Y.D_step (Ei:=[(0,_)]) rfl rfl (bQ (bJ rfl rfl) bX) rfl rfl (by kernel_rfl) (dX rfl (cX (Ht rfl))) (Y.D_step (Ei:=[(6,_)]) rfl rfl (bQ (bJ rfl rfl) bX) rfl rfl (by kernel_rfl) (dX rfl (cX (Ht rfl))) (Y.D_step (Ei:=[(52,_),(53,_)]) rfl rfl (bQ (bZ 8 rfl rfl) (bQ (bZ 9 rfl rfl) bX)) rfl rfl (by kernel_rfl) (dX rfl (gX U_78 Z_54 (Ht rfl) (Ht rfl) rfl zo (by rw [Nat.mul_one,Nat.zero_add]))) ?_)))
      refine Y.D_step (Ei:=[(54,_)]) rfl rfl (bQ (bZ 10 rfl rfl) bX) rfl rfl (by kernel_rfl) (dX rfl (kE A_54 Z_54 (Ht rfl) (j:=1) rfl zo)) (Y.D_step (Ei:=[(44,_),(45,_)]) rfl rfl (bQ (bZ 0 rfl rfl) (bQ (bZ 1 rfl rfl) bX)) rfl rfl (by kernel_rfl) (dX rfl (gX U_78 Z_54 (Ht rfl) (Ht rfl) rfl zo (by rw [Nat.mul_one,Nat.zero_add]))) ?_)
      refine Y.D_putI (Ei:=[(56,_),(51,_)]) 1 rfl rfl rfl (bQ (bZ 12 rfl rfl) (bQ (bZ 7 rfl rfl) bX)) (.head _) rfl (Nu Z_54 (Ht rfl) (Ht rfl) (hvs.pl c zo) (i:=p) (hs:=vs) zo) (Y.D_done aT rfl (by kernel_rfl) rfl (by simp [Y.okP]) rfl rfl (bU (bU (bU (bU (bU (bU (bU (bU (bU (bU (bU (bU (bU (Y.F_putI (Y.F_nil ?_))))))))))))))))
      refine ro rfl (gX U_78 Z_54 (Ht rfl) (Ht rfl) rfl zo (by rw [Nat.mul_one,Nat.zero_add])) ?_
      refine Zv Z_54 (Ht rfl) (Ht rfl) (j:=1) rfl (hvs.pl p zo) (by rw [List.length_set]; omega) rfl ?_
      refine eX (mB 1 rfl (Mk (hs:=swp Cv vs p c) (p:=p) (c:=c) zo zo zo) (cY (rm rfl (ro rfl (dW (Ht rfl) (cJ 1) z6) (ra rfl (eX (bT (sw + 1,swp Cv vs p c,swp [] A p c) ⟨⟨by rw [if_neg hpc2],by rw [if_neg hpc2]⟩,hvs.swp hp2 hcn⟩ (zS rfl) (eS.refl _))))))))
     ·have hpc2 : p = c := by simpa using hpc
      refine cU (bT (sw,vs,A) ⟨⟨by rw [if_pos hpc2]; rfl,by rw [if_pos hpc2]⟩,hvs⟩ (zS rfl) (eS.refl _))
    ·have hul := hus.len
     rw [← hq,← hD] at hnx
     have hDs:cI D n m:=by rw [hD]; split; exact hAs; exact wR hAs hp2 hcn
     have hDf:aS D G:=by rw [hD]; split; exact hAf; exact Di hAf
     have hDl:=hDs.1
     have hDz : gm D c c ≠ Qi.zero := by
      rw [hD]; split
      ·rename_i e; rw [e] at hpz; exact hpz
      ·show gv (dP (swp [] A p c) c) c ≠ _
       rw [uX zo]; exact hpz
     refine ts (rm rfl (ro rfl (dW (Ht rfl) (cJ 1) z6) (ra rfl (eX (eG ?_)))))
     refine eL (fun (r : Nat) => c < r ∧ r ≤ n) (fun (r : Nat) => n - r) (fun (r : Nat) => [(0, Is (.slice (some ⟨B, 0, none⟩) n n)), (4, NT .i64 q), (5, NT .i64 c), (7, NT .i64 r), (12, NT .i64 n), (13, NT .i64 c)]) (fun (r : Nat) => [Z, iZ B 54 32 5 us us (dD aE (redM D c r))]) (c + 1) ⟨Nat.lt_succ_self _, hcn⟩
      (zS rfl) (aU (fun _ _ _ h=>h) (aU (wG (congrArg _ Ie)) aY)) (fun r ⟨hcr,hrn⟩=>?_)
     refine cK (ts (rm rfl (rm rfl (ro rfl (iK U_78 (Ht rfl)) (ro rfl (gJ (Ht rfl) (Ht rfl)) (eX (dQ (Ht rfl) (fun hr=>?_) (fun hr=>?_))))))))
     ·simp only [decide_eq_true_eq] at hr
      obtain ⟨X,hX⟩:∃ X,X = redM D c r:=⟨_,rfl⟩
      have hXr:dP X r = dP D r:=by rw [hX]; exact tU zo zo
      have hXc:dP X c = dP D c:=by rw [hX]; exact tU zo zo
      have hXl:X.length = n:=by rw [hX,qB]; exact hDl
      have hXrl:(dP X r).length = m:=by rw [hXr]; exact hDs.row hr
      have hXcl:(dP X c).length = m:=by rw [hXc]; exact hDs.row hcn
      have hXrg:(X.getD r []).length = m:=hXrl
      have hXcg:(X.getD c []).length = m:=hXcl
      have hXfr:cD (dP X r) G:=by rw [hXr]; exact hDf.row r
      have hXfc:cD (dP X c) G:=by rw [hXc]; exact hDf.row c
      haveI g1:aI (gm X r c) G:=hXfr.get hG1 c
      haveI g2:aI (gm X c c) G:=hXfc.get hG1 c
      have hXz:gm X c c ≠ Qi.zero:=by show gv (dP X c) c ≠ _; rw [hXc]; exact hDz
      haveI g3:aI (gm X r c / gm X c c) (G + 3 * G + 2):=⟨g1.fit.div g2.fit hXz⟩
      have hend:=So (D:=D) (r:=r) (c:=c) zo hcr
      rw [← hX] at hend ⊢
      refine cU (cK (eG (cK (Y.D_start (m:=21) [] (bY (Ei:=[(0,_)]) rfl rfl (bQ (bJ rfl rfl) bX) rfl rfl (dX rfl (cX (Ht rfl))) (bY (Ei:=[(7,_)]) rfl rfl (bQ (bJ rfl rfl) bX) rfl rfl (dX rfl (cX (Ht rfl))) (bY (Ei:=[(69,_),(70,_)]) rfl rfl (bQ (bZ 0 rfl rfl) (bQ (bZ 1 rfl rfl) bX)) rfl rfl (dX rfl (gX U_78 Z_54 (Ht rfl) (Ht rfl) rfl zo (by rw [Nat.mul_one,Nat.zero_add]))) ?_)))))))
      refine bY (Ei:=[(71,_)]) rfl rfl (bQ (bZ 2 rfl rfl) bX) rfl rfl (dX rfl (kE A_54 Z_54 (Ht rfl) (j:=1) rfl zo)) (bY (Ei:=[(5,_)]) rfl rfl (bQ (bJ rfl rfl) bX) rfl rfl (dX rfl (cX (Ht rfl))) (bY (Ei:=[(72,_),(73,_)]) rfl rfl (bQ (bZ 3 rfl rfl) (bQ (bZ 4 rfl rfl) bX)) rfl rfl (dX rfl (mJ U_54 Z_32 (Ht rfl) (Ht rfl) rfl (j:=1) rfl zo zo zo)) (bY (Ei:=[(74,_)]) rfl rfl (bQ (bZ 5 rfl rfl) bX) rfl rfl (dX rfl (qA A_32 Z_32 (Ht rfl) (j:=1) rfl zo zo zo)) ?_)))
      refine bY (Ei:=[(75,_)]) rfl rfl (bQ (bZ 6 rfl rfl) bX) rfl rfl (dX rfl (aN aR (Ht rfl))) (bY (Ei:=[(0,_)]) rfl rfl (bQ (bJ rfl rfl) bX) rfl rfl (dX rfl (cX (Ht rfl))) (bY (Ei:=[(5,_)]) rfl rfl (bQ (bJ rfl rfl) bX) rfl rfl (dX rfl (cX (Ht rfl))) (bY (Ei:=[(77,_),(78,_)]) rfl rfl (bQ (bZ 8 rfl rfl) (bQ (bZ 9 rfl rfl) bX)) rfl rfl (dX rfl (gX U_78 Z_54 (Ht rfl) (Ht rfl) rfl zo (by rw [Nat.mul_one,Nat.zero_add]))) ?_)))
      refine bY (Ei:=[(79,_)]) rfl rfl (bQ (bZ 10 rfl rfl) bX) rfl rfl (dX rfl (kE A_54 Z_54 (Ht rfl) (j:=1) rfl zo)) (bY (Ei:=[(5,_)]) rfl rfl (bQ (bJ rfl rfl) bX) rfl rfl (dX rfl (cX (Ht rfl))) (bY (Ei:=[(80,_),(81,_)]) rfl rfl (bQ (bZ 11 rfl rfl) (bQ (bZ 12 rfl rfl) bX)) rfl rfl (dX rfl (mJ U_54 Z_32 (Ht rfl) (Ht rfl) rfl (j:=1) rfl zo zo zo)) (bY (Ei:=[(82,_)]) rfl rfl (bQ (bZ 13 rfl rfl) bX) rfl rfl (dX rfl (qA A_32 Z_32 (Ht rfl) (j:=1) rfl zo zo zo)) ?_)))
      refine bY (Ei:=[(76,_),(83,_)]) rfl rfl (bQ (bZ 7 rfl rfl) (bQ (bZ 14 rfl rfl) bX)) rfl rfl (dX rfl (aH iD K_142 (sP (x:=gm X r c) (y:=gm X c c) (L:=G) (M:=G) zo) (Ht rfl) ⟨(Ht rfl),trivial⟩)) (bY (Ei:=[(84,_)]) rfl rfl (bQ (bZ 15 rfl rfl) bX) rfl rfl (dX rfl (cX (Ht rfl))) (bY (Ei:=[(68,_)]) rfl rfl (bQ (bZ 16 rfl rfl) bX) rfl rfl (dX rfl (dU (Ht rfl) rfl)) (bY (Ei:=[(68,_)]) rfl rfl (bQ (bZ 16 rfl rfl) bX) rfl rfl (dX rfl (dU (Ht rfl) rfl)) ?_)))
      refine Y.D_newp (Ei:=[]) (fun bb=>box bb 32 [aD (decide ((gm X r c / gm X c c).a < 0)),aL (gm X r c / gm X c c).a.natAbs,aD (decide ((gm X r c / gm X c c).b < 0)),aL (gm X r c / gm X c c).b.natAbs,aL (du (gm X r c / gm X c c))]) 20 rfl rfl rfl bX rfl rfl (by kernel_rfl) (eW (Ts:=[Is (.bool false),Is (.slice none 0 0),Is (.bool false),Is (.slice none 0 0),Is (.slice none 0 0)]) O_32 rfl (fun V=>aW zd (aW zd (aW zd (aW zd (aW zd (aG))))))) ?_
      refine Y.D_putN (Ei:=[(85,_)]) 19 rfl rfl rfl rfl rfl rfl (bQ (bZ 17 rfl rfl) bX) (fun bb=>nM Z_32 (Ht rfl) (Ht rfl) rfl (i:=0) rfl (aK rfl) rfl rfl) (Y.D_done aT rfl (by kernel_rfl) rfl (by simp [Y.okP]) rfl rfl (bU (bU (bU (bU (bU (bU (bU (bU (bU (bU (bU (bU (bU (bU (bU (bU (bU (bU (bU (Y.F_newp (fun B8=>Y.F_putN (Y.F_nil ?_)))))))))))))))))))))))
      refine ra rfl (eX (ts (rm rfl (ro rfl (dW (Ht rfl) (cJ 1) z6) (ra rfl (eX (eG ?_)))))))
      refine eL (fun (k : Nat) => c < k ∧ k ≤ m) (fun (k : Nat) => m - k) (fun (k : Nat) => [(0, Is (.slice (some ⟨B, 0, none⟩) n n)), (4, NT .i64 q), (5, NT .i64 c), (7, NT .i64 r), (8, eH B8 0), (10, NT .i64 k), (12, NT .i64 n), (13, NT .i64 c)]) (fun (k : Nat) => [Z, iZ B 54 32 5 us us (dD aE (X.set r (jV (dP X r) (dP X c) c k))), box B8 32 [aD (decide ((gm X r c / gm X c c).a < 0)), aL (gm X r c / gm X c c).a.natAbs, aD (decide ((gm X r c / gm X c c).b < 0)), aL (gm X r c / gm X c c).b.natAbs, aL (du (gm X r c / gm X c c))]]) (c + 1) ⟨Nat.lt_succ_self _, by omega⟩
       (zS rfl) (aU (fun _ _ _ h=>h) (aU (wG (by rw [← If,a0X zo])) (aU (aP rfl) aY))) (fun k ⟨hck,hkm⟩=>?_)
      obtain ⟨Y,hY⟩:∃ Y,Y = (X.set r (jV (dP X r) (dP X c) c k)):=⟨_,rfl⟩
      have hYl:Y.length = n:=by rw [hY,List.length_set]; exact hXl
      have hYrl:(dP Y r).length = m:=by rw [hY,Dd zo,tV]; exact hXrl
      have hYcl:(dP Y c).length = m:=by rw [hY,uU zo]; exact hXcl
      have hYrg:(Y.getD r []).length = m:=hYrl
      have hYcg:(Y.getD c []).length = m:=hYcl
      rw [← hY]
      refine cK (ts (rm rfl (rm rfl (rm rfl (ro rfl (gX U_78 Z_54 (Ht rfl) (Ht rfl) rfl zo (by rw [Nat.mul_one,Nat.zero_add])) ?_)))))
      refine ro rfl (kE A_54 Z_54 (Ht rfl) (j:=1) rfl zo) (ro rfl (Xb U_54 (Ht rfl) (j:=1) rfl zo zo) (ro rfl (gJ (Ht rfl) (Ht rfl)) (eX (dQ (Ht rfl) (fun hk=>?_) (fun hk=>?_)))))
      ·have hk2 : k < m := by simp only [decide_eq_true_eq] at hk; omega
       have e1:gm Y r k = gv (dP X r) k:=by rw [hY]; exact a1C zo zo hck
       have e2:gm Y c k = gv (dP X c) k:=by rw [hY]; exact a1B zo
       haveI y1:aI (gm Y r k) G:=by rw [e1]; exact hXfr.get hG1 k
       haveI y2:aI (gm Y c k) G:=by rw [e2]; exact hXfc.get hG1 k
       have hst:=Sn (X:=X) (r:=r) (c:=c) (k:=k) zo zo zo hck
       rw [← hY] at hst
       refine cU (cK (eG (fJ (m:=24) (dp 0 rfl (cX (Ht rfl)) (dp 7 rfl (cX (Ht rfl)) (eD 98 0 99 1 rfl (gX U_78 Z_54 (Ht rfl) (Ht rfl) rfl zo (by rw [Nat.mul_one,Nat.zero_add])) ?_))))))
       refine dq 100 2 rfl (kE A_54 Z_54 (Ht rfl) (j:=1) rfl zo) (dp 10 rfl (cX (Ht rfl)) (dp 0 rfl (cX (Ht rfl)) (dp 7 rfl (cX (Ht rfl)) (eD 103 5 104 6 rfl (gX U_78 Z_54 (Ht rfl) (Ht rfl) rfl zo (by rw [Nat.mul_one,Nat.zero_add])) ?_))))
       refine dq 105 7 rfl (kE A_54 Z_54 (Ht rfl) (j:=1) rfl zo) (dp 10 rfl (cX (Ht rfl)) (eD 106 8 107 9 rfl (mJ U_54 Z_32 (Ht rfl) (Ht rfl) rfl (j:=1) rfl zo zo zo) (dq 108 10 rfl (qA A_32 Z_32 (Ht rfl) (j:=1) rfl zo zo zo) (dq 109 11 rfl (aN aR (Ht rfl)) (dp 8 rfl (eJ A_32 Z_32 (Ht rfl) (i:=2) rfl rfl rfl) (dq 111 13 rfl (aN aR (Ht rfl)) (dp 0 rfl (cX (Ht rfl)) (dp 5 rfl (cX (Ht rfl)) (eD 113 15 114 16 rfl (gX U_78 Z_54 (Ht rfl) (Ht rfl) rfl zo (by rw [Nat.mul_one,Nat.zero_add])) ?_)))))))))
       refine dq 115 17 rfl (kE A_54 Z_54 (Ht rfl) (j:=1) rfl zo) (dp 10 rfl (cX (Ht rfl)) (eD 116 18 117 19 rfl (mJ U_54 Z_32 (Ht rfl) (Ht rfl) rfl (j:=1) rfl zo zo zo) (dq 118 20 rfl (qA A_32 Z_32 (Ht rfl) (j:=1) rfl zo zo zo) (eD 112 14 119 21 rfl (aH bE K_29 (iQ (x:=gm X r c / gm X c c) (y:=gm Y c k) (L:=G + 3 * G + 2) (M:=G) zo) (Ht rfl) ⟨(Ht rfl),trivial⟩) (eD 110 12 120 22 rfl (aH iE K_32 (sQ (x:=gm Y r k) (y:=gm X r c / gm X c c * gm Y c k) (L:=G) (M:=G + 3 * G + 2 + G + 1) zo) (Ht rfl) ⟨(Ht rfl),trivial⟩) ?_)))))
       refine fW aT rfl (by kernel_rfl) (zF (zF (zF (zF (zF (zF (aV (ro rfl (mJ U_54 Z_32 (Ht rfl) (Ht rfl) rfl (j:=1) rfl zo zo zo) (a1k Z_32 (Ht rfl) (Ht rfl) (j:=1) rfl (El.ag rfl) (F:=aE) (z:=gm Y r k - gm X r c / gm X c c * gm Y c k) zo zo zo rfl (eX (cF (cY ?_))))))))))))
       refine rm rfl (ro rfl (dW (Ht rfl) (cJ 1) z6) (ra rfl (eX (gQ (k + 1) ⟨by omega,hk2⟩ zo (zS rfl) (aU (fun _ _ _ h=>h) (aU (wG (congrArg _ hst)) (aU (aP rfl) aY)))))))
      ·have hk3 : k = m := by simp only [decide_eq_false_iff_not] at hk; omega
       subst hk3
       refine gG rfl (cF (cY (rm rfl (ro rfl (dW (Ht rfl) (cJ 1) z6) (ra rfl (eX (cC [0,1] rfl (by decide) (gQ (r + 1) ⟨by omega,hr⟩ zo (zS rfl) (aU (fun _ _ _ h=>h) (aU (wG (by rw [hY,← hend,hDs.row hr])) aY))))))))))
     ·simp only [decide_eq_false_iff_not] at hr
      obtain rfl:r = n:=Nat.le_antisymm hrn zo
      refine gG rfl (cF (cY (ro rfl (dW (Ht rfl) (cJ 1) z6) (rm rfl (eX (gQ (c + 1,q,us,redM D c r) ⟨⟨hcn,by show q ≤ c + 1; rw [hq]; split <;> omega⟩,hnx,hus⟩ (by dsimp only; omega) (zS rfl) (eS.refl _)))))))
 ·simp only [decide_eq_false_iff_not] at hcn
  obtain rfl:c = n:=Nat.le_antisymm hc zo
  have hvl:=hvs.len
  have hAs:cI A c m:=by have h:=mZ hs hc; rw [hA] at h; exact h
  refine gG rfl (ts (rm rfl (ra rfl (ro rfl (cQ cV) (eX ?_)))))
  exact kY () trivial [0,1] ⟨⟨_,rfl,fun _ _ _ h=>h⟩,⟨_,rfl,(fun S w V h=>dO (by rw [hA]) S w V (yD (by rw [List.length_map,hAs.1]; exact hvl) S w V h))⟩,trivial⟩ (by decide) (Ig rfl (fZ (eU rfl) (mE (by rw [hA]))) (fZ (eU rfl) (bR (by rw [hA]))))
end
section
open Go Go.RowKit
theorem Lu  : bA Tryz.prog 229 [bF []] (aD true):=by
 refine bA.intro Tryz.func229 rfl Tryz.ntmps229 rfl (fun cx=>(ts (ro rfl (cQ cV) (eX (ts (rm rfl (ro rfl (cZ Tryz.call231 xB ⟨(Ht rfl),trivial⟩) (rm rfl (ro rfl (dU (Ht rfl) rfl) (ro rfl (dU (Ht rfl) rfl) (ra rfl (ra rfl (eX (ts (rm rfl (rm rfl (fQ rfl rfl (eK rfl rfl (Ht rfl) (fun h=>cX (Ht rfl))) (fQ rfl rfl (eK rfl rfl (Ht rfl) (fun h=>cX (Ht rfl))) (fQ rfl rfl (eK rfl rfl (Ht rfl) (fun h=>dK U_78 (fV rfl h) aC)) (fQ rfl rfl (eK rfl rfl (Ht rfl) (fun h=>dN (fV rfl h) (fV rfl h))) ?_))))))))))))))))))))
 refine ro rfl (gA (Ht rfl) (fun h=>(fV rfl h))) (ra rfl (eX (fG rfl (fZ (eU rfl) ?_))))
 exact (fE (by simp))
theorem Ee {M:List (List Qi)} {n:Nat} (h:cI M n n) (h1:1 ≤ n) (hn:n ≤ 32):bA Tryz.prog 229 [bF M] (aD true):=by
 have hl:=h.1
 refine bA.intro Tryz.func229 rfl Tryz.ntmps229 rfl (fun cx=>(ts (ro rfl (cQ cV) (eX (ts (rm rfl (ro rfl (cZ Tryz.call231 (Af h h1 hn hn) ⟨(Ht rfl),trivial⟩) (rm rfl (ro rfl (dU (Ht rfl) rfl) (ro rfl (dU (Ht rfl) rfl) (ra rfl (ra rfl (eX (ts (rm rfl (rm rfl (fQ rfl rfl (eK rfl rfl (Ht rfl) (fun h=>cX (Ht rfl))) (fQ rfl rfl (eK rfl rfl (Ht rfl) (fun h=>cX (Ht rfl))) (fQ rfl rfl (eK rfl rfl (Ht rfl) (fun h=>dK U_78 (fV rfl h) aC)) (fQ rfl rfl (eK rfl rfl (Ht rfl) (fun h=>dN (fV rfl h) (fV rfl h))) ?_))))))))))))))))))))
 refine ro rfl (gA (Ht rfl) (fun h=>(fV rfl h))) (ra rfl (eX (fG rfl (fZ (eU rfl) ?_))))
 exact (fE (by simp [hl]))
theorem Lv {M:List (List Qi)} {n:Nat} (h:cI M n n) (hn:n ≤ 32):bA Tryz.prog 229 [bF M] (aD true):=by
 by_cases e:n = 0
 ·subst e
  obtain rfl:=List.length_eq_zero_iff.1 h.1
  exact Lu
 ·exact Ee h zo hn
theorem Ag {M bs:List (List Qi)} {n m:Nat} (hM:cI M n m) (hb:∀ b,b ∈ bs → n ≤ b.length) (hn:n ≤ 1000) (hm:m ≤ 1000) (hbl:bs.length ≤ 1000):iH Tryz.prog 230 [bF M,bF bs] [] (Nat) (fun B=>Is (.slice (some ⟨B,0,none⟩) n n)) (fun B=>[nL B 54 32 5 (dD aE (iR M bs n))]) (fun _=>True):=by
 have hMl:=hM.1
 refine iH.intro Tryz.func230 rfl Tryz.ntmps230 rfl (fun cx Z=>(ts (ro rfl (cQ cV) (eX (ts (rm rfl (ro rfl (dK U_78 (Ht rfl) aC) (rn rfl (gN (T:=Is (.slice none 0 0)) (i:=Tryz.t54) V_78 mH rfl rfl (Ht rfl) rfl (fun _=>rfl) trivial (by show 24 * _ ≤ _; omega) zo) fun B12=>(ra rfl (eX (cK (ts (rm rfl (ro rfl (dK U_78 (Ht rfl) aC) (ro rfl (cX (cJ 0)) (eX (eG (mB 1 rfl (oT (e:=32) (s:=5)) ?_))))))))))))))))))
 refine eL (fun (i : Nat) => i ≤ M.length) (fun (i : Nat) => M.length - i) (fun (i : Nat) => [(0, bF M), (1, bF bs), (5, Is (.slice (some ⟨B12, 0, none⟩) M.length M.length)), (13, bF M), (14, NT .i64 M.length), (15, NT .i64 i)]) (fun (i : Nat) => [Z, nL B12 54 32 5 (dD aE (lR (Eg M bs) [] M.length i))]) 0 (Nat.zero_le _)
  (zS rfl) (aU (fun _ _ _ h=>h) (aU (dO (by rw [← lS,mS]; exact lW aE M.length)) aY)) (fun i hi=>?_)
 refine ts (ro rfl (gJ (Ht rfl) (Ht rfl)) (eX (cK (dQ (Ht rfl) (fun hd0=>?_) (fun hd0=>?_)))))
 ·simp only [decide_eq_true_eq] at hd0
  have hrl:(dP M i).length = m:=hM.row zo
  have hrl2:(M.getD i []).length = m:=hrl
  refine nN 1 (i) rfl (pQ hd0) (fun v0=>(cU (cK (eG (ts (rm rfl (ro rfl (dZ U_78 Z_54 (Ht rfl) (Ht rfl) rfl (eQ (dY (d:=[]) hd0))) (ro rfl (dV A_54 Z_54 (Ht rfl)) (ra rfl (ra rfl (eX (ts (rm rfl (rm rfl (rm rfl (vQ Tryz.call120 (Dz (l:=M.getD i []) zo) ⟨(Ht rfl),trivial⟩ rfl (fun v1 _=>(ro rfl (gX U_78 Z_54 (Ht rfl) (Ht rfl) rfl zo (by rw [Nat.mul_one,Nat.zero_add])) ?_))))))))))))))))))
  refine sH Z_54 (Ht rfl) (Ht rfl) (by simp only [dD,List.length_map,gL]; omega) (j:=1) (l:=3) rfl rfl rfl ?_
  refine eX (ts (rm rfl (ro rfl (dK U_78 (Ht rfl) aC) (ro rfl (cX (cJ 0)) (eX (eG (cC [0,1,3] rfl (by decide) ?_)))))))
  refine gO (fun (j : Nat) (v : Value) => j ≤ bs.length) (fun (j : Nat) (v : Value) => bs.length - j) (fun (j : Nat) (v : Value) => [(0, bF M), (1, bF bs), (5, Is (.slice (some ⟨B12, 0, none⟩) M.length M.length)), (6, NT .i64 i), (13, bF M), (14, NT .i64 M.length), (15, NT .i64 i), (25, bF bs), (26, NT .i64 bs.length), (27, NT .i64 j)]) (fun (j : Nat) (v : Value) => [Z, Fa B12 54 32 5 (dD aE (lR (Eg M bs) [] M.length i)) i v, bN 32 5 v ((dP M i ++ (bs.take j).map fun b => gv b i).map aE)]) 0 v1 (Nat.zero_le _)
   (zS rfl) (aU (fun _ _ _ h=>h) (aU (fun _ _ _ h=>h) (aU (cA (by simp)) aY))) (fun j v hj=>?_)
  refine ts (ro rfl (gJ (Ht rfl) (Ht rfl)) (eX (cK (dQ (Ht rfl) (fun he=>?_) (fun he=>?_)))))
  ·simp only [decide_eq_true_eq] at he
   have hbj:i < (bs.getD j []).length:=by have h1:=hb (bs.getD j []) (by rw [Cl he]; exact List.getElem_mem _); omega
   refine cU (cK (eG (ts (ro rfl (dZ U_78 Z_54 (Ht rfl) (Ht rfl) rfl (eQ (dY (d:=[]) he))) (ro rfl (dV A_54 Z_54 (Ht rfl)) (ra rfl (eX (Y.D_startA (m:=12) [] 11 2 rfl rfl (bY (Ei:=[(5,_)]) rfl rfl (bQ (bJ rfl rfl) bX) rfl rfl (dX rfl (cX (Ht rfl))) (bY (Ei:=[(6,_)]) rfl rfl (bQ (bJ rfl rfl) bX) rfl rfl (dX rfl (cX (Ht rfl))) (bY (Ei:=[(5,_)]) rfl rfl (bQ (bJ rfl rfl) bX) rfl rfl (dX rfl (cX (Ht rfl))) ?_)))))))))))
   refine bY (Ei:=[(6,_)]) rfl rfl (bQ (bJ rfl rfl) bX) rfl rfl (dX rfl (cX (Ht rfl))) (bY (Ei:=[(33,_),(34,_)]) rfl rfl (bQ (bZ 2 rfl rfl) (bQ (bZ 3 rfl rfl) bX)) rfl rfl (dX rfl (gX U_78 Z_54 (Ht rfl) (Ht rfl) rfl zo (by rw [Nat.mul_one,Nat.zero_add]))) ?_)
   refine bY (Ei:=[(35,_)]) rfl rfl (bQ (bZ 4 rfl rfl) bX) rfl rfl (dX rfl (kR A_54 Z_54 (Ht rfl) (j:=1) rfl)) (bY (Ei:=[(9,_)]) rfl rfl (bQ (bJ rfl rfl) bX) rfl rfl (dX rfl (cX (Ht rfl))) (bY (Ei:=[(6,_)]) rfl rfl (bQ (bJ rfl rfl) bX) rfl rfl (dX rfl (cX (Ht rfl))) (bY (Ei:=[(37,_),(38,_)]) rfl rfl (bQ (bZ 6 rfl rfl) (bQ (bZ 7 rfl rfl) bX)) rfl rfl (dX rfl (dZ U_54 Z_32 (Ht rfl) (Ht rfl) rfl (eQ (dY (d:=Qi.zero) hbj)))) ?_)))
   refine bY (Ei:=[(39,_)]) rfl rfl (bQ (bZ 8 rfl rfl) bX) rfl rfl (dX rfl (dV A_32 Z_32 (Ht rfl))) (bY (Ei:=[(40,_)]) rfl rfl (bQ (bZ 9 rfl rfl) bX) rfl rfl (dX rfl (eO (xs:=[.tmp 40]) U_54 Z_32 O_32 (cW (Ht rfl) cG) rfl rfl rfl)) (Y.D_app (Ei:=[(36,_),(41,_)]) rfl rfl rfl rfl (bQ (bZ 5 rfl rfl) (bQ (bZ 10 rfl rfl) bX)) rfl (sE (inf:=Tryz.t32) jW iJ rfl rfl rfl (Ht rfl) (Ht rfl) (by simp) (fun T hT=>by simp at hT; subst hT; exact El.ag rfl) (by show _ * 88 ≤ _; simp only [List.length_map,List.length_append,List.length_take,List.length_cons,List.length_nil]; omega) (by simp only [List.length_map,List.length_append,List.length_take,List.length_cons,List.length_nil]; omega)) ?_))
   refine Y.D_done aT rfl (by kernel_rfl) rfl (by simp [Y.okP]) rfl rfl (bU (bU (bU (bU (bU (bU (bU (bU (bU (bU (bU (Y.F_app (fun v2=>Y.F_nil ?_)))))))))))))
   refine ro rfl (gX U_78 Z_54 (Ht rfl) (Ht rfl) rfl zo (by rw [Nat.mul_one,Nat.zero_add])) ?_
   refine sH Z_54 (Ht rfl) (Ht rfl) (by simp only [dD,List.length_map,gL]; omega) (j:=1) (l:=3) rfl rfl rfl ?_
   refine eX (cF (cY (ro rfl (dW (Ht rfl) (cJ 1) z6) (rm rfl (eX (cC [0,1,3] rfl (by decide) (gQ (j + 1,v2) he (by dsimp only; omega) (zS rfl) (aU (fun _ _ _ h=>h) (aU (fun _ _ _ h=>h) (aU (cA ((sN aE _ (gv (bs.getD j []) i)).trans (congrArg _ (Vg he)))) aY))))))))))
  ·simp only [decide_eq_false_iff_not] at he
   obtain rfl:bs.length = j:=Nat.le_antisymm zo hj
   refine gG rfl (cF (jM 1 2 rfl rfl (by decide) (by simp only [dD,List.length_map,gL]; omega) ?_))
   refine cY (ro rfl (dW (Ht rfl) (cJ 1) z6) (rm rfl (eX (cC [0,1] rfl (by decide) (gQ (i + 1) hd0 zo (zS rfl) (aU (fun _ _ _ h=>h) (aU (dO (by rw [List.take_length,jJ,← nS (f:=Eg M bs)])) aY)))))))
 ·simp only [decide_eq_false_iff_not] at hd0
  obtain rfl:i = M.length:=Nat.le_antisymm hi zo
  subst hMl
  refine gG rfl (ts (rm rfl (ra rfl (eX ?_))))
  exact kY B12 trivial [0,1] ⟨⟨_,rfl,fun _ _ _ h=>h⟩,⟨_,rfl,(dO (by rw [nR]; rfl))⟩,trivial⟩ (by decide) (zX rfl (eU rfl))
end
section
open Go Go.RowKit
theorem a1p {n:Nat} (hn:n ≤ 32):iH Tryz.prog 215 [NT .i64 n] [] (Nat) (fun B=>Is (.slice (some ⟨B,0,none⟩) n n)) (fun B=>[tF uO B 54 32 5 (dD aE (wE n))]) (fun _=>True):=by
 refine iH.intro Tryz.func215 rfl Tryz.ntmps215 rfl (fun cx Z=>(ts (ro rfl (cQ cV) (eX (ts (rn rfl (eW (Ts:=[Is (.bool false),Is (.slice none 0 0),Is (.bool false),Is (.slice none 0 0),Is (.slice none 0 0)]) O_32 rfl (fun V=>aW zd (aW zd (aW zd (aW zd (aW zd (aG))))))) fun B3=>(eX (ts (rm rfl (ro rfl (aM.nat (Xd (Ht rfl) (cJ 0)) (show max n 0 = n by omega)) (ro rfl (aM.nat (Kl (Ht rfl) (cJ 32)) (show min n 32 = n by omega)) ?_)))))))))))
 refine rn rfl (gN (T:=Is (.slice none 0 0)) (i:=Tryz.t54) V_78 mH rfl rfl (Ht rfl) rfl (fun _=>rfl) trivial (by show 24 * _ ≤ _; omega) zo) fun B9=>ra rfl (eX (cK (ts (rm rfl (ro rfl (iK U_78 (Ht rfl)) (ro rfl (cX (cJ 0)) (eX (eG (mB 2 rfl (Fb uO ⟨none,0,rfl⟩ (e:=32) (s:=5)) ?_)))))))))
 refine eL (fun (k : Nat) => k ≤ n) (fun (k : Nat) => n - k) (fun (k : Nat) => [(3, eH B3 0), (4, Is (.slice (some ⟨B9, 0, none⟩) n n)), (11, NT .i64 n), (12, NT .i64 k)]) (fun (k : Nat) => [Z, box B3 32 [Is (.bool false), Is (.slice none 0 0), Is (.bool false), Is (.slice none 0 0), Is (.slice none 0 0)], tF uO B9 54 32 5 (dD aE (lR (zE n) [] n k))]) 0 (Nat.zero_le _)
  (zS rfl) (aU (fun _ _ _ h=>h) (aU (fun _ _ _ h=>h) (aU (dO (by rw [← lS,mS]; exact lW aE n)) aY))) (fun k hk=>?_)
 refine ts (ro rfl (gJ (Ht rfl) (Ht rfl)) (eX (cK (dQ (Ht rfl) (fun hd=>?_) (fun hd=>?_)))))
 ·simp only [decide_eq_true_eq] at hd
  refine Ny 2 (k) rfl (pQ hd) (fun v hv=>(cU (cK (eG (ts (rm rfl (ra rfl (eX (cK (fJ (m:=10) (dp 4 rfl (cX (Ht rfl)) (dp 5 rfl (cX (Ht rfl)) (dp 3 rfl (eJ A_32 Z_32 (Ht rfl) (i:=1) rfl rfl rfl) (dq 17 2 rfl (aN aR (Ht rfl)) (d0 rfl (cZ K_36 (vC (n:=0) (by decide) (by decide)) ⟨(cJ 0),trivial⟩) (eD 18 3 19 4 rfl (aH oU Tryz.call318 Ot (Ht rfl) ⟨(Ht rfl),trivial⟩) (dq 20 5 rfl (eO (xs:=[.tmp 20]) U_54 Z_32 O_32 (cW (Ht rfl) cG) rfl rfl rfl) ?_)))))))))))))))))
  refine dp 4 rfl (cX (Ht rfl)) (dq 22 7 rfl (iK U_78 (Ht rfl)) (C.D_new (Ei:=[(21,_),(23,_)]) rfl rfl rfl (bV (bG 6 rfl rfl) (bV (bG 8 rfl rfl) bW)) (Av Tryz.call212 (a09 (m:=n) zo zo) ⟨(Ht rfl),(Ht rfl),trivial⟩) (fW aT rfl (by kernel_rfl) (zF (zF (aJ (C.F_new (fun B24=>aV (ro rfl (gX U_78 Z_54 (Ht rfl) (Ht rfl) rfl zo (by rw [Nat.mul_one,Nat.zero_add])) ?_)))))))))
  refine sH Z_54 (Ht rfl) (Ht rfl) (by simp only [dD,List.length_map,gL]; omega) (j:=2) (l:=4) rfl rfl rfl ?_
  refine eX ?_
  have hB24:=B24.1.2
  refine fJ (m:=9) (dp 4 rfl (cX (Ht rfl)) (dp 5 rfl (cX (Ht rfl)) (eD 26 0 27 1 rfl (gX U_78 Z_54 (Ht rfl) (Ht rfl) rfl zo (by rw [Nat.mul_one,Nat.zero_add])) ?_)))
  refine dq 28 2 rfl (kR A_54 Z_54 (Ht rfl) (j:=2) rfl) (dp 5 rfl (cX (Ht rfl)) (dp 3 rfl (eJ A_32 Z_32 (Ht rfl) (i:=1) rfl rfl rfl) (dq 31 5 rfl (aN aR (Ht rfl)) (d0 rfl (cZ K_36 (vC (n:=1) (by decide) (by decide)) ⟨(cJ 1),trivial⟩) (eD 32 6 33 7 rfl (aH oU Tryz.call318 Ot (Ht rfl) ⟨(Ht rfl),trivial⟩) (fW aT rfl (by kernel_rfl) (zF (zF (aJ (aV (ro rfl (iX U_54 Z_32 (Ht rfl) (Ht rfl) rfl (i:=4) rfl (by simp only [List.length_map,bC]; omega) rfl) ?_)))))))))))
  refine rF Z_32 (Ht rfl) (Ht rfl) (El.ag rfl) (i:=4) rfl rfl (by simp only [List.length_map,bC]; omega) rfl ?_
  refine eX (cF (jM 2 4 rfl rfl (by decide) (by simp only [dD,List.length_map,gL]; omega) ?_))
  refine cY (ro rfl (dW (Ht rfl) (cJ 1) z6) (rm rfl (eX (cC [0,1,2] rfl (by decide) (gQ (k + 1) hd zo (zS rfl) (aU (fun _ _ _ h=>h) (aU (fun _ _ _ h=>h) (aU (dO (by rw [← nS (f:=zE n),← jJ,zE,← kB])) aY))))))))
 ·simp only [decide_eq_false_iff_not] at hd
  obtain rfl:n = k:=Nat.le_antisymm zo hk
  refine gG rfl (ts (rm rfl (ra rfl (eX ?_))))
  exact kY B9 trivial [0,2] ⟨⟨_,rfl,fun _ _ _ h=>h⟩,⟨_,rfl,(dO (by rw [nR]; rfl))⟩,trivial⟩ (by decide) (zX rfl (eU rfl))
theorem a24 {n:Nat} (hn:n ≤ 32):bA Tryz.prog 215 [NT .i64 n] (bF (wE n)):=(a1p hn).fun fun B _ v S V h1 h2=>pS (s:=5) (M:=wE n) (qT n).1.symm v S V h1 h2
theorem Ea {M:List (List Qi)} {b:List Qi} {n G X:Nat} (hM:cI M n n) (hb:b.length = n) (hz:SzS M b n G X) (h1:1 ≤ n) (hn:n ≤ 32):bA Tryz.prog 227 [bF M,bP b] (fB [bP (oG (mL M b n) (lY M b n)),aF .i64 (mL M b n)]):=by
 have hMl:=hM.1
 have hcs:cI (iR M [b] n) n (n + 1):=kH hM
 have hg:=hz.g
 have hx:n * (G + X + 2) + 4 * G + 2 ≤ 17592186044415:=by rw [Nat.add_comm G X]; exact hz.x
 obtain ⟨U,hU⟩:∃ U,U = (pC M b n).1:=⟨_,rfl⟩
 have hUs:cI U n (n + 1):=by rw [hU]; exact Sj hM
 have hUl:=hUs.1
 have hUf:aS U G:=by rw [hU]; exact hz.st n (Nat.le_refl n)
 have hG1:=hz.g1
 have hX1:=hz.x1
 refine bA.intro Tryz.func227 rfl Tryz.ntmps227 rfl (fun cx=>(ts (ro rfl (cQ cV) (ro rfl (cQ (cJ 0)) (eX (cK (ts (rm rfl (ro rfl (cZ Tryz.call229 (Ee hM h1 hn) ⟨(Ht rfl),trivial⟩) (ro rfl (dE (Ht rfl)) (rm rfl (fQ rfl rfl (eK rfl rfl (Ht rfl) (fun h=>cX (Ht rfl))) (fQ rfl rfl (eK rfl rfl (Ht rfl) (fun h=>dK U_54 (fV rfl h) aC)) (fQ rfl rfl (eK rfl rfl (Ht rfl) (fun h=>cX (Ht rfl))) (fQ rfl rfl (eK rfl rfl (Ht rfl) (fun h=>dK U_78 (fV rfl h) aC)) ?_)))))))))))))))
 refine fQ rfl rfl (eK rfl rfl (Ht rfl) (fun h=>fR (fV rfl h) (fV rfl h))) (ro rfl (iF (Ht rfl) (fun h=>(fV rfl h))) (eX (cL (Ht rfl) (by simp [hMl,hb]) ?_)))
 refine cU (ts (rm rfl (ro rfl (dK U_78 (Ht rfl) (by rw [List.length_map,hMl])) ?_)))
 refine ra rfl (eX (ts (rm rfl (rm rfl (ro rfl (eO (xs:=[.tmp 26]) U_78 Z_54 O_54 (cW (Ht rfl) cG) rfl rfl rfl) (vQ Tryz.call230 (Ag (M:=M) (bs:=[b]) (n:=n) (m:=n) hM (fun r hr=>by simp at hr; subst hr; omega) zo zo (by simp)) ⟨(Ht rfl),(Ht rfl),trivial⟩ rfl (fun B28 _=>?_)))))))
 refine ra rfl (eX (cK (ts (rm rfl (Bn Tryz.call265 (Uj (n:=n) (m:=n + 1) (G:=G) hcs hz.st hG1 hg zo zo) (i:=0) rfl ⟨(Ht rfl),trivial⟩ rfl (fun uu _=>(rm rfl (ro rfl (dU (Ht rfl) rfl) (ro rfl (dU (Ht rfl) rfl) (ra rfl (ra rfl (eX (ts (rm rfl (ro rfl (nF (Ht rfl) cV) (eX (dQ (Ht rfl) (fun hs=>?_) (fun hs=>?_))))))))))))))))))
 ·have he : mL M b n = 6 := by rw [mL, if_pos (show 0 ≤ (pC M b n).2.2 from of_decide_eq_true hs)]
  refine ts (ro rfl (cQ cV) (ro rfl (cQ (cJ 6)) (eX (cT rfl (fZ (eU rfl) ?_) (fZ (eU rfl) ?_)))))
  ·exact (fun v V k=>by rw [he]; exact lL v V k)
  ·exact (bR he.symm)
 ·have hst : ¬ 0 ≤ (pC M b n).2.2 := of_decide_eq_false hs
  have he:mL M b n = 0:=by rw [mL,if_neg hst]
  have hdz:∀ i,i < n → gm U i i ≠ Qi.zero:=by rw [hU]; exact oC hcs (Nat.le_refl n) (Kw hst)
  refine cU (ts (rm rfl (rn rfl (mP (T:=aE Qi.zero) (i:=Tryz.t32) jW iJ rfl rfl (Ht rfl) rfl iV (El.ag rfl) (by show 88 * _ ≤ _; omega) zo) fun B37=>(ra rfl (eX (cK (ts (rm rfl (ro rfl (dG (Ht rfl) (cJ 1) zo z6) (ra rfl (eX (eG (mB 0 rfl (dO (show dD aE (bL (iR M [b] n) n).1 = dD aE U by rw [hU]; rfl)) (Iy 0 rfl (fun vs hvs=>?_)))))))))))))))
  have hvl:vs.length = n:=by have h:=hvs.len; rw [List.length_map,hUl] at h; exact h
  refine eL (fun (j : Nat) => j ≤ n) (fun (j : Nat) => n - j) (fun (j : Nat) => [(0, Is (.slice (some ⟨B28, 0, none⟩) n n)), (6, NT .i64 n), (9, Is B37), (10, aF .i64 ((n : Int) - 1 - (j : Int)))]) (fun (j : Nat) => [iZ B28 54 32 5 vs vs (dD aE U), bN 32 5 B37 ((lG U n j).map aE)]) 0 (Nat.zero_le _)
   (aQ rfl (aQ rfl (aQ rfl (aZ rfl (bR zo) aX)))) (aU (fun _ _ _ h=>h) (aU (cA (by rw [lG]; exact wS aE n)) aY)) (fun j hj=>?_)
  refine cK (ts (rm rfl (ro rfl (nF (Ht rfl) cV) (eX (dQ (Ht rfl) (fun hc=>?_) (fun hc=>?_))))))
  ·have hjn : j < n := a1m (of_decide_eq_true hc)
   obtain ⟨q,hq⟩:∃ q,q = n - (j + 1):=⟨_,rfl⟩
   have hqi:(n:Int) - 1 - (j:Int) = (q:Int):=by omega
   have hqr:(U.getD q []).length = n + 1:=hUs.row zo
   have hXf:cD (lG U n j) X:=by rw [hU]; exact hz.bk he j hj
   have hXl:=qM U n j
   refine cU (cK (eG (ts (rm rfl (rm rfl (ro rfl (gX U_78 Z_54 (Ht rfl) (Ht rfl) hqi zo (by rw [Nat.mul_one,Nat.zero_add])) ?_))))))
   refine ro rfl (kE A_54 Z_54 (Ht rfl) (j:=0) rfl zo) (rm rfl (ro rfl (mJ U_54 Z_32 (Ht rfl) (Ht rfl) rfl (j:=0) rfl zo zo zo) (ro rfl (qA A_32 Z_32 (Ht rfl) (j:=0) rfl zo zo zo) (rn rfl (eW (Ts:=[Is (.bool false),Is (.slice none 0 0),Is (.bool false),Is (.slice none 0 0),Is (.slice none 0 0)]) O_32 rfl (fun V=>aW zd (aW zd (aW zd (aW zd (aW zd (aG))))))) fun B11=>?_))))
   refine gZ Z_32 (Ht rfl) (Ht rfl) rfl (i:=2) rfl (aK rfl) rfl rfl (eX (cK (ts (rm rfl (ro rfl (Hu (Ht rfl) cV (r:=((q + 1:Nat):Int)) ((Ip (z:=(n:Int) - 1 - (j:Int) + 1) zo).trans zo)) ?_)))))
   refine ra rfl (eX (eG ?_))
   refine eL (fun (k : Nat) => k ≤ j) (fun (k : Nat) => j - k) (fun (k : Nat) => [(0, Is (.slice (some ⟨B28, 0, none⟩) n n)), (6, NT .i64 n), (9, Is B37), (10, aF .i64 ((n : Int) - 1 - (j : Int))), (11, eH B11 0), (12, NT .i64 (q + 1 + k))]) (fun (k : Nat) => [iZ B28 54 32 5 vs vs (dD aE U), bN 32 5 B37 ((lG U n j).map aE), box B11 32 [aD (decide ((mC U (lG U n j) n q k).a < 0)), aL (mC U (lG U n j) n q k).a.natAbs, aD (decide ((mC U (lG U n j) n q k).b < 0)), aL (mC U (lG U n j) n q k).b.natAbs, aL (du (mC U (lG U n j) n q k))]]) 0 (Nat.zero_le _)
    (zS rfl) (aU (fun _ _ _ h=>h) (aU (fun _ _ _ h=>h) (aU (aP rfl) aY))) (fun k hk=>?_)
   refine cK (ts (rm rfl (rm rfl (ro rfl (gJ (Ht rfl) (Ht rfl)) (eX (dQ (Ht rfl) (fun hf=>?_) (fun hf=>?_)))))))
   ·have hkj : k < j := by simp only [decide_eq_true_eq] at hf; omega
    haveI f1:aI (mC U (lG U n j) n q k) (G + k * (G + X + 2)):=wP hUf hXf hG1 hX1 k
    haveI f2:aI (gm U q (q + 1 + k)) G:=hUf.get hG1 _ _
    haveI f3:aI (gv (lG U n j) (q + 1 + k)) X:=hXf.get hX1 _
    have hb1:k * (G + X + 2) + (G + X + 2) ≤ n * (G + X + 2):=by rw [← Nat.succ_mul]; exact Nat.mul_le_mul_right _ zo
    refine cU (cK (eG (fJ (m:=15) (dp 11 rfl (eJ A_32 Z_32 (Ht rfl) (i:=2) rfl rfl rfl) (dq 58 0 rfl (aN aR (Ht rfl)) (dp 0 rfl (cX (Ht rfl)) (dp 10 rfl (cX (Ht rfl)) (eD 60 2 61 3 rfl (gX U_78 Z_54 (Ht rfl) (Ht rfl) hqi zo (by rw [Nat.mul_one,Nat.zero_add])) ?_))))))))
    refine dq 62 4 rfl (kE A_54 Z_54 (Ht rfl) (j:=0) rfl zo) (dp 12 rfl (cX (Ht rfl)) (eD 63 5 64 6 rfl (mJ U_54 Z_32 (Ht rfl) (Ht rfl) rfl (j:=0) rfl zo zo zo) (dq 65 7 rfl (qA A_32 Z_32 (Ht rfl) (j:=0) rfl zo zo zo) (dq 66 8 rfl (aN aR (Ht rfl)) (dp 9 rfl (cX (Ht rfl)) (dp 12 rfl (cX (Ht rfl)) (eD 68 10 69 11 rfl (iX U_54 Z_32 (Ht rfl) (Ht rfl) rfl (i:=1) rfl (by rw [List.length_map]; omega) rfl) ?_)))))))
    refine dq 70 12 rfl (Hy A_32 Z_32 (Ht rfl) (i:=1) rfl rfl (eQ (dY (d:=Qi.zero) zo))) (eD 67 9 71 13 rfl (aH bE K_29 (iQ (x:=gm U q (q + 1 + k)) (y:=gv (lG U n j) (q + 1 + k)) (L:=G) (M:=X) zo) (Ht rfl) ⟨(Ht rfl),trivial⟩) (fW aT rfl (by kernel_rfl) (zF (zF (zF (aJ (aJ (aJ (aV (ro rfl (aH iE K_32 (sQ (x:=(mC U (lG U n j) n q k)) (y:=gm U q (q + 1 + k) * gv (lG U n j) (q + 1 + k)) (L:=G + k * (G + X + 2)) (M:=G + X + 1) zo) (Ht rfl) ⟨(Ht rfl),trivial⟩) ?_))))))))))
    refine gZ Z_32 (Ht rfl) (Ht rfl) rfl (i:=2) rfl (aK rfl) rfl rfl (eX (cF (cY (rm rfl (ro rfl (dW (Ht rfl) (cJ 1) z6) (ra rfl (eX (gQ (k + 1) hkj zo (zS rfl) (aU (fun _ _ _ h=>h) (aU (fun _ _ _ h=>h) (aU (aP rfl) aY)))))))))))
   ·obtain rfl : k = j := Nat.le_antisymm hk (by simp only [decide_eq_false_iff_not] at hf; omega)
    haveI f1:aI (mC U (lG U n k) n q k) (G + k * (G + X + 2)):=wP hUf hXf hG1 hX1 k
    haveI f2:aI (gm U q q) G:=hUf.get hG1 _ _
    have hb3:k * (G + X + 2) ≤ n * (G + X + 2):=Nat.mul_le_mul_right _ zo
    refine gG rfl (Y.D_start (m:=17) [(16,1,bN 32 5 B37 (((lG U n k).map aE).set q (aE ((mC U (lG U n k) n q k) / gm U q q))))] (Y.D_step (Ei:=[(9,_)]) rfl rfl (bQ (bJ rfl rfl) bX) rfl rfl (by kernel_rfl) (dX rfl (cX (Ht rfl))) (Y.D_step (Ei:=[(10,_)]) rfl rfl (bQ (bJ rfl rfl) bX) rfl rfl (by kernel_rfl) (dX rfl (cX (Ht rfl))) (Y.D_step (Ei:=[(11,_)]) rfl rfl (bQ (bJ rfl rfl) bX) rfl rfl (by kernel_rfl) (dX rfl (eJ A_32 Z_32 (Ht rfl) (i:=2) rfl rfl rfl)) ?_))))
    refine Y.D_step (Ei:=[(77,_)]) rfl rfl (bQ (bZ 2 rfl rfl) bX) rfl rfl (by kernel_rfl) (dX rfl (aN aR (Ht rfl))) (Y.D_step (Ei:=[(0,_)]) rfl rfl (bQ (bJ rfl rfl) bX) rfl rfl (by kernel_rfl) (dX rfl (cX (Ht rfl))) (Y.D_step (Ei:=[(10,_)]) rfl rfl (bQ (bJ rfl rfl) bX) rfl rfl (by kernel_rfl) (dX rfl (cX (Ht rfl))) (Y.D_step (Ei:=[(79,_),(80,_)]) rfl rfl (bQ (bZ 4 rfl rfl) (bQ (bZ 5 rfl rfl) bX)) rfl rfl (by kernel_rfl) (dX rfl (gX U_78 Z_54 (Ht rfl) (Ht rfl) hqi zo (by rw [Nat.mul_one,Nat.zero_add]))) ?_)))
    refine Y.D_step (Ei:=[(81,_)]) rfl rfl (bQ (bZ 6 rfl rfl) bX) rfl rfl (by kernel_rfl) (dX rfl (kE A_54 Z_54 (Ht rfl) (j:=0) rfl zo)) (Y.D_step (Ei:=[(10,_)]) rfl rfl (bQ (bJ rfl rfl) bX) rfl rfl (by kernel_rfl) (dX rfl (cX (Ht rfl))) (Y.D_step (Ei:=[(82,_),(83,_)]) rfl rfl (bQ (bZ 7 rfl rfl) (bQ (bZ 8 rfl rfl) bX)) rfl rfl (by kernel_rfl) (dX rfl (mJ U_54 Z_32 (Ht rfl) (Ht rfl) hqi (j:=0) rfl zo zo zo)) ?_))
    refine Y.D_step (Ei:=[(84,_)]) rfl rfl (bQ (bZ 9 rfl rfl) bX) rfl rfl (by kernel_rfl) (dX rfl (qA A_32 Z_32 (Ht rfl) (j:=0) rfl zo zo zo)) (Y.D_step (Ei:=[(78,_),(85,_)]) rfl rfl (bQ (bZ 3 rfl rfl) (bQ (bZ 10 rfl rfl) bX)) rfl rfl (by kernel_rfl) (dX rfl (aH iD K_142 (sP (x:=(mC U (lG U n k) n q k)) (y:=gm U q q) (L:=G + k * (G + X + 2)) (M:=G) zo) (Ht rfl) ⟨(Ht rfl),trivial⟩)) (Y.D_step (Ei:=[(86,_)]) rfl rfl (bQ (bZ 11 rfl rfl) bX) rfl rfl (by kernel_rfl) (dX rfl (cX (Ht rfl))) ?_))
    refine Y.D_step (Ei:=[(74,_)]) rfl rfl (bQ (bZ 12 rfl rfl) bX) rfl rfl (by kernel_rfl) (dX rfl (dU (Ht rfl) rfl)) (bY (Ei:=[(74,_)]) rfl rfl (bQ (bZ 12 rfl rfl) bX) rfl rfl (dX rfl (dU (Ht rfl) rfl)) (Y.D_step (Ei:=[(75,_),(76,_)]) rfl rfl (bQ (bZ 0 rfl rfl) (bQ (bZ 1 rfl rfl) bX)) rfl rfl (by kernel_rfl) (dX rfl (iX U_54 Z_32 (Ht rfl) (Ht rfl) hqi (i:=1) rfl (by rw [List.length_map]; omega) rfl)) ?_))
    refine Y.D_putI (Ei:=[(89,_),(87,_)]) 1 rfl rfl rfl (bQ (bZ 15 rfl rfl) (bQ (bZ 13 rfl rfl) bX)) (.head _) rfl (Nv Z_32 (Ht rfl) (Ht rfl) (El.ag rfl) (i:=0) rfl rfl (by rw [List.length_map]; omega)) ?_
    refine Y.D_done aT rfl (by kernel_rfl) rfl (by simp [Y.okP]) rfl rfl (bU (bU (bU (bU (bU (bU (bU (bU (bU (bU (bU (bU (bU (bU (bU (bU (Y.F_putI (Y.F_nil ?_))))))))))))))))))
    refine eX (cF (cY (rm rfl (ro rfl (jU (Ht rfl) cV (Ip zo)) (ra rfl (eX (cC [0,1] rfl (by decide) (gQ (k + 1) hjn zo (aQ rfl (aQ rfl (aQ rfl (aZ rfl (bR zo) aX)))) (aU (fun _ _ _ h=>h) (aU (cA (by rw [kB,lG,← hq])) aY))))))))))
  ·obtain rfl : j = n := Nat.le_antisymm hj (a1n (by have h := of_decide_eq_false hc; omega))
   refine gW (i:=1) (tt:=9) rfl rfl kN (gG rfl (ts (rm rfl (ra rfl (ro rfl (cQ (cJ 0)) (eX (cT rfl (fZ (eU rfl) ?_) (fZ (eU rfl) ?_))))))))
   ·exact (nH (by rw [he,lY,← hU]; rfl))
   ·exact (bR he.symm)
end
section
open Go Go.RowKit
theorem Lt {M:List (List Qi)} {n m:Nat} (hM:cI M n m) (hn:n ≤ 1000) (hm:m ≤ 1000):iH Tryz.prog 230 [bF M,Is (.slice none 0 0)] [] Nat (fun B=>Is (.slice (some ⟨B,0,none⟩) n n)) (fun B=>[nL B 54 32 5 (dD aE M)]) (fun _=>True):=by
 have h:=Ag (M:=M) (bs:=[]) hM (fun b hb=>by cases hb) hn hm (by simp)
 rw [Ma hM] at h
 exact h.arg Oe
theorem Gq {M:List (List Qi)} {n G X:Nat} (hM:cI M n n) (hz:∀ i,i < n → SzS M (ek n i) n G X) (hn:n ≤ 32):bA Tryz.prog 164 [bF M] (fB [bF (oG (pH M n) (nD M n)),aF .i64 (pH M n)]):=by
 have hMl:=hM.1
 refine bA.intro Tryz.func164 rfl Tryz.ntmps164 rfl (fun cx=>(ts (ro rfl (cQ cV) (ro rfl (cQ (cJ 0)) (eX (cK (ts (rm rfl (ro rfl (cZ Tryz.call229 (Lv hM hn) ⟨(Ht rfl),trivial⟩) (ro rfl (dE (Ht rfl)) (eX (cL (Ht rfl) (by rfl) ?_))))))))))))
 refine cU (ts (rm rfl (vQ Tryz.call230 (Lt hM zo zo) ⟨(Ht rfl),cV,trivial⟩ rfl (fun B14 _=>(ra rfl (eX (cK (ts (rm rfl (ro rfl (dK U_78 (Ht rfl) (by rw [List.length_map,hMl])) ?_))))))))))
 refine ro rfl (cZ Tryz.call215 (a24 (n:=n) hn) ⟨(Ht rfl),trivial⟩) (ro rfl (dK U_78 (Ht rfl) aC) (ro rfl (cX (cJ 0)) (eX (eG ?_))))
 refine eL (fun (k : Nat) => k ≤ n ∧ ∀ i, i < k → mL M (ek n i) n = 0) (fun (k : Nat) => n - k) (fun (k : Nat) => [(0, bF M), (4, Is (.slice (some ⟨B14, 0, none⟩) n n)), (17, bF (wE n)), (18, NT .i64 n), (19, NT .i64 k)]) (fun (k : Nat) => [nL B14 54 32 5 (dD aE (pU M n k 0))]) 0 ⟨Nat.zero_le _, fun i h => by omega⟩
  (aQ rfl (aQ rfl (aQ rfl (aZ rfl (mE (qT n).1) (zS rfl))))) (aU (dO (congrArg _ (Mj hM))) aY) (fun k ⟨hk,h0⟩=>?_)
 refine ts (ro rfl (gJ (Ht rfl) (Ht rfl)) (eX (cK (dQ (Ht rfl) (fun hd0=>?_) (fun hd0=>?_)))))
 ·simp only [decide_eq_true_eq] at hd0
  have hel:=a0l hd0
  refine cU (cK (eG (ts (rm rfl (ro rfl (dZ U_78 Z_54 (Ht rfl) (Ht rfl) rfl (eQ (dY (d:=[]) (by rw [(qT n).1]; exact hd0)))) ?_)))))
  refine ro rfl (dV A_54 Z_54 (Ht rfl)) (ra rfl (ra rfl (eX (ts (rm rfl (rm rfl (ro rfl (cZ Tryz.call227 (Ea (M:=M) (b:=ek n k) (n:=n) (G:=G) (X:=X) hM hel (hz k hd0) zo hn) ⟨(Ht rfl),(Ht rfl),trivial⟩) (rm rfl (ro rfl (dU (Ht rfl) rfl) (ro rfl (dU (Ht rfl) rfl) (ra rfl (ra rfl (eX (cK (ts (rm rfl (ro rfl (fL (Ht rfl) cV) (eX (dQ (Ht rfl) (fun he=>?_) (fun he=>?_))))))))))))))))))))
  ·have he2 : ¬ mL M (ek n k) n = 0 := by simpa using he
   have hi:=Vz h0 hd0 he2
   refine ts (rm rfl (ro rfl (cQ cV) (ra rfl (eX (cT rfl (fZ (eU rfl) ?_) (fZ (eU rfl) ?_))))))
   ·exact (fun v V h=>by rw [hi,oG,if_neg he2]; exact lL v V h)
   ·exact (bR hi.symm)
  ·have he2 : mL M (ek n k) n = 0 := by simpa using he
   have hxl:(lY M (ek n k) n).length = n:=qM _ _ _
   refine Iz (E':=[(0,_),(4,_),(5,_),(7,_),(17,_),(18,_),(19,_)]) (aQ rfl (aQ rfl (aQ rfl (aZ rfl (nH (Us:=(lY M (ek n k) n).map aE) (by rw [he2]; rfl)) (zS rfl))))) ?_
   refine cU (ts (rm rfl (ro rfl (dK U_54 (Ht rfl) aC) (ro rfl (cX (cJ 0)) (eX (eG ?_))))))
   refine eL (fun (i : Nat) => i ≤ n) (fun (i : Nat) => n - i) (fun (i : Nat) => [(0, bF M), (4, Is (.slice (some ⟨B14, 0, none⟩) n n)), (5, NT .i64 k), (7, bP (lY M (ek n k) n)), (17, bF (wE n)), (18, NT .i64 n), (19, NT .i64 k), (34, NT .i64 n), (35, NT .i64 i)]) (fun (i : Nat) => [nL B14 54 32 5 (dD aE (pU M n k i))]) 0 (Nat.zero_le _)
    (aQ rfl (aQ rfl (aQ rfl (aQ rfl (aQ rfl (aQ rfl (aQ rfl (aZ rfl (mE hxl) (zS rfl))))))))) (eS.refl _) (fun i hi=>?_)
   refine ts (ro rfl (gJ (Ht rfl) (Ht rfl)) (eX (cK (dQ (Ht rfl) (fun hf2=>?_) (fun hf2=>?_)))))
   ·simp only [decide_eq_true_eq] at hf2
    have hpl:=(oE M n k i).1
    have hpr:((pU M n k i).getD i []).length = n:=(oE M n k i).row hf2
    refine nN 0 (i) rfl (jZ zo) (fun v=>(cU (cK (eG (ts (rm rfl (ra rfl (eX (fJ (m:=9) (dp 4 rfl (cX (Ht rfl)) (dp 9 rfl (cX (Ht rfl)) (eD 38 0 39 1 rfl (gX U_78 Z_54 (Ht rfl) (Ht rfl) rfl zo (by rw [Nat.mul_one,Nat.zero_add])) ?_))))))))))))
    refine dq 40 2 rfl (kR A_54 Z_54 (Ht rfl) (j:=0) rfl) (dp 5 rfl (cX (Ht rfl)) (dp 7 rfl (cX (Ht rfl)) (dp 9 rfl (cX (Ht rfl)) (eD 43 5 44 6 rfl (dZ U_54 Z_32 (Ht rfl) (Ht rfl) rfl (eQ (dY (d:=Qi.zero) zo))) (dq 45 7 rfl (dV A_32 Z_32 (Ht rfl)) (fW aT rfl (by kernel_rfl) (zF (zF (aJ (aV (ro rfl (iX U_54 Z_32 (Ht rfl) (Ht rfl) rfl (i:=1) rfl (by rw [List.length_map]; omega) rfl) ?_)))))))))))
    refine rF Z_32 (Ht rfl) (Ht rfl) (El.ag rfl) (i:=1) rfl rfl (by rw [List.length_map]; omega) rfl ?_
    refine eX (cF (jM 0 1 rfl rfl (by decide) (by simp only [dD,List.length_map]; omega) ?_))
    refine cY (ro rfl (dW (Ht rfl) (cJ 1) z6) (rm rfl (eX (cC [0] rfl (by decide) (gQ (i + 1) hf2 zo (zS rfl) (aU (dO (by rw [kB,jJ,Mi hf2 hd0])) aY))))))
   ·simp only [decide_eq_false_iff_not] at hf2
    obtain rfl:n = i:=Nat.le_antisymm zo hi
    refine gG rfl (cF (cY (ro rfl (dW (Ht rfl) (cJ 1) z6) (rm rfl (eX ?_)))))
    refine gQ (k + 1) ⟨hd0, fun j h => by
     by_cases e:j = k
     ·rw [e]; exact he2
     ·exact h0 j zo⟩ zo (zS rfl) (aU (dO (by rw [Qm])) aY)
 ·simp only [decide_eq_false_iff_not] at hd0
  obtain rfl:n = k:=Nat.le_antisymm zo hk
  have hi:=Mh h0
  refine gW (i:=0) (tt:=4) rfl rfl (pS (s:=5) (M:=pU M n n 0) (oE M n n 0).1.symm) (gG rfl (ts (rm rfl (ra rfl (ro rfl (cQ (cJ 0)) (eX (cT rfl (fZ (eU rfl) ?_) (fZ (eU rfl) ?_))))))))
  ·exact (nH (by rw [hi,Qn]; rfl))
  ·exact (bR hi.symm)
end
section
abbrev jX:=Qi × Qi × Qi
abbrev zY:jX:=(Qi.zero,Qi.zero,Qi.zero)
abbrev tD (ts:List jX) (i:Nat):Qi:=(ts.getD i zY).1
abbrev tM (ts:List jX) (i:Nat):Qi:=(ts.getD i zY).2.1
abbrev tT (ts:List jX) (i:Nat):Qi:=(ts.getD i zY).2.2
def Gc (i k:Nat):Qi:=if i = k then Qi.ofInt 1 else Qi.ofInt 0
section
variable (ts:List jX) (es:List Qi) (s:List (List Qi)) (n:Nat)
def zK:List (List Qi):=tab n fun i=>tab n fun k=>Gc i k - tM ts i * gm s i k
def lA:List Qi:=tab n fun i=>tT ts i / gv es i
def Ih:List (List Qi):=kV s (nD (zK ts s n) n) n n n
def rwE (L:List Qi) (N:List (List Qi)) (i k:Nat):Qi:=if i = k then tD ts i + gv L i * gm N i k * gv es k else gv L i * gm N i k * gv es k
def Ic:List (List Qi):=tab n fun i=>tab n fun k=>rwE ts es (lA ts es n) (Ih ts s n) i k
def Vc (L:List Qi) (i k:Nat):Qi:=(if i = k then gm s i k - tD ts i else gm s i k) / gv L i / gv es k
def Dp:List (List Qi):=tab n fun i=>tab n fun k=>Vc ts es s (lA ts es n) i k
def Lz (x:List (List Qi)):List (List Qi):=tab n fun i=>tab n fun k=>Gc i k + tM ts i * gm x i k
def Pp:List (List Qi):=kV (Dp ts es s n) (nD (Lz ts n (Dp ts es s n)) n) n n n
end
theorem Vw {a b:List (List Qi)} {n k m i c:Nat} (hi:i < n) (hc:c < m):gm (kV a b n k m) i c = bB k fun j=>gm a i j * gm b j c:=nC hi hc
theorem nX {A B : List (List Qi)} (hA : cI A 2 2) (hB : cI B 2 2) (h0 : gm A 0 0 = gm B 0 0) (h1 : gm A 0 1 = gm B 0 1) (h2 : gm A 1 0 = gm B 1 0) (h3 : gm A 1 1 = gm B 1 1) : A = B := qV hA hB fun i hi j hj => by
 match i,hi,j,hj with
 | 0,_,0,_=>exact h0
 | 0,_,1,_=>exact h1
 | 1,_,0,_=>exact h2
 | 1,_,1,_=>exact h3
section
variable {p q s:List (List Qi)}
abbrev rB (p q:List (List Qi)):List jX:=[(gm p 0 0,gm p 1 1,gm p 0 1 * gm p 1 0),(gm q 0 0,gm q 1 1,gm q 0 1 * gm q 1 0)]
abbrev zJ (p q:List (List Qi)):List Qi:=[gm p 1 0,gm q 1 0]
def two (a b c d:Qi):List (List Qi):=[[a,b],[c,d]]
theorem lO (a b c d:Qi):cI (two a b c d) 2 2:=⟨rfl,fun r hr=>by simp [two] at hr; rcases hr with rfl | rfl <;> rfl⟩
theorem Zc:wE 2 = two 1 0 0 1:=nX (qT 2) (lO _ _ _ _) rfl rfl rfl rfl
theorem Ku : zK (rB p q) s 2 = two (1 - gm p 1 1 * gm s 0 0) (0 - gm p 1 1 * gm s 0 1) (0 - gm q 1 1 * gm s 1 0) (1 - gm q 1 1 * gm s 1 1) :=
 nX cI.tab (lO _ _ _ _) (nC (by decide) (by decide)) (nC (by decide) (by decide)) (nC (by decide) (by decide)) (nC (by decide) (by decide))
theorem wH (a b c d e f g h:Qi):kV (two a b c d) (two e f g h) 2 2 2 = two (a * e + b * g) (a * f + b * h) (c * e + d * g) (c * f + d * h):=by
 refine nX lT (lO _ _ _ _) ?_ ?_ ?_ ?_ <;> rw [Vw (by decide) (by decide),a12] <;> rfl
theorem Sf {A:List (List Qi)} (hA:cI A 2 2):A = two (gm A 0 0) (gm A 0 1) (gm A 1 0) (gm A 1 1):=nX hA (lO _ _ _ _) rfl rfl rfl rfl
theorem Kd {a b c d i : Qi} (h : (a * d - b * c) * i = 1) : pH (two a b c d) 2 = 0 ∧ nD (two a b c d) 2 = two (d * i) (0 - b * i) (0 - c * i) (a * i) :=
 Qo (lO _ _ _ _) (lO _ _ _ _) (by rw [wH,Zc]; congr 1 <;> grind)
theorem Js {x y:Qi} (h:y ≠ 0):x * y / y = x:=by
 have:=gI h
 rw [Qi.div_def]; grind
structure Yk (p q s:List (List Qi)) (i1 i2:Qi):Prop where
 h1:(1 - gm p 1 1 * gm s 0 0) * i1 = 1
 h2:(1 - gm q 1 1 * (gm s 1 1 + gm s 1 0 * i1 * (gm p 1 1 * gm s 0 1))) * i2 = 1
abbrev Hh (p q s : List (List Qi)) (i : Qi) : List (List Qi) :=
 two ((gm s 0 0 * (1 - gm q 1 1 * gm s 1 1) + gm s 0 1 * (gm q 1 1 * gm s 1 0)) * i) (gm s 0 1 * i) (gm s 1 0 * i) ((gm s 1 0 * (gm p 1 1 * gm s 0 1) + gm s 1 1 * (1 - gm p 1 1 * gm s 0 0)) * i)
variable {i1 i2:Qi}
theorem Yk.det (h:Yk p q s i1 i2):((1 - gm p 1 1 * gm s 0 0) * (1 - gm q 1 1 * gm s 1 1) - (0 - gm p 1 1 * gm s 0 1) * (0 - gm q 1 1 * gm s 1 0)) * (i1 * i2) = 1:=by
 have h1:=h.h1; have h2:=h.h2
 grind
theorem Yk.inv (h:Yk p q s i1 i2):pH (zK (rB p q) s 2) 2 = 0:=by
 rw [Ku]; exact (Kd h.det).1
theorem Yk.n (h:Yk p q s i1 i2) (hs:cI s 2 2):Ih (rB p q) s 2 = Hh p q s (i1 * i2):=by
 have h4:=(Kd h.det).2
 rw [← Ku] at h4
 rw [Ih,h4]
 refine (show kV s _ 2 2 2 = kV (two (gm s 0 0) (gm s 0 1) (gm s 1 0) (gm s 1 1)) _ 2 2 2 by rw [← Sf hs]).trans ?_
 rw [wH,Hh]
 congr 1 <;> grind
theorem Qq (h1:gm p 1 0 ≠ 0) (h2:gm q 1 0 ≠ 0):lA (rB p q) (zJ p q) 2 = [gm p 0 1,gm q 0 1]:=by
 show [gm p 0 1 * gm p 1 0 / gm p 1 0,gm q 0 1 * gm q 1 0 / gm q 1 0] = _
 rw [Js h1,Js h2]
theorem xT (a b c d:Qi):gm (two a b c d) 0 0 = a:=rfl
theorem xU (a b c d:Qi):gm (two a b c d) 0 1 = b:=rfl
theorem xV (a b c d:Qi):gm (two a b c d) 1 0 = c:=rfl
theorem xW (a b c d:Qi):gm (two a b c d) 1 1 = d:=rfl
theorem Zk (h : Yk p q s i1 i2) (hs : cI s 2 2) (h1 : gm p 1 0 ≠ 0) (h2 : gm q 1 0 ≠ 0) : Ic (rB p q) (zJ p q) s 2 =
  two (gm p 0 0 + gm p 0 1 * gm (Hh p q s (i1 * i2)) 0 0 * gm p 1 0) (gm p 0 1 * gm (Hh p q s (i1 * i2)) 0 1 * gm q 1 0) (gm q 0 1 * gm (Hh p q s (i1 * i2)) 1 0 * gm p 1 0) (gm q 0 0 + gm q 0 1 * gm (Hh p q s (i1 * i2)) 1 1 * gm q 1 0):=by
 unfold Ic
 rw [h.n hs,Qq h1 h2]
 exact nX cI.tab (lO _ _ _ _) rfl rfl rfl rfl
theorem Cg (hD:jS s p 0 ≠ 0) (hE:jS (eB s p 0 2) q 1 ≠ 0):∃ i1 i2,Yk p q s i1 i2 ∧ Qi.inv (jS s p 0) = i1 ∧ Qi.inv (jS (eB s p 0 2) q 1) = i2:=by
 have e1:=gI hD; have e2:=gI hE
 refine ⟨_,_,⟨?_,?_⟩,rfl,rfl⟩
 ·exact e1
 ·have e3 : jS (eB s p 0 2) q 1 = 1 - gm q 1 1 * (gm s 1 1 + gm s 1 0 * Qi.inv (jS s p 0) * (gm p 1 1 * gm s 0 1)) := by
   rw [jS,mG (by decide) (by decide)]
   show 1 - gm q 1 1 * (gm s 1 1 + gm s 1 0 / jS s p 0 * (gm p 1 1 * gm s 0 1)) = _
   rw [Qi.div_def]
  rw [← e3]; exact e2
theorem Kr (hs:cI s 2 2) (hD:jS s p 0 ≠ 0) (hE:jS (eB s p 0 2) q 1 ≠ 0) (h1:gm p 1 0 ≠ 0) (h2:gm q 1 0 ≠ 0):pH (zK (rB p q) s 2) 2 = 0 ∧ Ic (rB p q) (zJ p q) s 2 = eB (eB s p 0 2) q 1 2:=by
 obtain ⟨i1,i2,hI,e1,e2⟩:=Cg hD hE
 refine ⟨hI.inv,?_⟩
 rw [Zk hI hs h1 h2]
 have g1:=hI.h1; have g2:=hI.h2
 have x00 : gm (eB s p 0 2) 0 0 = gm p 0 0 + gm p 0 1 * (gm p 1 0 * (gm s 0 0 * i1)) := by
  rw [mG (by decide) (by decide),← e1,← Qi.div_def]; rfl
 have x01 : gm (eB s p 0 2) 0 1 = gm p 0 1 * (gm s 0 1 * i1) := by
  rw [mG (by decide) (by decide),← e1,← Qi.div_def]; rfl
 have x10 : gm (eB s p 0 2) 1 0 = gm s 1 0 * i1 * gm p 1 0 := by
  rw [mG (by decide) (by decide),← e1,← Qi.div_def]; rfl
 have x11 : gm (eB s p 0 2) 1 1 = gm s 1 1 + gm s 1 0 * i1 * (gm p 1 1 * gm s 0 1) := by
  rw [mG (by decide) (by decide),← e1,← Qi.div_def]; rfl
 refine nX (lO _ _ _ _) cI.tab ?_ ?_ ?_ ?_
 ·rw [mG (by decide) (by decide), xT]
  show _ = gm (eB s p 0 2) 0 0 + gm (eB s p 0 2) 0 1 / jS (eB s p 0 2) q 1 * (gm q 1 1 * gm (eB s p 0 2) 1 0)
  rw [Qi.div_def,e2,x00,x01,x10,xT]
  grind
 ·rw [mG (by decide) (by decide), xU]
  show _ = gm (eB s p 0 2) 0 1 / jS (eB s p 0 2) q 1 * gm q 1 0
  rw [Qi.div_def,e2,x01,xU]
  grind
 ·rw [mG (by decide) (by decide), xV]
  show _ = gm q 0 1 * (gm (eB s p 0 2) 1 0 / jS (eB s p 0 2) q 1)
  rw [Qi.div_def,e2,x10,xV]
  grind
 ·rw [mG (by decide) (by decide), xW]
  show _ = gm q 0 0 + gm q 0 1 * (gm q 1 0 * (gm (eB s p 0 2) 1 1 / jS (eB s p 0 2) q 1))
  rw [Qi.div_def,e2,x11,xW]
  grind
theorem a0j {x y z:Qi} (hy:y ≠ 0) (hz:z ≠ 0):y * x * z / y / z = x:=by
 have h1:=gI hy; have h2:=gI hz
 rw [Qi.div_def,Qi.div_def]; grind
theorem a1y {d x y z:Qi} (hy:y ≠ 0) (hz:z ≠ 0):(d + y * x * z - d) / y / z = x:=by
 rw [show d + y * x * z - d = y * x * z by grind]; exact a0j hy hz
theorem Vf (hs : cI s 2 2) (hD : jS s p 0 ≠ 0) (hE : jS (eB s p 0 2) q 1 ≠ 0) (h1 : gm p 1 0 ≠ 0) (h2 : gm q 1 0 ≠ 0) (h3 : gm p 0 1 ≠ 0) (h4 : gm q 0 1 ≠ 0) :
  Dp (rB p q) (zJ p q) (Ic (rB p q) (zJ p q) s 2) 2 = Ih (rB p q) s 2 ∧ pH (Lz (rB p q) 2 (Ih (rB p q) s 2)) 2 = 0 ∧ Pp (rB p q) (zJ p q) (Ic (rB p q) (zJ p q) s 2) 2 = s:=by
 obtain ⟨i1,i2,hI,e1,e2⟩:=Cg hD hE
 have g1:=hI.h1; have g2:=hI.h2
 have hx : Dp (rB p q) (zJ p q) (Ic (rB p q) (zJ p q) s 2) 2 = Ih (rB p q) s 2 := by
  rw [hI.n hs,Zk hI hs h1 h2]
  unfold Dp
  rw [Qq h1 h2]
  refine nX cI.tab (lO _ _ _ _) ?_ ?_ ?_ ?_ <;> rw [nC (by decide) (by decide)]
  ·exact a1y h3 h1
  ·exact a0j h3 h2
  ·exact a0j h4 h1
  ·exact a1y h4 h2
 have hN : kV (Hh p q s (i1 * i2)) (zK (rB p q) s 2) 2 2 2 = s := by
  rw [Ku,wH]
  conv=>rhs; rw [Sf hs]
  congr 1 <;> grind
 have hA : Lz (rB p q) 2 (Hh p q s (i1 * i2)) = two (1 + gm p 1 1 * gm (Hh p q s (i1 * i2)) 0 0) (0 + gm p 1 1 * gm (Hh p q s (i1 * i2)) 0 1) (0 + gm q 1 1 * gm (Hh p q s (i1 * i2)) 1 0) (1 + gm q 1 1 * gm (Hh p q s (i1 * i2)) 1 1) :=
  nX cI.tab (lO _ _ _ _) rfl rfl rfl rfl
 have hinv : pH (Lz (rB p q) 2 (Hh p q s (i1 * i2))) 2 = 0 ∧ nD (Lz (rB p q) 2 (Hh p q s (i1 * i2))) 2 = zK (rB p q) s 2 := by
  refine Qo cI.tab cI.tab ?_
  rw [hA,Ku,wH,Zc]
  simp only [Hh,xT,xU,xV,xW]
  congr 1 <;> grind
 refine ⟨hx,by rw [hI.n hs]; exact hinv.1,?_⟩
 unfold Pp
 rw [hx,hI.n hs,hinv.2]
 exact hN
end
end
section
open Go Go.RowKit
@[irreducible] def a2k (a:Nat):Nat:=a % 9223372036854775808
section
variable {P:Program} {R:eA} {cx:Cx} {n:Nat} {k:List It} {E:cB} {H:Hp} {ops:Array Oper} {o:Oper} {rest:List Oper}
section
variable {d:Option Tmp} {t tx ty:TypeId} {pos:String} {af:Array Edge} {g:Option (Nat × Bool)}
end
end
end
section
namespace Fl
open Ieee
@[irreducible] def w25:Nat:=925
def mg (f:Format) (r:Nat):Nat:=if r < f.binade then r else f.binade + r % f.binade
def up (f:Format) (r:Nat):Nat:=r / f.binade - 1
def nn (f:Format) (r:Nat):Nat:=mg f r * 2 ^ up f r
def rg (f:Format) (x:Nat):Nat:=x % f.signWeight
def ng (f:Format) (x:Nat):Bool:=x / f.signWeight % 2 == 1
def fin (f:Format) (x:Nat):Bool:=decide (rg f x < f.infRung)
def av (f:Format) (x:Nat):Int:=if ng f x then -(nn f (rg f x):Int) else nn f (rg f x)
theorem Tx (f:Format):0 < f.binade:=Nat.two_pow_pos _
theorem Wn {f:Format} {r s:Nat} (h:r < s):nn f r < nn f s:=by
 have hb:=Tx f
 unfold nn mg up
 generalize f.binade = b at *
 have d1:=Nat.div_add_mod r b
 have d2:=Nat.div_add_mod s b
 have m1:=Nat.mod_lt r hb
 have m2:=Nat.mod_lt s hb
 by_cases hr:r < b
 ·rw [if_pos hr]
  have:r / b - 1 = 0:=by rw [Nat.div_eq_of_lt hr]
  rw [this]
  by_cases hs:s < b
  ·rw [if_pos hs,Nat.div_eq_of_lt hs]; simpa using h
  ·rw [if_neg hs]
   have:1 ≤ 2 ^ (s / b - 1):=Nat.two_pow_pos _
   have:=Nat.mul_le_mul (Nat.le_refl (b + s % b)) this
   omega
 ·have hs : ¬ s < b := by omega
  rw [if_neg hr,if_neg hs]
  have q1:1 ≤ r / b:=(Nat.le_div_iff_mul_le hb).2 zo
  have q2:r / b ≤ s / b:=Nat.div_le_div_right (Nat.le_of_lt h)
  rcases Nat.eq_or_lt_of_le q2 with e | l
  ·rw [← e]
   have:r % b < s % b:=by rw [← e] at d2; omega
   exact Nat.mul_lt_mul_of_pos_right zo (Nat.two_pow_pos _)
  ·have e1 : s / b - 1 = (r / b - 1) + 1 + (s / b - 1 - (r / b - 1) - 1) := by omega
   rw [e1,Nat.pow_add,Nat.pow_succ]
   have p1:=Nat.two_pow_pos (r / b - 1)
   have p2:=Nat.two_pow_pos (s / b - 1 - (r / b - 1) - 1)
   generalize 2 ^ (r / b - 1) = x at *
   generalize 2 ^ (s / b - 1 - (r / b - 1) - 1) = y at *
   have a1:(b + r % b) * x < (2 * b) * x:=Nat.mul_lt_mul_of_pos_right zo p1
   have a2:(2 * b) * x = b * (x * 2 * 1):=by grind
   have a3:b * (x * 2 * 1) ≤ (b + s % b) * (x * 2 * y):=Nat.mul_le_mul zo (Nat.mul_le_mul (Nat.le_refl _) p2)
   omega
theorem Ze {f:Format} {r s:Nat} (h:r ≤ s):nn f r ≤ nn f s:=by
 rcases Nat.eq_or_lt_of_le h with e | l
 ·rw [e]; exact Nat.le_refl _
 ·exact Nat.le_of_lt (Wn l)
theorem bs:single.binade ≤ single.infRung:=by decide
theorem Hd (a b:Int):(compare a b == .lt) = decide (a < b):=by
 simp only [compare,compareOfLessAndEq]
 by_cases k:a < b
 ·rw [if_pos k]; simp [k]
 ·rw [if_neg k]
  by_cases k2:a = b
  ·rw [if_pos k2]; simp [k]
  ·rw [if_neg k2]; simp [k]
end Fl
end
section
namespace Fl
open Ieee
@[irreducible] def w74:Nat:=1074
def q32 (p:Nat):Qi:=Qi.mk' (av single p) 0 (2 ^ 149)
theorem a0S (p:Nat):(q32 p).im = 0:=by unfold q32; rw [Qi.mk_im]; push_cast; grind
theorem Ia (p:Nat):(q32 p).re = (av single p:Rat) / ((2 ^ 149:Nat):Rat):=rfl
def pw (p:Nat):Bool:=fin single p && decide (0 < av single p)
theorem Xk {p:Nat}:0 < (q32 p).re ↔ 0 < av single p:=by
 rw [Ia]
 have h : (0 : Rat) < ((2 ^ 149 : Nat) : Rat) := by
  have:((0:Nat):Rat) < ((2 ^ 149:Nat):Rat):=Rat.natCast_lt_natCast.2 (Nat.two_pow_pos _)
  exact this
 rw [Rat.lt_div_iff h,Rat.zero_mul]
 exact ⟨fun k=>Rat.intCast_lt_intCast.1 k,fun k=>Rat.intCast_lt_intCast.2 k⟩
theorem Rp {p q:Nat}:(q32 p).re ≤ (q32 q).re ↔ av single p ≤ av single q:=by
 rw [Ia,Ia]
 have h : (0 : Rat) < ((2 ^ 149 : Nat) : Rat) := by
  have:((0:Nat):Rat) < ((2 ^ 149:Nat):Rat):=Rat.natCast_lt_natCast.2 (Nat.two_pow_pos _)
  exact this
 generalize ((2 ^ 149:Nat):Rat) = D at *
 constructor
 ·intro k
  have e:∀ z:Int,(z:Rat) = (z:Rat) / D * D:=fun z=>by grind
  have:=Rat.mul_le_mul_of_nonneg_right k (Rat.le_of_lt h)
  rw [← e,← e] at this
  exact Rat.intCast_le_intCast.1 this
 ·intro k
  rw [Rat.div_def,Rat.div_def]
  exact Rat.mul_le_mul_of_nonneg_right (Rat.intCast_le_intCast.2 k) (Rat.le_of_lt (Rat.inv_pos.2 h))
end Fl
end
section
namespace Fl
theorem Rr {x y:Qi} (hx:x.im = 0) (hy:y.im = 0):(x / y).re = x.re / y.re ∧ (x / y).im = 0:=by
 have hn:y.nrm = y.re * y.re:=by unfold Qi.nrm; rw [hy]; grind
 have hi:Qi.inv y = ⟨y.re / y.nrm,-y.im / y.nrm⟩:=rfl
 constructor
 ·rw [Qi.div_def, Qi.mul_re, hi, hn, hx, hy]
  by_cases h:y.re = 0
  ·rw [h]; show x.re * (0 / (0 * 0)) - 0 * _ = _; grind
  ·show x.re * (y.re / (y.re * y.re)) - 0 * _ = _; grind
 ·rw [Qi.div_def,Qi.mul_im,hi,hx,hy]; show x.re * (-0 / _) + 0 * _ = _; grind
structure Re (x:Qi):Prop where
 im:x.im = 0
theorem Re.sub {x y:Qi} (h:Re x) (k:Re y):Re (x - y):=⟨by rw [Qi.sub_im,h.im,k.im]; grind⟩
theorem Re.add {x y:Qi} (h:Re x) (k:Re y):Re (x + y):=⟨by rw [Qi.add_im,h.im,k.im]; grind⟩
theorem Re.mul {x y:Qi} (h:Re x) (k:Re y):Re (x * y):=⟨by rw [Qi.mul_im,h.im,k.im]; grind⟩
theorem Re.div {x y:Qi} (h:Re x) (k:Re y):Re (x / y):=⟨(Rr h.im k.im).2⟩
theorem Re.one:Re (Qi.ofInt 1):=⟨rfl⟩
theorem Re.q32 (p:Nat):Re (q32 p):=⟨a0S p⟩
theorem Re.of {x:Qi} (h:x.b = 0):Re x:=⟨Qi.b_zero.1 h⟩
theorem Re.b {x:Qi} (h:Re x):x.b = 0:=Qi.b_zero.2 h.im
theorem Re.rdiv {x y:Qi} (h:Re x) (k:Re y):(x / y).re = x.re / y.re:=(Rr h.im k.im).1
theorem Re.rmul {x y:Qi} (h:Re x):(x * y).re = x.re * y.re:=by rw [Qi.mul_re,h.im]; grind
theorem Re.ext {x y:Qi} (h:Re x) (k:Re y) (e:x.re = y.re):x = y:=Qi.ext' e (by rw [h.im,k.im])
def tP (hot cold a b:Qi):Qi:=(hot - a / b * cold) / (a / b - Qi.ofInt 1)
def tR (hot cold a b:Qi):Qi:=(hot * b - cold * a) / (a - b)
theorem a1X {hot cold a b:Qi} (h:Re hot) (c:Re cold) (x:Re a) (y:Re b):Re (tP hot cold a b):=(h.sub ((x.div y).mul c)).div ((x.div y).sub Re.one)
theorem a1W {hot cold a b:Qi} (h:Re hot) (c:Re cold) (x:Re a) (y:Re b) (h0:b.re ≠ 0) (h1:a.re ≠ b.re):tP hot cold a b = tR hot cold a b:=by
 refine Re.ext (a1X h c x y) (((h.mul y).sub (c.mul x)).div (x.sub y)) ?_
 unfold tP tR
 rw [(h.sub ((x.div y).mul c)).rdiv ((x.div y).sub Re.one),((h.mul y).sub (c.mul x)).rdiv (x.sub y),Qi.sub_re,Qi.sub_re,Qi.sub_re,Qi.sub_re,(x.div y).rmul,x.rdiv y,h.rmul,c.rmul]
 show (hot.re - a.re / b.re * cold.re) / (a.re / b.re - ((1:Int):Rat)) = (hot.re * b.re - cold.re * a.re) / (a.re - b.re)
 generalize hot.re = H
 generalize cold.re = K
 generalize a.re = p at *
 generalize b.re = q at *
 have e:p = p / q * q:=by grind
 generalize p / q = y at *
 subst e
 have hy:y - 1 ≠ 0:=by grind
 have e1:y * q - q = (y - 1) * q:=by grind
 have e2:H * q - K * (y * q) = (H - y * K) * q:=by grind
 rw [e1,e2]
 show (H - y * K) / (y - 1) = _
 grind
theorem pos_re {x:Qi} (h:nG x = true):Re x:=Re.of (a0Q h)
theorem Cz {p:Nat} (h:pw p = true):0 < (q32 p).re:=by
 unfold pw at h; simp only [Bool.and_eq_true,decide_eq_true_eq] at h; exact Xk.2 h.2
def Ru (hot cold:Qi) (p q:Nat):Int:=if !Zo hot || !Zo cold || !pw p || !pw q then 1 else if decide (a26 hot cold ≤ 0) || decide (av Ieee.single p ≤ av Ieee.single q) then 7 else if (tR hot cold (q32 p) (q32 q)).re < 0 then 5 else 0
def Xn (hot cold:Qi) (p q:Nat):Qi × Int:=if Ru hot cold p q = 0 then (tR hot cold (q32 p) (q32 q),0) else (Qi.zero,Ru hot cold p q)
structure Ac (hot cold:Qi) (p q:Nat):Prop where
 h:Re hot
 c:Re cold
 pp:pw p = true
 pq:pw q = true
 ord:¬ av Ieee.single p ≤ av Ieee.single q
theorem Ac.eq {hot cold : Qi} {p q : Nat} (h : Ac hot cold p q) : tP hot cold (q32 p) (q32 q) = tR hot cold (q32 p) (q32 q) :=
 a1W h.h h.c (Re.q32 p) (Re.q32 q) (fun e=>by have:=Cz h.pq; rw [e] at this; exact Rat.lt_irrefl this) (fun e=>h.ord (Rp.1 (by rw [e]; exact Rat.le_refl)))
theorem Ac.ne {hot cold:Qi} {p q:Nat} (h:Ac hot cold p q):q32 q ≠ Qi.zero ∧ q32 p - q32 q ≠ Qi.zero ∧ q32 p / q32 q - Qi.ofInt 1 ≠ Qi.zero:=by
 have h0:(q32 q).re ≠ 0:=fun e=>by have:=Cz h.pq; rw [e] at this; exact Rat.lt_irrefl this
 have h1:(q32 p).re ≠ (q32 q).re:=fun e=>h.ord (Rp.1 (by rw [e]; exact Rat.le_refl))
 refine ⟨fun e=>h0 (by rw [e]; rfl),Qi.sub_ne h1,Qi.sub_ne ?_⟩
 rw [(Re.q32 p).rdiv (Re.q32 q)]
 show _ ≠ ((1:Int):Rat)
 intro e
 apply h1
 have:(q32 p).re / (q32 q).re = 1:=e
 grind
theorem Ac.real {hot cold:Qi} {p q:Nat} (h:Ac hot cold p q):Re (tR hot cold (q32 p) (q32 q)):=((h.h.mul (Re.q32 q)).sub (h.c.mul (Re.q32 p))).div ((Re.q32 p).sub (Re.q32 q))
def cR (n o a b k:Qi):Qi:=(n * (k * a - b) + a * (o - k * n)) / (o - k * n + (k * a - b))
end Fl
end
section
open Fl
abbrev NP:=List Qi × List (List Qi)
abbrev a2c:NP:=([],[])
abbrev nz (l:List NP) (i:Nat):List Qi:=(l.getD i a2c).1
structure Lk (f:List Qi) (l:List NP):Prop where
 len:f.length = l.length
 n1:f.length ≤ 1024
 pos:∀ i,i < f.length → nG (gv f i) = true
 up:∀ i,0 < i → i < f.length → (gv f (i - 1)).re < (gv f i).re
 zs:∀ i,i < f.length → nz l i = nz l 0
section
variable {f:List Qi} {l:List NP}
theorem Lk.nil:Lk [] []:=⟨rfl,by decide,fun i h=>by simp at h,fun i _ h=>by simp at h,fun i h=>by simp at h⟩
theorem Lk.re (h:Lk f l) {i:Nat} (hi:i < f.length):Re (gv f i):=Fl.pos_re (h.pos i hi)
theorem Lk.lt (h:Lk f l) {i j:Nat} (hij:i < j) (hj:j < f.length):(gv f i).re < (gv f j).re:=by
 induction j with
 | zero=>omega
 | succ j ih =>
  have h1:=h.up (j + 1) zo hj
  rw [Nat.add_sub_cancel] at h1
  rcases Nat.eq_or_lt_of_le (Nat.le_of_lt_succ hij) with e | e
  ·rw [e]; exact h1
  ·have h2 := ih e zo
   grind
end
end
section
open Fl
structure Pd where
 m:Int
 n:Int
 f:Qi
instance : Inhabited Pd:=⟨⟨0,0,Qi.zero⟩⟩
def sz (n:Int):Int:=max n (-n)
section
variable (f g lo hi:Qi)
end
section
variable {f g lo hi:Qi} {o:Nat}
end
section
variable {f g lo hi:Qi} {o:Int}
end
theorem Jz {m : Int} (h1 : -15 ≤ m) (h2 : m ≤ 15) : aI (Qi.ofInt m) 2 := (@fitInt m).le (by
 have:(dg m.natAbs).length ≤ 1:=iT (k:=1) (by rw [Nat.pow_one]; exact Nat.lt_of_lt_of_le (show m.natAbs < 16 by omega) (by decide))
 omega)
section
variable {f g lo hi:Qi} {q L:Nat}
end
def sh (l:List Pd) (x:Pd) (i:Nat):List Pd:=(l ++ [x]).take (i + 1) ++ l.drop i
section
variable {f g lo hi:Qi} {q:Nat}
end
section
variable {f g lo hi:Qi} {q L:Nat}
end
end
section
open Go Go.RowKit
abbrev Uv (v:Value):List PanicEntry:=[{ v:=v,recovered:=false }]
def uE (P : Program) (f : FuncId) (Ts : List Ty) (v : Value) : Prop :=
 ∀ (vs:List Value) (V:aO) (w:World),(∀ b o,V b = some o → w.heap[b]? = some o) → fD Ts vs V → Calls P f vs.toArray w fun e w'=>e = .panicked (Uv v) ∧ Below w.heap.size w w'
def Dv (P:Program) (fn:Func) (cx:Cx) (v:Value):eA:=bodyPost P fn fun e w'=>e = .panicked (Uv v) ∧ Below cx.w0.heap.size cx.w0 w'
def Tk (R:eA) (cx:Cx) (v:Value):Prop:=∀ (a:Act) (w:World),a.defers = [] → Below cx.w0.heap.size cx.w0 w → R (.panic (Uv v)) a w
theorem Dv.pan {P:Program} {fn:Func} {cx:Cx} {v:Value}:Tk (Dv P fn cx v) cx v:=fun _ _ hd hb=>⟨hd,rfl,hb⟩
theorem jO {P : Program} {R : eA} {a : Act} {w : World} {c : List PanicEntry} (h : R (.panic c) a w) : ∀ k : List It, den P R k (.panic c) a w
 | []=>h
 | .code _ :: k=>jO h k
 | .lp _ :: k=>jO h k
 | .blk _ :: k=>jO h k
section
variable {P:Program} {R:eA} {cx:Cx} {n:Nat} {k:List It} {E:cB} {H:Hp} {ops:Array Oper} {rest:List Oper}
variable {d:Option Tmp} {pos:String} {af:Array Edge} {t':TypeId} {g:Option (Nat × Bool)}
theorem uE.intro {f : FuncId} {fn : Func} {c : Code} {Ts : List Ty} {v : Value} (hf : P.funcs[f]? = some fn) (hb : fn.body = some c) (hn : fn.ntmps = n) (hl : Nat.ble Ts.length n = true)
  (h:∀ cx,Tr P (Dv P fn cx v) cx n [.code c] (ent 0 Ts) []):uE P f Ts v:=fun vs V w ho ha=>by
 refine calls_of_wp hf hb ?_
 have hlen:vs.length = Ts.length:=ha.length
 have hle:Ts.length ≤ n:=aK hl
 have hinv:fN ⟨w,V⟩ V [] w:=⟨ho,kC.refl V,fun b o h1 h2=>(by have h3:V b = none:=h2; rw [h1] at h3; cases h3),Below.refl _ _,⟨fun _=>[],fun i A hA=>(by simp at hA),fun i j b hi=>(by simp at hi)⟩⟩
 refine h ⟨w,V⟩ _ w ⟨V,hinv,.inl rfl,?_,fun t T hT=>?_⟩
 ·simp [hn]; omega
 ·obtain ⟨_, h2⟩ := pX Ts 0 t T hT
  obtain ⟨v,h3,h4⟩:=ha.get (i:=t) (by simpa using h2)
  have ht:t < vs.length:=(List.getElem?_eq_some_iff.1 h3).1
  exact ⟨v,by simp [Array.getElem?_append,ht] at h3 ⊢; exact h3,h4⟩
theorem Tn {x:Operand} {v:Value} {tt:TypeId} (hx:aA E x (Is (.iface tt v))) (hR:Tk R cx (.iface tt v)) (h206:Nat.beq n 206 = false:=by rfl):Rg P R cx n ops (⟨d,.panic x,t',pos,af,none⟩ :: rest) k E H:=by
 intro a w ⟨V,hinv,hs⟩
 unfold wpList
 rw [if_pos (by simp [Region.wanted])]
 left
 have ex:a.eval x = .iface tt v:=hx n V a hs
 have hrun : (execOp a.eval ⟨d, .panic x, t', pos, af, none⟩).run P w = .halt (.panic (.iface tt v)) w := by
  have hp:(Instr.panic (Value.iface tt v)).run P w = .halt (.panic (.iface tt v)) w:=rfl
  simp [execOp,ex,Sem.run_bind,Result.andThen,hp]
 simp only [Oper.wp,hrun,Oper.upon_panic]
 exact jO (hR a w (hs.1.nil h206) hinv.bel) k
theorem xI {f : FuncId} {xs : List Operand} {tys : Array TypeId} {Ts : List Ty} {v : Value} (hc : ∀ args w, (callFunc f args).run P w = .ok (.enter f args) w) (hF : uE P f Ts v) (hR : Tk R cx v) (h206 : Nat.beq n 206 = false := by rfl)
  {Ei:cB} (ha:kU Ei xs Ts) (X:Hp) (a:Act) (w:World) (V:aO) (hi:fN cx V X w) (hs:dA n Ei V a) (K:Act → World → Prop) :
  Oper.wp P ⟨d,.call ⟨.value (.func f),xs.toArray,tys⟩,t',pos,af,g⟩ a w K (den P R k):=by
 have hrun : (execOp a.eval ⟨d, .call ⟨.value (.func f), xs.toArray, tys⟩, t', pos, af, g⟩).run P w = .ok (.enter f (xs.map a.eval).toArray) w := by
  simp [execOp,resolve,Act.eval,Deferred.ofValue,invoke,hc]
 simp only [Oper.wp,hrun,Oper.upon_enter]
 refine (hF _ V w hi.on (kU.all hs ha)).mono ?_
 rintro e w' ⟨rfl,hb⟩
 exact jO (hR a w' (hs.1.nil h206) (hi.bel.trans (hb.mono hi.bel.size))) k
def Zq (P:Program) (γ:Type) (Ts:γ → List Ty) (U:γ → Ty) (p:γ → Prop) (pv:Value):Ty where
 p v V := ∃ (f : FuncId) (caps : List Value), v = .func (.func f) #[] caps.toArray ∧ (∀ args w, (callFunc f args).run P w = .ok (.enter f args) w) ∧
  ∀ (x : γ) (vs : List Value) (V' : aO) (w : World), kC V V' → (∀ b o, V' b = some o → w.heap[b]? = some o) → fD (Ts x) vs V' → (p x → Calls P f (vs ++ caps).toArray w fun e w' => e = .panicked (Uv pv) ∧ Below w.heap.size w w') ∧ (¬ p x → Calls P f (vs ++ caps).toArray w fun e w' =>
   ∃ v V'',e = .returned v ∧ kC V' V'' ∧ (∀ b o,V'' b = some o → w'.heap[b]? = some o) ∧ (∀ b o,V'' b = some o → V' b = none → w.heap.size ≤ b) ∧ Below w.heap.size w w' ∧ (U x).p v V'')
 mono h k := by
  obtain ⟨f,caps,e,hc,h⟩:=h
  exact ⟨f,caps,e,hc,fun x vs V' w hle=>h x vs V' w (k.trans hle)⟩
instance shClX (P:Program) (γ:Type) (Ts:γ → List Ty) (U:γ → Ty) (p:γ → Prop) (pv:Value):dI (Zq P γ Ts U p pv) 1 false:=gB fun v V h=>by obtain ⟨f,caps,rfl,_⟩:=h; trivial
theorem Rh {f : FuncId} {xs : List Operand} {Cs : List Ty} {γ : Type} {Ts : γ → List Ty} {U : γ → Ty} {p : γ → Prop} {pv : Value} (hc : ∀ args w, (callFunc f args).run P w = .ok (.enter f args) w)
  (hF:∀ x,¬ p x → bA P f (Ts x ++ Cs) (U x)) (hX:∀ x,p x → uE P f (Ts x ++ Cs) pv) (ha:kU E xs Cs):aM P n E H ⟨d,.makeFunc (.func f) #[] xs.toArray,t',pos,af,g⟩ (Zq P γ Ts U p pv) :=
 dF fun a V w hs => by
  have hA:=kU.all hs ha
  refine ⟨.func (.func f) #[] (xs.map a.eval).toArray,by simp [execOp,Instr.makeFunc,Sem.run_bind,pure,Sem.run,bind,Sem.bind],f,xs.map a.eval,rfl,hc,fun x vs V' w' hle ho hv=>⟨fun hp=>?_,fun hp=>?_⟩⟩
  ·exact hX x hp (vs ++ xs.map a.eval) V' w' ho (hv.append (hA.mono hle))
  ·exact hF x hp (vs ++ xs.map a.eval) V' w' ho (hv.append (hA.mono hle))
theorem Mr {f : Operand} {xs : List Operand} {tys : Array TypeId} {γ : Type} {Ts : γ → List Ty} {U : γ → Ty} {p : γ → Prop} {pv : Value} (x : γ) (hp : ¬ p x) (hf : aA E f (Zq P γ Ts U p pv)) (ha : kU E xs (Ts x)) :
  aM P n E H ⟨d,.call ⟨.value f,xs.toArray,tys⟩,t',pos,af,g⟩ (U x):=fun cx X a w V hi hs K Q hK=>by
 obtain ⟨fi,caps,e,hc,h⟩:=hf n V a hs
 have hrun : (execOp a.eval ⟨d, .call ⟨.value f, xs.toArray, tys⟩, t', pos, af, g⟩).run P w = .ok (.enter fi (xs.map a.eval ++ caps).toArray) w := by
  simp [execOp,resolve,e,Deferred.ofValue,invoke,hc]
 simp only [Oper.wp,hrun,Oper.upon_enter]
 refine ((h x _ V w (kC.refl V) hi.on (kU.all hs ha)).2 hp).mono ?_
 rintro e' w' ⟨v,V',rfl,h1,h2,h3,h4,h5⟩
 exact hK v w' V' (hi.after h1 h2 h3 h4) h1 h5
theorem Lw {f : Operand} {xs : List Operand} {tys : Array TypeId} {γ : Type} {Ts : γ → List Ty} {U : γ → Ty} {p : γ → Prop} {pv : Value} (x : γ) (hp : p x) {Ei : cB} (hf : aA Ei f (Zq P γ Ts U p pv)) (ha : kU Ei xs (Ts x)) (hR : Tk R cx pv) (h206 : Nat.beq n 206 = false := by rfl)
  (X:Hp) (a:Act) (w:World) (V:aO) (hi:fN cx V X w) (hs:dA n Ei V a) (K:Act → World → Prop) :
  Oper.wp P ⟨d,.call ⟨.value f,xs.toArray,tys⟩,t',pos,af,g⟩ a w K (den P R k):=by
 obtain ⟨fi,caps,e,hc,h⟩:=hf n V a hs
 have hrun : (execOp a.eval ⟨d, .call ⟨.value f, xs.toArray, tys⟩, t', pos, af, g⟩).run P w = .ok (.enter fi (xs.map a.eval ++ caps).toArray) w := by
  simp [execOp,resolve,e,Deferred.ofValue,invoke,hc]
 simp only [Oper.wp,hrun,Oper.upon_enter]
 refine ((h x _ V w (kC.refl V) hi.on (kU.all hs ha)).1 hp).mono ?_
 rintro e' w' ⟨rfl,hb⟩
 exact jO (hR a w' (hs.1.nil h206) (hi.bel.trans (hb.mono hi.bel.size))) k
end
namespace X
section
variable {P:Program} {R:eA} {cx:Cx} {n:Nat} {k:List It} {E:cB} {H:Hp}
def xL:Ob:=.new Unit (fun _=>mA) fun _=>SA.emp
def XOk (P : Program) (R : eA) (cx : Cx) (k : List It) (n : Nat) (ops : List Oper) (m : Nat) (E0 : cB) (H : Hp) (prev : List (Nat × Ob)) (o : Oper) (d : Nat) : Ob → Prop
 | .val T=>prev.length < m ∧ o.dst = some d ∧ d < n ∧ ∃ Ei,Srcs ops m E0 prev o Ei ∧ gH P n ops.toArray Ei H o T
 | .new _ _ _ => (o.guard = none ∧ ∃ Ei, Srcs ops m E0 prev o Ei ∧ ∀ (X : Hp) (a : Act) (w : World) (V : aO), fN cx V X w → dA n Ei V a → ∀ K, o.wp P a w K (den P R k)) ∨
  ∃ q d',prev.reverse[q]? = some (d',xL) ∧ (o.after.toList.any fun e=>Nat.beq e.on q && Region.binds .any e) = true
def sM (P : Program) (R : eA) (cx : Cx) (k : List It) (n : Nat) (ops : List Oper) (m : Nat) (E0 : cB) (H : Hp) : List (Nat × Ob) → Prop
 | []=>True
 | (d,b) :: prev=>(∃ o,ops[prev.length]? = some o ∧ (b = xL ∨ ∃ T,b = .val T) ∧ XOk P R cx k n ops m E0 H prev o d b) ∧ sM P R cx k n ops m E0 H prev
def Dr (P : Program) (R : eA) (cx : Cx) (n : Nat) (ops : List Oper) (m : Nat) (k : List It) (E0 : cB) (H : Hp) (l : List Oper) (acc : List (Nat × Ob)) : Prop :=
 ops = (ops.take acc.length) ++ l → sM P R cx k n ops m E0 H acc → P.follows .mixedOrders = true ∧ ∀ a w, St cx n E0 H a w →
  wpAny P .any ops.toArray (den P R k) ops.toArray.size (Array.replicate ops.toArray.size false) a { w with drawn:=w.drawn + 1 }
theorem D_start {ops:List Oper} {m id:Nat} (h:Dr P R cx n ops m k E H ops []):Tr P R cx n (.code (.region id ops.toArray true) :: k) E H:=fun a w hs=>wp_region_any (h (by simp) trivial).1 ((h (by simp) trivial).2 a w hs)
theorem Ge {ops l : List Oper} {m : Nat} {o : Oper} {acc : List (Nat × Ob)} {d : Nat} {b : Ob} (hb : b = xL ∨ ∃ T, b = .val T) (hx : XOk P R cx k n ops m E H acc o d b) (h : Dr P R cx n ops m k E H l ((d, b) :: acc)) : Dr P R cx n ops m k E H (o :: l) acc := fun hops hobs => by
 have hlen : acc.length ≤ ops.length := by
  have:=congrArg List.length hops
  simp at this; omega
 have ho : ops[acc.length]? = some o := by
  rw [hops,List.getElem?_append_right (by simp; omega)]
  simp [Nat.min_eq_left hlen]
 have hlt:acc.length < ops.length:=(List.getElem?_eq_some_iff.1 ho).1
 refine h ?_ ⟨⟨o,ho,hb,hx⟩,hobs⟩
 rw [List.length_cons,List.take_succ_eq_append_getElem hlt]
 have:ops[acc.length] = o:=by simpa [hlt] using ho
 rw [this]
 simpa using hops
theorem D_step {ops l : List Oper} {m : Nat} {o : Oper} {acc : List (Nat × Ob)} {d : Nat} {T : Ty} {Ei : cB} (hd : o.dst = some d) (hn : Nat.blt d n = true) (hs : Srcs ops m E acc o Ei) (hst : gH P n ops.toArray Ei H o T)
  (h:Dr P R cx n ops m k E H l ((d,.val T) :: acc)) (hm:Nat.blt acc.length m = true:=by rfl):Dr P R cx n ops m k E H (o :: l) acc:=Ge (.inr ⟨T,rfl⟩) ⟨Nat.le_of_ble_eq_true hm,hd,Nat.le_of_ble_eq_true hn,Ei,hs,hst⟩ h
theorem D_dead {ops l : List Oper} {m : Nat} {o : Oper} {acc : List (Nat × Ob)} {Ei : cB} (hg : o.guard = none) (hs : Srcs ops m E acc o Ei)
  (hx:∀ (X:Hp) (a:Act) (w:World) (V:aO),fN cx V X w → dA n Ei V a → ∀ K,o.wp P a w K (den P R k)) (h:Dr P R cx n ops m k E H l ((n,xL) :: acc)):Dr P R cx n ops m k E H (o :: l) acc :=
 Ge (.inl rfl) (.inl ⟨hg,Ei,hs,hx⟩) h
theorem D_dep {ops l : List Oper} {m : Nat} {o : Oper} {acc : List (Nat × Ob)} (q : Nat) {d' : Nat} (hq : acc.reverse[q]? = some (d', xL)) (he : (o.after.toList.any fun e => Nat.beq e.on q && Region.binds .any e) = true)
  (h:Dr P R cx n ops m k E H l ((n,xL) :: acc)):Dr P R cx n ops m k E H (o :: l) acc:=Ge (.inl rfl) (.inr ⟨q,d',hq,he⟩) h
theorem sM.get {ops : List Oper} {m : Nat} : ∀ {acc : List (Nat × Ob)}, sM P R cx k n ops m E H acc → ∀ {i : Nat} {d : Nat} {b : Ob}, acc.reverse[i]? = some (d, b) →
  ∃ o,ops[i]? = some o ∧ (b = xL ∨ ∃ T,b = .val T) ∧ XOk P R cx k n ops m E H ((acc.reverse.take i).reverse) o d b
 | [],_,i,d,b,h=>by simp at h
 | (d', b') :: prev, ⟨⟨o, h1, h2, h4⟩, hp⟩, i, d, b, h => by
  rw [List.reverse_cons] at h
  by_cases e:i < prev.reverse.length
  ·rw [List.getElem?_append_left e] at h
   obtain ⟨o',q1,q2,q4⟩:=sM.get hp h
   refine ⟨o',q1,q2,?_⟩
   rw [List.reverse_cons,List.take_append_of_le_length zo]; exact q4
  ·have hi : i = prev.length := by
    have:=(List.getElem?_eq_some_iff.1 h).1
    simp at this e; omega
   subst hi
   rw [List.getElem?_append_right (by simp)] at h
   simp at h
   obtain ⟨rfl,rfl⟩:=h
   refine ⟨o,h1,h2,?_⟩
   rw [List.reverse_cons,List.take_append_of_le_length (by simp),List.take_of_length_le (by simp),List.reverse_reverse]
   exact h4
theorem sM.dst {ops:List Oper} {m:Nat} {acc:List (Nat × Ob)} (h:sM P R cx k n ops m E H acc) {i d:Nat} {T:Ty} (hb:acc.reverse[i]? = some (d,.val T)):eM ops i = some d:=by
 obtain ⟨o,h1,_,h3⟩:=sM.get h hb
 simp [eM,h1,h3.2.1]
theorem Og {ops : List Oper} {m : Nat} {acc : List (Nat × Ob)} (hd : Dn ops m) (hlen : acc.length = ops.length) (hobs : sM P R cx k n ops m E H acc) {jd dd : Nat} (hdead : acc.reverse[jd]? = some (dd, xL)) :
  ∀ (fuel : Nat) (listed : Array Bool) (a : Act) (w : World) (V : aO) (C : Nat → Ty × SA), LI ops listed → gP listed.toList ≤ fuel → (∀ i, listed[i]? = some true → ∃ d T, acc.reverse[i]? = some (d, .val T) ∧ C i = (T, SA.emp)) →
   rS cx n ops m E H (fun i=>listed[i]? == some true) C V a w → wpAny P .any ops.toArray (den P R k) fuel listed a w:=by
 have hjl : jd < ops.length := by
  have:=(List.getElem?_eq_some_iff.1 hdead).1; simpa [hlen] using this
 have nd : ∀ (listed : Array Bool), (∀ i, listed[i]? = some true → ∃ d T, acc.reverse[i]? = some (d, Ob.val T)) → listed[jd]? ≠ some true := fun listed h e => by
  obtain ⟨d,T,h1⟩:=h jd e
  rw [hdead] at h1; simp [xL] at h1
 intro fuel
 induction fuel with
 | zero =>
  intro listed a w V C hL hc hv hM
  have hil:jd < listed.size:=by rw [hL.sz]; exact hjl
  have h0:=nd listed (fun i hi=>let ⟨d,T,h,_⟩:=hv i hi; ⟨d,T,h⟩)
  cases hb:listed[jd] with
  | true=>exact absurd (by simp [hil,hb]) h0
  | false =>
   have:=oA listed.toList jd (by simp [hil,hb])
   omega
 | succ fuel ih =>
  intro listed a w V C hL hc hv hM
  have h0:=nd listed (fun i hi=>let ⟨d,T,h,_⟩:=hv i hi; ⟨d,T,h⟩)
  refine ⟨fun hr=>absurd (mQ hr hL.sz hd.back jd hjl) h0,fun i hi=>?_⟩
  obtain ⟨o,h1,h2,h3⟩:=lB hi hL.sz
  have hil:i < ops.length:=(List.getElem?_eq_some_iff.1 h1).1
  obtain ⟨d,b,hb⟩:∃ d b,acc.reverse[i]? = some (d,b):=⟨_,_,by rw [List.getElem?_eq_getElem (by simpa [hlen] using hil)]⟩
  obtain ⟨o',q1,qb,q4⟩:=sM.get hobs hb
  rw [h1] at q1; obtain rfl:=Option.some.inj q1
  have slots : ∀ Ei, Srcs ops m E (acc.reverse.take i).reverse o Ei → dA n Ei V a := fun Ei hS => by
   refine ⟨hM.df,hM.sz,fun t T hT=>?_⟩
   rcases hS t T hT with ⟨r1,r2⟩ | ⟨j,r1,r2⟩
   ·refine hM.old t T r1 (fun j hj e => ?_)
    have:=List.all_eq_true.1 r2 j (List.mem_range.2 hj)
    simp [e] at this
   ·rw [List.reverse_reverse, List.getElem?_take] at r1
    split at r1
    case isFalse=>cases r1
    case isTrue hji =>
    obtain ⟨e,he,hb'⟩:=List.any_eq_true.1 r2
    simp only [Bool.and_eq_true] at hb'
    have hon:e.on = j:=Nat.eq_of_beq_eq_true hb'.1
    have hlj:=h3 e he hb'.2
    rw [hon] at hlj
    obtain ⟨d2,T2,r3,hc'⟩:=hv j hlj
    rw [r1] at r3; simp at r3; obtain ⟨rfl,rfl⟩:=r3
    have hjm : j < m := by
     obtain ⟨o2,_,_,z⟩:=sM.get hobs r1
     have:=z.1; simp at this; omega
    obtain ⟨v,s1,s2⟩:=hM.now j t hjm (by rw [hlj]; rfl) (sM.dst hobs r1)
    exact ⟨v,s1,by rw [hc'] at s2; exact s2⟩
  have hcnt : gP (listed.setIfInBounds i true).toList ≤ fuel := by
   have:=oB listed.toList i (by simpa using h2)
   rw [Array.toList_setIfInBounds]; omega
  unfold wpOp
  simp only [List.getElem?_toArray,h1]
  rcases qb with rfl | ⟨T,rfl⟩
  ·rcases q4 with ⟨hg, Ei, hS, hx⟩ | ⟨q, d', hq, he⟩
   ·rw [if_pos (by simp [Region.wanted, hg])]
    exact .inl (hx _ a w V hM.inv (slots Ei hS) _)
   ·exfalso
    rw [List.reverse_reverse,List.getElem?_take] at hq
    split at hq
    case isFalse=>cases hq
    case isTrue hji =>
    obtain ⟨e,he2,hb'⟩:=List.any_eq_true.1 he
    simp only [Bool.and_eq_true] at hb'
    have hon:e.on = q:=Nat.eq_of_beq_eq_true hb'.1
    have hlq:=h3 e he2 hb'.2
    rw [hon] at hlq
    obtain ⟨d2,T2,r3,_⟩:=hv q hlq
    rw [hq] at r3; simp [xL] at r3
  ·obtain ⟨q0, q2, q3, Ei, hS, hst⟩ := q4
   have him:i < m:=by simp at q0; have:=hlen; omega
   have hdst:=sM.dst hobs hb
   have hx : ((List.range m).map fun i => if (listed[i]? == some true) = true then (C i).2 else SA.emp).set i SA.emp = (List.range m).map fun i => if (listed[i]? == some true) = true then (C i).2 else SA.emp := by
    rw [lI him]
    apply List.map_congr_left
    intro j _
    by_cases e:j = i
    ·subst e; simp [h2]
    ·simp [e]
   have := hst cx _ a w V hM.inv (slots Ei hS) (wpAny P .any ops.toArray (den P R k) fuel (listed.setIfInBounds i true)) (den P R k) (fun v w' V' hi' hle hvv => by
    rw [q2]
    refine ih _ _ _ V' _ (hL.set h1 h3) hcnt (fun j hj=>?_) (hM.next hd hL.sz him hdst q3 h2 hvv hle (by rw [hx]; exact hi'))
    by_cases e:j = i
    ·subst e; exact ⟨d,T,hb,by simp⟩
    ·rw [Array.getElem?_setIfInBounds_ne (fun x => e x.symm)] at hj
     obtain ⟨d2,T2,r3,r4⟩:=hv j hj
     exact ⟨d2,T2,r3,by simp [e,r4]⟩)
   split
   ·rename_i hw; rw [if_pos hw] at this; exact .inl this
   ·rename_i hw; rw [if_neg hw] at this; exact this
theorem Vo {V:aO} {w:World} (hi:fN cx V H w) (m:Nat):fN cx V (H ++ (List.range m).map fun _=>SA.emp) w:=by
 refine hi.hp_of (fun hh=>?_)
 obtain ⟨F,f1,f2⟩:=hh
 refine ⟨fun i=>if i < H.length then F i else [],fun i A hA=>?_,fun i j b hi hj hbi hbj=>?_⟩
 ·by_cases e : i < H.length
  ·rw [List.getElem?_append_left e] at hA
   simp only [if_pos e]; exact f1 i A hA
  ·rw [List.getElem?_append_right zo] at hA
   have : A = SA.emp := by
    rw [List.getElem?_map] at hA
    cases hq:(List.range m)[i - H.length]? with
    | none=>rw [hq] at hA; cases hA
    | some q=>rw [hq] at hA; simpa using hA.symm
   subst this
   simp only [if_neg e]
   exact ⟨rfl,fun b hb=>by simp at hb⟩
 ·by_cases e : i < H.length <;> by_cases e' : j < H.length
  ·simp only [if_pos e,if_pos e'] at hbi hbj; exact f2 i j b e e' hbi hbj
  ·simp [e'] at hbj
  ·simp [e] at hbi
  ·simp [e] at hbi
theorem D_end {ops : List Oper} {m : Nat} {acc : List (Nat × Ob)} (jd : Nat) {dd : Nat} (hP : P.follows .mixedOrders = true) (hchk : rX ops m = true) (hdead : acc.reverse[jd]? = some (dd, xL)) : Dr P R cx n ops m k E H [] acc := fun hops hobs => ⟨hP, fun a w ⟨V, hi, hs⟩ => by
 have hd:=Dn.of hchk
 have hlen : acc.length = ops.length := by
  have h1:=congrArg List.length hops
  simp only [List.append_nil,List.length_take] at h1
  have h2:ops.length ≤ acc.length:=by omega
  rcases Nat.lt_or_ge ops.length acc.length with h3 | h3
  ·exfalso
   obtain ⟨d,b,hb⟩:∃ d b,acc.reverse[ops.length]? = some (d,b):=⟨_,_,by rw [List.getElem?_eq_getElem (by simpa using h3)]⟩
   obtain ⟨o,ho,_⟩:=sM.get hobs hb
   have:=(List.getElem?_eq_some_iff.1 ho).1; omega
  ·omega
 have hnone : ∀ i : Nat, (Array.replicate ops.toArray.size false)[i]? ≠ some true := fun i h => by
  rw [Array.getElem?_replicate] at h; split at h <;> simp at h
 refine Og (cx:=cx) (n:=n) (E:=E) (H:=H) hd hlen hobs hdead _ _ a _ V (fun _=>(mA,SA.emp)) ⟨by simp,fun i o ho h=>absurd h (hnone i)⟩ ?_ (fun i h=>absurd h (hnone i)) ?_
 ·have : ∀ j, gP (List.replicate j false) ≤ j := fun j => by
   induction j with
   | zero=>simp [gP]
   | succ j ih=>simp only [List.replicate_succ,gP]; simp; omega
  simpa using this _
 ·refine ⟨?_, hs.1, hs.2.1, fun t T hT _ => hs.2.2 t T hT, fun j d hj hL => ?_⟩
  ·have e : ((List.range m).map fun i => if ((Array.replicate ops.toArray.size false)[i]? == some true) = true then ((fun _ => (mA, SA.emp)) i : Ty × SA).2 else SA.emp) = (List.range m).map fun _ => SA.emp := by
    apply List.map_congr_left; intro i _; split <;> rfl
   rw [e]
   exact Vo hi.drew _
  ·exact absurd (by simpa using hL) (hnone j)⟩
end
end X
end
section
open Go Go.RowKit
section
variable {P:Program} {n:Nat} {E:cB} {H:Hp}
variable {d:Option Tmp} {t:TypeId} {pos:String} {af:Array Edge} {g:Option (Nat × Bool)}
theorem Iw {x y : Operand} {i B o' : Nat} {BT : TypeId} {Ts Ws : List Ty} {T : Ty} [hsh : dI T 1 false] (hS : ∀ w, (sizeOf t).run P w = .ok 1 w) (hx : aA E x (eH B o')) (hy : aA E y T)
  (hH:H[i]? = some (box B BT Ts)) (hlt:o' < Ts.length) (hW:Ts.set o' T = Ws) {t':TypeId} {H':Hp} (hH':H.set i (box B BT Ws) = H') :
  W.PutTy P n E H H' ⟨none,.store t x y,t',pos,af,none⟩:=by subst hW; subst hH'; exact a1g hS hx hy hH hlt
end
end
section
open Go Go.RowKit
def Zu (P:Program) (o:Oper):Prop:=∀ (a:Act) (w:World) (d:Deferred) (w':World),(execOp a.eval o).run P w ≠ .ok (.defer d) w'
def Dt (P : Program) : List Oper → Prop
 | []=>True
 | o :: r=>Zu P o ∧ Dt P r
theorem Dt.mem {P : Program} : ∀ {l : List Oper}, Dt P l → ∀ o, o ∈ l → Zu P o
 | [],_,x,hx=>by cases hx
 | o :: r,h,x,hx=>(List.mem_cons.1 hx).elim (fun e=>e ▸ h.1) (fun hx=>Dt.mem (l:=r) h.2 x hx)
section
variable {P:Program} {o:Oper}
theorem fI {s : Act → Sem Value} (h : ∀ a : Act, execOp a.eval o = (do pure (.value (← s a)))) : Zu P o := fun a w d w' e => by
 rw [h,Sem.run_bind] at e
 cases hr:(s a).run P w with
 | ok x w=>rw [hr] at e; simp [Result.andThen] at e
 | halt x w=>rw [hr] at e; simp [Result.andThen] at e
theorem rM {s : Act → Sem Unit} (h : ∀ a : Act, execOp a.eval o = (do s a; pure .skip)) : Zu P o := fun a w d w' e => by
 rw [h,Sem.run_bind] at e
 cases hr:(s a).run P w with
 | ok x w=>rw [hr] at e; simp [Result.andThen] at e
 | halt x w=>rw [hr] at e; simp [Result.andThen] at e
theorem pG {s : Act → Value} (h : ∀ a : Act, execOp a.eval o = pure (.value (s a))) : Zu P o := fun a w d w' e => by
 rw [h] at e; simp at e
theorem eI {d : Option Tmp} {f : FuncId} {xs : Array Operand} {tys : Array TypeId} {t' : TypeId} {pos : String} {af : Array Edge} {g : Option (Nat × Bool)} (hc : ∀ args w, (callFunc f args).run P w = .ok (.enter f args) w) :
  Zu P ⟨d,.call ⟨.value (.func f),xs,tys⟩,t',pos,af,g⟩:=fun a w dd w' e=>by
 have : (execOp a.eval ⟨d, .call ⟨.value (.func f), xs, tys⟩, t', pos, af, g⟩).run P w = .ok (.enter f (xs.map a.eval)) w := by
  simp [execOp,resolve,show a.eval (.func f) = .func (.func f) #[] #[] from rfl,Deferred.ofValue,invoke,hc]
 rw [this] at e; simp at e
end
namespace J
abbrev wd (ds:List Deferred) (a:Act):Act:={ a with defers:=ds }
section
variable {P:Program} {ds:List Deferred}
theorem uS (a:Act) (t:Option Tmp) (v:Value):(wd ds a).put t v = wd ds (a.put t v):=by cases t <;> rfl
theorem Zf {o:Oper} {a:Act} {w:World} {K:Act → World → Prop} {Q:eA} (hn:Zu P o) (h:o.wp P a w (fun a' w'=>K (wd ds a') w') (fun e a' w'=>Q e (wd ds a') w')):o.wp P (wd ds a) w K Q:=by
 unfold Oper.wp at *
 rw [show (wd ds a).eval = a.eval from rfl]
 have hn':=hn a w
 generalize (execOp a.eval o).run P w = r at *
 cases r with
 | ok x w' =>
  cases x with
  | enter f args =>
   refine Calls.mono h fun e w'' he=>?_
   cases e with
   | returned v=>show K ((wd ds a).put o.dst v) w''; rw [uS]; exact he
   | panicked ch=>exact he
   | outgrown=>obtain ⟨a0,w0,h0⟩:=he; exact ⟨wd ds a0,w0,h0⟩
  | defer d=>exact absurd rfl (hn' d w')
  | value v=>show K ((wd ds a).put o.dst v) w'; rw [uS]; exact h
  | skip=>show K ((wd ds a).put o.dst undef) w'; rw [uS]; exact h
  | row r args =>
   show Rows P r args w' fun v w''=>K ((wd ds a).put o.dst v) w''
   have e:(fun v w''=>K ((wd ds a).put o.dst v) w'') = fun v w''=>K (wd ds (a.put o.dst v)) w'':=by funext v w''; rw [uS]
   rw [e]; exact h
  | _=>exact h
 | halt x w'=>cases x <;> exact h
theorem Cp {ops : Array Oper} {Q : eA} : ∀ {l : List Oper}, Dt P l → ∀ a w, wpList P ops (fun e a w => Q e (wd ds a) w) l a w → wpList P ops Q l (wd ds a) w
 | [],_,_,_,h=>h
 | o :: l, hn, a, w, h => by
  unfold wpList at h ⊢
  split
  ·rename_i hw
   rw [if_pos hw] at h
   rcases h with h | h
   ·exact .inl (Zf hn.1 (Oper.wp_mono (fun a w=>Cp hn.2 a w) h))
   ·obtain ⟨h1, a0, w0, h0⟩ := h
    exact .inr ⟨h1,wd ds a0,w0,h0⟩
  ·rename_i hw
   rw [if_neg hw] at h
   rw [uS]; exact Cp hn.2 _ _ h
theorem Bu {md : Region.Mode} {ops : List Oper} {Q : eA} (hn : Dt P ops) : ∀ (fuel : Nat) (listed : Array Bool) (a : Act) (w : World),
  wpAny P md ops.toArray (fun e a w=>Q e (wd ds a) w) fuel listed a w → wpAny P md ops.toArray Q fuel listed (wd ds a) w
 | 0,_,_,_,h=>h
 | fuel + 1, listed, a, w, h => by
  refine ⟨h.1,fun i hi=>?_⟩
  have h2:=h.2 i hi
  unfold wpOp at h2 ⊢
  cases ho:ops.toArray[i]? with
  | none=>simp only [ho] at h2 ⊢; exact Bu hn fuel _ _ _ h2
  | some o =>
   simp only [ho] at h2 ⊢
   have hm : o ∈ ops := by
    have:ops[i]? = some o:=by simpa using ho
    exact List.mem_of_getElem? this
   split
   ·rename_i hw
    rw [if_pos hw] at h2
    rcases h2 with h2 | h2
    ·exact .inl (Zf (hn.mem o hm) (Oper.wp_mono (fun a w=>Bu hn fuel _ a w) h2))
    ·obtain ⟨h1, a0, w0, h0⟩ := h2
     exact .inr ⟨h1,wd ds a0,w0,h0⟩
   ·rename_i hw
    rw [if_neg hw] at h2
    rw [uS]; exact Bu hn fuel _ _ _ h2
end
def Tr (ds:List Deferred) (P:Program) (R:eA) (cx:Cx) (n:Nat) (k:List It) (E:cB) (H:Hp):Prop:=∀ a w,St cx n E H a w → den P R k .normal (wd ds a) w
def On (ds:List Deferred) (P:Program) (R:eA) (k:List It):eA:=fun e a w=>den P R k e (wd ds a) w
section
variable {P:Program} {R:eA} {cx:Cx} {n:Nat} {k:List It} {E:cB} {H:Hp} {ds:List Deferred}
theorem T_seq {x y:Code} (h:Tr ds P R cx n (.code x :: .code y :: k) E H):Tr ds P R cx n (.code (.seq x y) :: k) E H:=fun a w hs=>wp_seq (h a w hs)
theorem T_region {id : Nat} {l : List Oper} (hn : Dt P l) (h : Rg P (On ds P R k) cx n l.toArray l [] E H) : Tr ds P R cx n (.code (.region id l.toArray false) :: k) E H :=
 fun a w hs=>wp_region_lit (Cp hn a w (h a w hs))
theorem T_on (h:Tr ds P R cx n k E H):Go.Proofs.YthcmlodgnfekeaaGreat.Tr P (On ds P R k) cx n [] E H:=fun a w hs=>h a w hs
theorem T_draw {id m : Nat} {l : List Oper} (hn : Dt P l) (h : Dr P (On ds P R k) cx n l m [] E H l []) : Tr ds P R cx n (.code (.region id l.toArray true) :: k) E H :=
 fun a w hs=>wp_region_any (h (by simp) trivial).1 (Bu hn _ _ a _ ((h (by simp) trivial).2 a w hs))
theorem T_ret (h:∀ a w,St cx n E H a w → R .ret (wd ds a) w):Tr ds P R cx n (.code .ret :: k) E H:=fun a w hs=>wp_ret (sV (h a w hs) k)
theorem T_defer {id : Nat} {f : FuncId} {x : Operand} {tys : Array TypeId} {v : Value} {t' : TypeId} {pos : String} {af : Array Edge} (hx : aA E x (Is v)) (h206 : Nat.beq n 206 = false := by rfl)
  (h:Tr [{ target:=.fn (.func f) #[],args:=#[v] }] P R cx n k E H):Go.Proofs.YthcmlodgnfekeaaGreat.Tr P R cx n (.code (.region id #[⟨none,.defer ⟨.value (.func f),#[x],tys⟩,t',pos,af,none⟩] false) :: k) E H:=by
 refine Go.Proofs.YthcmlodgnfekeaaGreat.T_region (l:=[⟨none,.defer ⟨.value (.func f),#[x],tys⟩,t',pos,af,none⟩]) fun a w hst=>?_
 obtain ⟨V,hi,hs⟩:=hst
 unfold wpList
 rw [if_pos (by simp [Region.wanted])]
 left
 have ex:a.eval x = v:=hx n V a hs
 have hrun : (execOp a.eval ⟨none, .defer ⟨.value (.func f), #[x], tys⟩, t', pos, af, none⟩).run P w = .ok (.defer { target := .fn (.func f) #[], args := #[v] }) w := by
  simp [execOp,resolve,show a.eval (.func f) = .func (.func f) #[] #[] from rfl,Deferred.ofValue,ex]
 simp only [Oper.wp,hrun,Oper.upon_defer]
 have hd:a.defers = []:=hs.1.nil h206
 have e : ({ a with defers := { target := .fn (.func f) #[], args := #[v] } :: a.defers } : Act).put none undef = wd [{ target := .fn (.func f) #[], args := #[v] }] a := by
  rw [hd]; rfl
 rw [e]
 exact h a w ⟨V,hi,hs⟩
end
end J
section
variable {P:Program} {R:eA} {cx:Cx} {n:Nat} {k:List It} {E:cB} {H:Hp}
theorem fN.quiet {X : Hp} {V : aO} {w w' : World} (hi : fN cx V X w) (hb : Below w.heap.size w w') : fN cx V X w' :=
 hi.after (kC.refl V) (fun b o h => by
  have h1:=hi.on b o h
  rw [hb.block b (Array.getElem?_eq_some_iff.1 h1).1]; exact h1) (fun b o h h0=>by rw [h] at h0; cases h0) hb
theorem Du {ops : Array Oper} {rest : List Oper} {d : Option Tmp} {pos : String} {af : Array Edge} {t' : TypeId} {f : FuncId} {xs : List Operand} {tys : Array TypeId} {Ts : List Ty} {v : Value} (hc : ∀ args w, (callFunc f args).run P w = .ok (.enter f args) w) (hF : uE P f Ts v)
  (ha:kU E xs Ts) (hR:∀ (a:Act) (w:World) (V:aO),fN cx V H w → dA n E V a → R (.panic (Uv v)) a w):Rg P R cx n ops (⟨d,.call ⟨.value (.func f),xs.toArray,tys⟩,t',pos,af,none⟩ :: rest) k E H:=by
 intro a w ⟨V,hinv,hs⟩
 unfold wpList
 rw [if_pos (by simp [Region.wanted])]
 left
 have hrun : (execOp a.eval ⟨d, .call ⟨.value (.func f), xs.toArray, tys⟩, t', pos, af, none⟩).run P w = .ok (.enter f (xs.map a.eval).toArray) w := by
  simp [execOp,resolve,Act.eval,Deferred.ofValue,invoke,hc]
 simp only [Oper.wp,hrun,Oper.upon_enter]
 refine (hF _ V w hinv.on (kU.all hs ha)).mono ?_
 rintro e w' ⟨rfl,hb⟩
 exact jO (hR a w' V (hinv.quiet hb) hs) k
end
def Zw (P : Program) (fn : Func) (cx : Cx) (U : Ty) : eA :=
 bodyPostD P fn fun e w'=>∃ v V',e = .returned v ∧ kC cx.V0 V' ∧ (∀ b o,V' b = some o → w'.heap[b]? = some o) ∧ (∀ b o,V' b = some o → cx.V0 b = none → cx.w0.heap.size ≤ b) ∧ Below cx.w0.heap.size cx.w0 w' ∧ U.p v V'
theorem FunD.intro {P : Program} {n : Nat} {f : FuncId} {fn : Func} {c : Code} {Ts : List Ty} {U : Ty} (hf : P.funcs[f]? = some fn) (hb : fn.body = some c) (hn : fn.ntmps = n) (hl : Nat.ble Ts.length n = true)
  (h:∀ cx,Tr P (Zw P fn cx U) cx n [.code c] (ent 0 Ts) []):bA P f Ts U:=fun vs V w ho ha=>by
 refine calls_of_wp_defers hf hb ?_
 have hlen:vs.length = Ts.length:=ha.length
 have hle:Ts.length ≤ n:=aK hl
 have hinv:fN ⟨w,V⟩ V [] w:=⟨ho,kC.refl V,fun b o h1 h2=>(by have h3:V b = none:=h2; rw [h1] at h3; cases h3),Below.refl _ _,⟨fun _=>[],fun i A hA=>(by simp at hA),fun i j b hi=>(by simp at hi)⟩⟩
 refine h ⟨w,V⟩ _ w ⟨V,hinv,.inl rfl,?_,fun t T hT=>?_⟩
 ·simp [hn]; omega
 ·obtain ⟨_, h2⟩ := pX Ts 0 t T hT
  obtain ⟨v,h3,h4⟩:=ha.get (i:=t) (by simpa using h2)
  have ht:t < vs.length:=(List.getElem?_eq_some_iff.1 h3).1
  exact ⟨v,by simp [Array.getElem?_append,ht] at h3 ⊢; exact h3,h4⟩
section
variable {P:Program} {cx:Cx} {n:Nat} {k:List It} {E:cB} {H:Hp}
theorem J.T_retN {fn : Func} {U : Ty} {f : FuncId} {x : Value} (hi' : ∀ w, (invoke (.fn (.func f) #[]) #[x]).run P w = .ok (.enter f #[x]) w) (hN : ∀ w, CallsD P f #[x] .returning w fun e u' w' => (∃ v, e = .returned v) ∧ u' = .returning ∧ w' = w)
  (hr:∀ (a:Act) (w:World) (V:aO),fN cx V H w → dA n E V a → ∃ v,(results fn a.tmps).run P w = .ok v w ∧ U.p v V) :
  J.Tr [{ target:=.fn (.func f) #[],args:=#[x] }] P (Zw P fn cx U) cx n (.code .ret :: k) E H:=J.T_ret fun a w ⟨V,hi,hs⟩=>by
 obtain ⟨v,h1,h2⟩:=hr a w V hi hs
 refine leaves_cons (by simp) (hi' w) ((hN w).mono ?_)
 rintro e u' w' ⟨⟨v',rfl⟩,rfl,rfl⟩
 exact ⟨v,h1,v,V,rfl,hi.le,hi.on,hi.new,hi.bel,h2⟩
theorem J.pan {fn : Func} {U : Ty} {f : FuncId} {x pv : Value} {H2 : Hp} {a : Act} {w : World} {V : aO} (hi' : ∀ w, (invoke (.fn (.func f) #[]) #[x]).run P w = .ok (.enter f #[x]) w)
  (hi:fN cx V H w) (hs:dA n E V a) (hP:CallsD P f #[x] (.panicking (Uv pv)) w fun e u' w'=>(∃ v,e = .returned v) ∧ u' = .panicking [{ v:=pv,recovered:=true }] ∧ ∃ V',fN cx V' H2 w' ∧ kC V V')
  (hr:∀ (a:Act) (w:World) (V:aO),fN cx V H2 w → dA n E V a → ∃ v,(results fn a.tmps).run P w = .ok v w ∧ U.p v V) :
  Zw P fn cx U (.panic (Uv pv)) (J.wd [{ target:=.fn (.func f) #[],args:=#[x] }] a) w:=by
 refine leaves_cons (by simp) (hi' w) (hP.mono ?_)
 rintro e u' w' ⟨⟨v',rfl⟩,rfl,V',hi2,hle⟩
 obtain ⟨v,h1,h2⟩:=hr a w' V' hi2 (hs.mono hle)
 exact ⟨v,h1,v,V',rfl,hi2.le,hi2.on,hi2.new,hi2.bel,h2⟩
end
end
section
open Go Go.RowKit
theorem Jt (x:Value) (w:World):CallsD Tryz.prog 159 #[x] .returning w fun e u' w'=>(∃ v,e = .returned v) ∧ u' = .returning ∧ w' = w:=by
 refine callsD_of_wpS Tryz.func159 rfl fun c₀ cs hu=>?_
 apply wpS_seq
 apply wpS_region
 simp [wpOpsS,go_sem,recoverD,hu,Tryz.ntmps159,Exit.thenS]
 refine wpS_of_wp ?_
 go_wp2
 cases c₀
 simp_all [bodyPostS,results,Tryz.results159]
theorem Uu (p : Addr) (x ec : Int) (w : World) (hc : w.cell? p = some (.int .i64 x)) (hz : w.frozen? p = false) (hp : p.block < w.heap.size) : CallsD Tryz.prog 159 #[.pointer (some p)] (.panicking (Uv (.iface 299 (.agg #[.int .i64 ec])))) w
  fun e u' w'=>(∃ v,e = .returned v) ∧ u' = .panicking [{ v:=.iface 299 (.agg #[.int .i64 ec]),recovered:=true }] ∧ w' = (w.alloc (.cells #[.int .i64 ec] 299)).setCell p (.int .i64 ec):=by
 refine callsD_of_wpS Tryz.func159 rfl fun c₀ cs hu=>?_
 apply wpS_seq
 apply wpS_region
 simp [wpOpsS,go_sem,recoverD,hu,Tryz.ntmps159,Exit.thenS]
 have hT:∀ w,(Instr.typeAssert (.iface 299 (.agg #[.int .i64 ec])) 20 299 true).run Tryz.prog w = .ok (.tuple #[.agg #[.int .i64 ec],.bool true]) w:=fun w=>by kernel_rfl
 have hc2:∀ o,(w.alloc o).cell? p = some (.int .i64 x):=fun o=>by rw [World.cell?_alloc_old w o p (Nat.ne_of_lt hp)]; exact hc
 have hz2:∀ o,(w.alloc o).frozen? p = false:=fun o=>by rw [World.frozen?_alloc_old w o p (Nat.ne_of_lt hp)]; exact hz
 refine wpS_of_wp ?_
 go_wp2
 cases c₀
 simp_all [bodyPostS,results,Tryz.results159]
abbrev qH (e:Int):Value:=.iface 299 (.agg #[.int .i64 e])
theorem oS (x:Value) (w:World):(invoke (.fn (.func 159) #[]) #[x]).run Tryz.prog w = .ok (.enter 159 #[x]) w:=by
 simp [invoke,Tryz.call159]
section
variable {cx:Cx} {n:Nat} {E:cB} {H:Hp} {V:aO} {w:World}
theorem xJ {i B : Nat} {BT : TypeId} {e0 e : Int} (hi : fN cx V H w) (hH : H[i]? = some (box B BT [aF .i64 e0])) :
  CallsD Tryz.prog 159 #[.pointer (some ⟨B,0,none⟩)] (.panicking (Uv (qH e))) w fun e' u' w'=>(∃ v,e' = .returned v) ∧ u' = .panicking [{ v:=qH e,recovered:=true }] ∧ ∃ V',fN cx V' (H.set i (box B BT [aF .i64 e])) w' ∧ kC V V':=by
 obtain ⟨S,_,cs,e2,e3⟩:=(show HH cx.w0.heap.size w V (H ++ []) by simpa using hi.hp).get hH
 have e2':w.heap[B]? = some (.cells cs.toArray BT (0,0)):=e2
 have hl:cs.length = 1:=e3.length
 obtain ⟨y,e4,e5⟩:=e3.get (i:=0) rfl
 cases e5
 have hcs : cs = [.int .i64 e0] := by
  match cs,hl,e4 with
  | [z],_,e4=>simp at e4; rw [e4]
 subst hcs
 have hlt:B < w.heap.size:=(Array.getElem?_eq_some_iff.1 e2').1
 refine (Uu ⟨B,0,none⟩ e0 e w ?_ ?_ hlt).mono ?_
 ·rw [dM e2']; rfl
 ·simp [World.frozen?,e2']
 rintro e' u' w' ⟨h1,h2,rfl⟩
 refine ⟨h1,h2,V,?_,kC.refl V⟩
 have h3 : fN cx V (H ++ [SA.emp]) (w.alloc (.cells #[.int .i64 e] 299)) := by
  have:=hi.alloc (ob:=.cells #[.int .i64 e] 299) (A:=⟨fun _ _ _=>True,fun h _=>h,fun h _=>h⟩) (fun m hm=>trivial)
  obtain ⟨F,f1,f2⟩:=this.hp
  refine this.hp_of fun _=>⟨fun j=>if j < H.length then F j else [],fun j A hA=>?_,fun j l b hj hl hbj hbl=>?_⟩
  ·by_cases hj : j < H.length
   ·rw [List.getElem?_append_left hj] at hA
    simp only [if_pos hj]
    exact f1 j A (by rw [List.getElem?_append_left hj]; exact hA)
   ·have : j = H.length := by
     have:=(List.getElem?_eq_some_iff.1 hA).1; simp at this; omega
    subst this
    rw [List.getElem?_append_right (Nat.le_refl _)] at hA; simp at hA; subst hA
    simp only [if_neg (Nat.lt_irrefl _)]
    exact ⟨rfl,fun b hb=>by simp at hb⟩
  ·by_cases h4 : j < H.length <;> by_cases h5 : l < H.length
   ·simp only [if_pos h4, if_pos h5] at hbj hbl
    exact f2 j l b (by simp; omega) (by simp; omega) hbj hbl
   ·simp [h5] at hbl
   ·simp [h4] at hbj
   ·simp [h4] at hbj
 have hB : (w.alloc (.cells #[.int .i64 e] 299)).heap[B]? = some (.cells #[.int .i64 e0] BT (0, 0)) := by
  rw [Below.heap_alloc w _ B hlt]; exact e2'
 have hil:=(List.getElem?_eq_some_iff.1 hH).1
 have h6:(H ++ [SA.emp])[i]? = some (box B BT [aF .i64 e0]):=by rw [List.getElem?_append_left hil]; exact hH
 have h7 := h3.upd (A' := box B BT [aF .i64 e]) (w' := (w.alloc (.cells #[.int .i64 e] 299)).setCell ⟨B, 0, none⟩ (.int .i64 e)) h6 (by simp) rfl rfl ⟨rfl, Nat.le_refl _⟩ (fun S hS' => by
  obtain ⟨rfl,cs',e7,e8⟩:=hS'
  refine ⟨fun b hb=>heap_setCell_other _ _ _ _ (by simpa using hb),rfl,[.int .i64 e],?_,aW zd aG⟩
  have h9:=lN _ B 0 (.int .i64 e) #[.int .i64 e0] BT hB
  simp only [List.setIfInBounds_toArray,List.set_cons_zero] at h9
  exact h9)
 exact h7.hp_of fun hh=>hh.sublist (by rw [List.set_append_left _ _ hil]; exact List.sublist_append_left _ _)
end
end
section
open Go Go.RowKit
theorem sX (a:Addr) (w:World):(Instr.fieldAt 140 (.pointer (some a)) 0).run Tryz.prog w = .ok (.pointer (some (a.add 0))) w:=by
 simp [Instr.fieldAt,Instr.sureAddr,fieldPlace,Sem.run_bind,Result.andThen,U_140,Z_32]
theorem xS (a:Addr) (w:World):(Instr.fieldAt 140 (.pointer (some a)) 1).run Tryz.prog w = .ok (.pointer (some (a.add 5))) w:=by
 simp [Instr.fieldAt,Instr.sureAddr,fieldPlace,Sem.run_bind,Result.andThen,U_140,Z_32]
theorem kM (a:Addr) (w:World):(Instr.fieldAt 140 (.pointer (some a)) 2).run Tryz.prog w = .ok (.pointer (some (a.add 10))) w:=by
 simp [Instr.fieldAt,Instr.sureAddr,fieldPlace,Sem.run_bind,Result.andThen,U_140,Z_32]
theorem fT (a:Addr) (w:World):(Instr.fieldAt 145 (.pointer (some a)) 0).run Tryz.prog w = .ok (.pointer (some (a.add 0))) w:=by
 simp [Instr.fieldAt,Instr.sureAddr,fieldPlace,Sem.run_bind,Result.andThen,U_145,Z_142]
theorem iN (a:Addr) (w:World):(Instr.fieldAt 145 (.pointer (some a)) 1).run Tryz.prog w = .ok (.pointer (some (a.add 1))) w:=by
 simp [Instr.fieldAt,Instr.sureAddr,fieldPlace,Sem.run_bind,Result.andThen,U_145,Z_54]
end
section
open Go Go.RowKit
abbrev Tv (t:jX):Ty:=dL [aD (decide (t.1.a < 0)),aL t.1.a.natAbs,aD (decide (t.1.b < 0)),aL t.1.b.natAbs,aL (du t.1),aD (decide (t.2.1.a < 0)),aL t.2.1.a.natAbs,aD (decide (t.2.1.b < 0)),aL t.2.1.b.natAbs,aL (du t.2.1),aD (decide (t.2.2.a < 0)),aL t.2.2.a.natAbs,aD (decide (t.2.2.b < 0)),aL t.2.2.b.natAbs,aL (du t.2.2)]
abbrev rH (tl:List jX):Ty:=kT 15 (tl.map Tv)
abbrev mX (tl:List jX) (es:List Qi):Ty:=dL [rH tl,bP es]
structure pI (tl:List jX) (L:Nat):Prop where
 d:∀ i,aI (tD tl i) L
 m:∀ i,aI (tM tl i) L
 t:∀ i,aI (tT tl i) L
theorem wT (i k:Nat):aI (Gc i k) 2:=by
 unfold Gc; split
 ·exact Jz (by decide) (by decide)
 ·exact Jz (by decide) (by decide)
theorem xE {n:Int} (h1:-9223372036854775808 ≤ n) (h2:n ≤ 9223372036854775807):bA Tryz.prog 226 [aF .i64 n] (aE (Qi.ofInt n)):=by
 refine bA.intro Tryz.func226 rfl Tryz.ntmps226 rfl (fun cx=>(ts (rn rfl (eW (Ts:=[Is (.bool false),Is (.slice none 0 0),Is (.bool false),Is (.slice none 0 0),Is (.slice none 0 0)]) O_32 rfl (fun V=>aW zd (aW zd (aW zd (aW zd (aW zd (aG))))))) fun B2=>(eX (ts (rn rfl (eW (Ts:=[Is (.bool false),Is (.slice none 0 0),Is (.bool false),Is (.slice none 0 0),Is (.slice none 0 0)]) O_32 rfl (fun V=>aW zd (aW zd (aW zd (aW zd (aW zd (aG))))))) fun B3=>?_))))))
 refine eX (cK (fJ (m:=4) (dp 3 rfl (aM.imp (eJ A_32 Z_32 (Ht rfl) (i:=1) rfl rfl rfl) (by exact tH)) ?_)))
 refine dq 4 0 rfl (aN aR (Ht rfl)) (dp 0 rfl (cX (Ht rfl)) (dq 6 2 rfl (cZ K_36 (vC (n:=n) h1 h2) ⟨(Ht rfl),trivial⟩) (fW aT rfl (by kernel_rfl) (zF (aV (ro rfl (aH oU Tryz.call318 a25 (Ht rfl) ⟨(Ht rfl),trivial⟩) (gZ Z_32 (Ht rfl) (Ht rfl) rfl (i:=0) rfl (aK rfl) rfl rfl (eX ?_))))))))
 exact fG rfl (fU A_32 Z_32 rfl (i:=0) rfl rfl)
theorem Ph {i k:Nat}:bA Tryz.prog 162 [NT .i64 i,NT .i64 k] (aE (Gc i k)):=by
 refine bA.intro Tryz.func162 rfl Tryz.ntmps162 rfl (fun cx=>(ts (rn rfl (eW (Ts:=[Is (.bool false),Is (.slice none 0 0),Is (.bool false),Is (.slice none 0 0),Is (.slice none 0 0)]) O_32 rfl (fun V=>aW zd (aW zd (aW zd (aW zd (aW zd (aG))))))) fun B4=>(eX (cK (ts (rm rfl (rm rfl (ro rfl (dN (Ht rfl) (Ht rfl)) (eX (dQ (Ht rfl) (fun hb=>?_) (fun hb=>?_))))))))))))
 ·simp only [decide_eq_true_eq] at hb
  refine ts (ro rfl (cZ Tryz.call226 (xE (n:=1) (by decide) (by decide)) ⟨(cJ 1),trivial⟩) (gZ Z_32 (Ht rfl) (Ht rfl) rfl (i:=0) rfl (aK rfl) rfl rfl (eX (fG rfl (fZ (fU A_32 Z_32 rfl (i:=0) rfl rfl) ?_)))))
  exact (gM (if_pos hb).symm)
 ·simp only [decide_eq_false_iff_not] at hb
  refine cU (ts (ro rfl (cZ Tryz.call226 (xE (n:=0) (by decide) (by decide)) ⟨(cJ 0),trivial⟩) (gZ Z_32 (Ht rfl) (Ht rfl) rfl (i:=0) rfl (aK rfl) rfl rfl (eX (fG rfl (fZ (fU A_32 Z_32 rfl (i:=0) rfl rfl) ?_))))))
  exact (gM (if_neg hb).symm)
theorem vR {tl:List jX} {es:List Qi} (h1:1 ≤ tl.length) (h8:tl.length ≤ 8) (he:es.length = tl.length):bA Tryz.prog 157 [mX tl es] (aF .i64 0):=by
 refine bA.intro Tryz.func157 rfl Tryz.ntmps157 rfl (fun cx=>(ts (rn rfl (fK (Ht rfl)) fun B1=>(ro rfl (cQ (cJ 0)) (eX (cK (ts (ro rfl (eZ fT (Ht rfl) rfl) (ro rfl (eY A_142 Z_142 (Ht rfl) (i:=0) rfl rfl) (ro rfl (dK U_142 (Ht rfl) aC) (ra rfl (eX (ts (rm rfl (ro rfl (gJ (Ht rfl) (cJ 1)) (rm rfl (fQ rfl rfl (eK rfl rfl (Ht rfl) (fun h=>cX (Ht rfl))) (fQ rfl rfl (eK rfl rfl (Ht rfl) (fun h=>iW (fV rfl h) (cJ 8))) (ro rfl (iF (Ht rfl) (fun h=>(fV rfl h))) ?_)))))))))))))))))))
 refine rm rfl (fQ rfl rfl (eK rfl rfl (Ht rfl) (fun h=>eZ iN (Ht rfl) rfl)) (fQ rfl rfl (eK rfl rfl (Ht rfl) (fun h=>eY A_54 Z_54 (fV rfl h) (i:=0) rfl rfl)) (fQ rfl rfl (eK rfl rfl (Ht rfl) (fun h=>dK U_54 (fV rfl h) aC)) (fQ rfl rfl (eK rfl rfl (Ht rfl) (fun h=>cX (Ht rfl))) (fQ rfl rfl (eK rfl rfl (Ht rfl) (fun h=>fR (fV rfl h) (fV rfl h))) (ro rfl (iF (Ht rfl) (fun h=>(fV rfl h))) (eX (cL (Ht rfl) (by simp only [he,Bool.or_eq_false_iff,decide_eq_false_iff_not]; refine ⟨⟨by omega,by omega⟩,by simp⟩) ?_))))))))
 refine cU (ts (ro rfl (cQ (cJ 0)) (eX ?_)))
 exact fG rfl (eU rfl)
theorem Bx {tl:List jX} {es:List Qi} {m:List (List Qi)} (hm:cI m tl.length tl.length) (hn:tl.length ≤ 1000):bA Tryz.prog 158 [mX tl es,bF m] (aD true):=by
 have hml:=hm.1
 refine bA.intro Tryz.func158 rfl Tryz.ntmps158 rfl (fun cx=>(ts (rn rfl (fK (Ht rfl)) fun B2=>(ro rfl (cQ cV) (eX (cK (ts (rm rfl (ro rfl (dK U_78 (Ht rfl) aC) (ro rfl (eZ fT (Ht rfl) rfl) (ro rfl (eY A_142 Z_142 (Ht rfl) (i:=0) rfl rfl) (ro rfl (dK U_142 (Ht rfl) aC) (ro rfl (fR (Ht rfl) (Ht rfl)) (eX (cL (Ht rfl) (by simp [hml]) ?_)))))))))))))))
 refine cU (cK (ts (rm rfl (ro rfl (dK U_78 (Ht rfl) aC) (ro rfl (cX (cJ 0)) (eX (eG (cC [0] rfl (by decide) ?_))))))))
 refine eL (fun (k : Nat) => k ≤ m.length) (fun (k : Nat) => m.length - k) (fun (k : Nat) => [(2, eH B2 0), (13, bF m), (14, NT .i64 m.length), (15, NT .i64 k)]) (fun (k : Nat) => [box B2 145 [rH tl, bP es]]) 0 (Nat.zero_le _)
  (zS rfl) (aU (aP rfl) aY) (fun k hk=>?_)
 refine ts (ro rfl (gJ (Ht rfl) (Ht rfl)) (eX (cK (dQ (Ht rfl) (fun hb=>?_) (fun hb=>?_)))))
 ·simp only [decide_eq_true_eq] at hb
  have hr:(m.getD k []).length = tl.length:=hm.row zo
  refine cU (cK (eG (ts (ro rfl (dZ U_78 Z_54 (Ht rfl) (Ht rfl) rfl (eQ (dY (d:=[]) hb))) (ro rfl (dV A_54 Z_54 (Ht rfl)) (ra rfl (eX (ts (rm rfl (ro rfl (dK U_54 (Ht rfl) aC) (ro rfl (eZ fT (Ht rfl) rfl) (ro rfl (eY A_142 Z_142 (Ht rfl) (i:=0) rfl rfl) (ro rfl (dK U_142 (Ht rfl) aC) (ro rfl (fR (Ht rfl) (Ht rfl)) (eX (cL (Ht rfl) (by rw [hr]; simp) ?_))))))))))))))))
  refine cU (cF (cY (ro rfl (dW (Ht rfl) (cJ 1) z6) (rm rfl (eX (gQ (k + 1) hb zo (zS rfl) (eS.refl _)))))))
 ·refine gG rfl (ts (ro rfl (cQ cV) (eX ?_)))
  exact fG rfl (eU rfl)
theorem qN {x y:Qi} {L M:Nat} [hx:aI x L] [hy:aI y M] (h:L + 3 * M + 2 ≤ 17592186044415) (hz:y ≠ 0):bA Tryz.prog 169 [aE x,aE y] (aE (x / y)):=by
 refine bA.intro Tryz.func169 rfl Tryz.ntmps169 rfl (fun cx=>(ts (rn rfl (fK (Ht rfl)) fun B2=>(rn rfl (fK (Ht rfl)) fun B3=>(rn rfl (eW (Ts:=[Is (.bool false),Is (.slice none 0 0),Is (.bool false),Is (.slice none 0 0),Is (.slice none 0 0)]) O_32 rfl (fun V=>aW zd (aW zd (aW zd (aW zd (aW zd (aG))))))) fun B4=>(eX (ts (ro rfl (eJ A_32 Z_32 (Ht rfl) (i:=0) rfl rfl rfl) (ro rfl (aN aR (Ht rfl)) ?_)))))))))
 refine ro rfl (eJ A_32 Z_32 (Ht rfl) (i:=1) rfl rfl rfl) (ro rfl (aH iD K_142 (sP (x:=x) (y:=y) (L:=L) (M:=M) zo) (Ht rfl) ⟨(Ht rfl),trivial⟩) (rm rfl (ro rfl (dU (Ht rfl) rfl) (ro rfl (dU (Ht rfl) rfl) (rn rfl (eW (Ts:=[Is (.bool false),Is (.slice none 0 0),Is (.bool false),Is (.slice none 0 0),Is (.slice none 0 0)]) O_32 rfl (fun V=>aW zd (aW zd (aW zd (aW zd (aW zd (aG))))))) fun B5=>?_)))))
 refine gZ Z_32 (Ht rfl) (Ht rfl) rfl (i:=3) rfl (aK rfl) rfl rfl (ra rfl (eX (cK (ts (rm rfl (ro rfl (fL (Ht rfl) cV) (eX (cL (Ht rfl) (by simp [show ¬ y = Qi.zero from hz]) ?_))))))))
 refine cU (ts (ro rfl (eJ A_32 Z_32 (Ht rfl) (i:=3) rfl rfl rfl) (gZ Z_32 (Ht rfl) (Ht rfl) rfl (i:=2) rfl (aK rfl) rfl rfl (eX ?_))))
 exact fG rfl (fU A_32 Z_32 rfl (i:=2) rfl rfl)
theorem uJ {m:List (List Qi)}:bA Tryz.prog 163 [bF m,aF .i64 0] (bF m):=by
 refine bA.intro Tryz.func163 rfl Tryz.ntmps163 rfl (fun cx=>(ts (ro rfl (cQ cV) (eX (cK (ts (rm rfl (ro rfl (fL (Ht rfl) cV) (eX (cL (Ht rfl) (by simp) ?_))))))))))
 refine cU (ts (rm rfl (ra rfl (eX ?_))))
 exact fG rfl (eU rfl)
theorem uI {tl:List jX} {es:List Qi} {L:Nat} (hn:tl.length ≤ 1000) (he:es.length = tl.length) (hft:pI tl L) (hfe:cD es L) (hL1:1 ≤ L) (hL:L ≤ 1000000) (hz:∀ i,i < tl.length → gv es i ≠ 0):bA Tryz.prog 166 [mX tl es] (bP (lA tl es tl.length)):=by
 refine bA.intro Tryz.func166 rfl Tryz.ntmps166 rfl (fun cx=>(ts (rn rfl (fK (Ht rfl)) fun B1=>(ro rfl (cQ cV) (eX (ts (ro rfl (cQ cV) (eX (cK (cK (rG 32 5 (cY (ro rfl (eZ fT (Ht rfl) rfl) (ro rfl (eY A_142 Z_142 (Ht rfl) (i:=0) rfl rfl) (ro rfl (dK U_142 (Ht rfl) aC) (ro rfl (cX (cJ 0)) (eX (eG ?_))))))))))))))))))
 refine gO (fun (k : Nat) (v : Value) => k ≤ tl.length) (fun (k : Nat) (v : Value) => tl.length - k) (fun (k : Nat) (v : Value) => [(1, eH B1 0), (3, Is v), (7, rH tl), (8, NT .i64 tl.length), (9, NT .i64 k)]) (fun (k : Nat) (v : Value) => [box B1 145 [rH tl, bP es], bN 32 5 v ((tab k fun i => tT tl i / gv es i).map aE)]) 0 (.slice none 0 0) (Nat.zero_le _)
  (zS rfl) (aU (aP rfl) (aU (cA rfl) aY)) (fun k v hk=>?_)
 refine ts (ro rfl (gJ (Ht rfl) (Ht rfl)) (eX (cK (dQ (Ht rfl) (fun hb=>?_) (fun hb=>?_)))))
 ·simp only [decide_eq_true_eq] at hb
  haveI g1:=hft.t k; haveI g2:aI (gv es k) L:=hfe.get hL1 k
  have hlen:(tab k fun i=>tT tl i / gv es i).length = k:=bC _ _
  refine cU (cK (eG (ts (rm rfl (ro rfl (dZ U_142 Z_140 (Ht rfl) (Ht rfl) rfl (eQ (dY (d:=zY) hb))) (ro rfl (dV A_140 Z_140 (Ht rfl)) (rn rfl (eW (Ts:=[Is (.bool false),Is (.slice none 0 0),Is (.bool false),Is (.slice none 0 0),Is (.slice none 0 0),Is (.bool false),Is (.slice none 0 0),Is (.bool false),Is (.slice none 0 0),Is (.slice none 0 0),Is (.bool false),Is (.slice none 0 0),Is (.bool false),Is (.slice none 0 0),Is (.slice none 0 0)]) O_140 rfl (fun V=>aW zd (aW zd (aW zd (aW zd (aW zd (aW zd (aW zd (aW zd (aW zd (aW zd (aW zd (aW zd (aW zd (aW zd (aW zd (aG))))))))))))))))) fun B5=>?_)))))))
  refine ra rfl (gZ Z_140 (Ht rfl) (Ht rfl) rfl (i:=2) rfl (aK rfl) rfl rfl (eX (cC [0,1,2] rfl (by decide) (fJ (m:=10) (dp 3 rfl (cX (Ht rfl)) (dp 5 rfl (eZ kM (Ht rfl) rfl) (dq 15 1 rfl (eJ A_32 Z_32 (Ht rfl) (i:=2) rfl rfl rfl) (dp 1 rfl (eZ iN (Ht rfl) rfl) (dq 17 3 rfl (eY A_54 Z_54 (Ht rfl) (i:=0) rfl rfl) (dp 4 rfl (cX (Ht rfl)) (eD 18 4 19 5 rfl (dZ U_54 Z_32 (Ht rfl) (Ht rfl) rfl (eQ (dY (d:=Qi.zero) zo))) ?_)))))))))))
  refine dq 20 6 rfl (dV A_32 Z_32 (Ht rfl)) (eD 16 2 21 7 rfl (cZ K_169 (qN (x:=tT tl k) (y:=gv es k) (L:=L) (M:=L) zo (hz k hb)) ⟨(Ht rfl),(Ht rfl),trivial⟩) (dq 22 8 rfl (eO (xs:=[.tmp 22]) U_54 Z_32 O_32 (cW (Ht rfl) cG) rfl rfl rfl) (fW aT rfl (by kernel_rfl) (zF (zF (aJ (aJ (aV (nY (inf:=Tryz.t32) jW iJ rfl rfl rfl (Ht rfl) (Ht rfl) (i:=1) rfl (by simp) (fun T hT=>by simp at hT; subst hT; exact El.ag rfl) (by show _ * 88 ≤ _; simp only [List.length_map,hlen,List.length_cons,List.length_nil]; omega) (by simp only [List.length_map,hlen,List.length_cons,List.length_nil]; omega) rfl (fun v2=>?_))))))))))
  refine ra rfl (eX (cF (cY (ro rfl (dW (Ht rfl) (cJ 1) z6) (rm rfl (eX (cC [0,1] rfl (by decide) (gQ (k + 1,v2) hb (by dsimp only; omega) (zS rfl) (aU (aP rfl) (aU (cA ((sN aE _ (tT tl k / gv es k)).trans (congrArg _ (lZ k (fun i=>tT tl i / gv es i)).symm))) aY))))))))))
 ·simp only [decide_eq_false_iff_not] at hb
  obtain rfl:k = tl.length:=by omega
  refine gG rfl (cK (gW (i:=1) (tt:=3) rfl rfl kN (cY (rm rfl (ra rfl (eX ?_))))))
  exact fG rfl (eU rfl)
theorem Uk {tl:List jX} {es:List Qi} {n:Nat} {f:Nat → Nat → Qi} (hts:tl.length = n) (hn:n ≤ 1000):iH Tryz.prog 160 [mX tl es,vP Tryz.prog (Fin n × Fin n) (fun x=>[NT .i64 x.1.1,NT .i64 x.2.1]) (fun x=>aE (f x.1.1 x.2.1))] [] (Nat) (fun B=>Is (.slice (some ⟨B,0,none⟩) n n)) (fun B=>[nL B 54 32 5 (dD aE (tab n fun i=>tab n (f i)))]) (fun _=>True):=by
 refine iH.intro Tryz.func160 rfl Tryz.ntmps160 rfl (fun cx Z=>(ts (rn rfl (fK (Ht rfl)) fun B2=>(ro rfl (cQ cV) (eX (ts (ro rfl (eZ fT (Ht rfl) rfl) (ro rfl (eY A_142 Z_142 (Ht rfl) (i:=1) rfl rfl) (ro rfl (dK U_142 (Ht rfl) (by rw [aC,hts])) ?_)))))))))
 refine rn rfl (gN (T:=Is (.slice none 0 0)) (i:=Tryz.t54) V_78 mH rfl rfl (Ht rfl) rfl (fun _=>rfl) trivial (by show 24 * _ ≤ _; omega) zo) fun B11=>ra rfl (eX (cK (ts (rm rfl (ro rfl (iK U_78 (Ht rfl)) (ro rfl (cX (cJ 0)) (eX (eG (mB 2 rfl (oT (e:=32) (s:=5)) ?_)))))))))
 refine gO (fun (k : Nat) (m : List (List Qi)) => kL (fun i => tab n (f i)) n m k) (fun (k : Nat) (m : List (List Qi)) => n - k) (fun (k : Nat) (m : List (List Qi)) => [(1, vP Tryz.prog (Fin n × Fin n) (fun x => [NT .i64 x.1.1, NT .i64 x.2.1]) (fun x => aE (f x.1.1 x.2.1))), (2, eH B2 0), (5, Is (.slice (some ⟨B11, 0, none⟩) n n)), (13, NT .i64 n), (14, NT .i64 k)]) (fun (k : Nat) (m : List (List Qi)) => [Z, box B2 145 [rH tl, bP es], nL B11 54 32 5 (dD aE m)]) 0 (List.replicate n []) (kL.start _ _ _)
  (zS rfl) (aU (fun _ _ _ h=>h) (aU (aP rfl) (aU (dO (lW aE n)) aY))) (fun k m hS=>?_)
 refine ts (ro rfl (gJ (Ht rfl) (Ht rfl)) (eX (cK (dQ (Ht rfl) (fun hk=>?_) (fun hk=>?_)))))
 ·simp only [decide_eq_true_eq] at hk
  have hlen:=hS.len
  refine nN 2 (k) rfl (jZ (m:=m) (i:=k) zo) (fun v=>(cU (cK (eG (ts (rm rfl (ra rfl (eX (ts (rm rfl (rm rfl (ro rfl (eZ fT (Ht rfl) rfl) (ro rfl (eY A_142 Z_142 (Ht rfl) (i:=1) rfl rfl) (ro rfl (dK U_142 (Ht rfl) (by rw [aC,hts])) ?_))))))))))))))
  refine rn rfl (mP (T:=aE Qi.zero) (i:=Tryz.t32) jW iJ rfl rfl (Ht rfl) rfl iV (El.ag rfl) (by show 88 * _ ≤ _; omega) zo) fun B22=>ro rfl (gX U_78 Z_54 (Ht rfl) (Ht rfl) rfl zo (by rw [Nat.mul_one,Nat.zero_add])) ?_
  refine sH Z_54 (Ht rfl) (Ht rfl) (by simp; omega) (j:=2) (l:=4) rfl rfl rfl ?_
  refine eX (cK (cC [0,1,2,4] rfl (by decide) (cY (rm rfl (rm rfl (ro rfl (gX U_78 Z_54 (Ht rfl) (Ht rfl) rfl zo (by rw [Nat.mul_one,Nat.zero_add])) ?_))))))
  refine ro rfl (kR A_54 Z_54 (Ht rfl) (j:=2) rfl) (ro rfl (oY U_54 (Ht rfl) (i:=3) rfl (show ((List.replicate n (aE Qi.zero)).length:Int) = ((n:Nat):Int) by simp)) (ro rfl (cX (cJ 0)) (eX (eG ?_))))
  refine gO (fun (j : Nat) (out : List Qi) => kL (f k) n out j) (fun (j : Nat) (out : List Qi) => n - j) (fun (j : Nat) (out : List Qi) => [(1, vP Tryz.prog (Fin n × Fin n) (fun x => [NT .i64 x.1.1, NT .i64 x.2.1]) (fun x => aE (f x.1.1 x.2.1))), (2, eH B2 0), (5, Is (.slice (some ⟨B11, 0, none⟩) n n)), (6, NT .i64 k), (13, NT .i64 n), (14, NT .i64 k), (28, NT .i64 n), (29, NT .i64 j)]) (fun (j : Nat) (out : List Qi) => [Z, box B2 145 [rH tl, bP es], Fa B11 54 32 5 (dD aE m) k B22, bN 32 5 B22 (out.map aE)]) 0 (List.replicate n Qi.zero) (kL.start _ _ _)
   (zS rfl) (aU (fun _ _ _ h=>h) (aU (aP rfl) (aU (fun _ _ _ h=>h) (aU (cA (tW aE _ _)) aY)))) (fun j out hT=>?_)
  refine ts (ro rfl (gJ (Ht rfl) (Ht rfl)) (eX (cK (dQ (Ht rfl) (fun hj=>?_) (fun hj=>?_)))))
  ·simp only [decide_eq_true_eq] at hj
   have hlen2:=hT.len
   refine cU (cK (eG (ts (rm rfl (ra rfl (eX (fJ (m:=9) (dp 5 rfl (cX (Ht rfl)) (dp 6 rfl (cX (Ht rfl)) (eD 32 0 33 1 rfl (gX U_78 Z_54 (Ht rfl) (Ht rfl) rfl zo (by rw [Nat.mul_one,Nat.zero_add])) ?_))))))))))
   refine dq 34 2 rfl (kR A_54 Z_54 (Ht rfl) (j:=2) rfl) (dp 7 rfl (cX (Ht rfl)) (dp 1 rfl (cX (Ht rfl)) (dp 6 rfl (cX (Ht rfl)) (dp 7 rfl (cX (Ht rfl)) (C.D_step (Ei:=[(37,_),(38,_),(39,_)]) rfl rfl (bV (bG 5 rfl rfl) (bV (bG 6 rfl rfl) (bV (bG 7 rfl rfl) bW))) (dX rfl (oH ((⟨k,hk⟩,⟨j,hj⟩):Fin n × Fin n) (Ht rfl) ⟨(Ht rfl),(Ht rfl),trivial⟩)) (fW aT rfl (by kernel_rfl) (zF (zF (aJ (aV ?_))))))))))
   refine ro rfl (iX U_54 Z_32 (Ht rfl) (Ht rfl) rfl (i:=3) rfl (by first | omega | (simp; omega)) rfl) (rF Z_32 (Ht rfl) (Ht rfl) (El.ag rfl) (i:=3) rfl rfl (by first | omega | (simp; omega)) rfl (eX (cF (cY (ro rfl (dW (Ht rfl) (cJ 1) z6) (rm rfl (eX (gQ (j + 1,_) (hT.next hj rfl) (by dsimp only; omega) (zS rfl) (aU (fun _ _ _ h=>h) (aU (aP rfl) (aU (fun _ _ _ h=>h) (aU (cA (kB aE _ _ _)) aY))))))))))))
  ·simp only [decide_eq_false_iff_not] at hj
   obtain rfl:j = n:=Nat.le_antisymm hT.kle zo
   have hfin:=hT.fin
   refine gG rfl (cF (jM 2 3 rfl rfl (by decide) (by simp; omega) ?_))
   refine cY (ro rfl (dW (Ht rfl) (cJ 1) z6) (rm rfl (eX (cC [0,1,2] rfl (by decide) (gQ (k + 1,_) (hS.next hk hfin) (by dsimp only; omega) (zS rfl) (aU (fun _ _ _ h=>h) (aU (aP rfl) (aU (dO (jJ aE _ _ _)) aY))))))))
 ·simp only [decide_eq_false_iff_not] at hk
  obtain rfl:k = n:=Nat.le_antisymm hS.kle zo
  have hfin:=hS.fin
  refine gG rfl (ts (rm rfl (ra rfl (eX ?_))))
  exact kY B11 trivial [0,2] ⟨⟨_,rfl,fun _ _ _ h=>h⟩,⟨_,rfl,(dO (by rw [hfin]))⟩,trivial⟩ (by decide) (zX rfl (eU rfl))
theorem xF {tl:List jX} {es:List Qi} {n:Nat} {f:Nat → Nat → Qi} (hts:tl.length = n) (hn:n ≤ 1000):bA Tryz.prog 160 [mX tl es,vP Tryz.prog (Fin n × Fin n) (fun x=>[NT .i64 x.1.1,NT .i64 x.2.1]) (fun x=>aE (f x.1.1 x.2.1))] (bF (tab n fun i=>tab n (f i))):=(Uk hts hn).fun fun B _ v S V h1 h2=>nH (by simp [dD,List.map_map,Function.comp_def]) v V (Ck (by simp [dD,bC]) (Nat.le_refl _) v S V h1 h2)
theorem Ov {tl:List jX} {es:List Qi} {m:List (List Qi)} {n i k L M:Nat} (hts:tl.length = n) (hm:cI m n n) (hft:pI tl L) (hfm:aS m M) (hM1:1 ≤ M) (hL:L ≤ 1000000) (hM:M ≤ 1000000) (hi:i < n) (hk:k < n):bA Tryz.prog 161 [NT .i64 i,NT .i64 k,PT (mX tl es),PT (bF m)] (aE (Gc i k - tM tl i * gm m i k)):=by
 have hml:=hm.1
 have hmr:(m.getD i []).length = n:=hm.row hi
 haveI g1:=hft.m i; haveI g2:aI (gm m i k) M:=hfm.get hM1 i k; haveI g3:=wT i k
 refine bA.intro Tryz.func161 rfl Tryz.ntmps161 rfl (fun cx=>(ts (rn rfl (eW (Ts:=[Is (.bool false),Is (.slice none 0 0),Is (.bool false),Is (.slice none 0 0),Is (.slice none 0 0)]) O_32 rfl (fun V=>aW zd (aW zd (aW zd (aW zd (aW zd (aG))))))) fun B6=>(eX (cK (fJ (m:=19) (dp 0 rfl (cX (Ht rfl)) (dp 1 rfl (cX (Ht rfl)) (eD 7 0 8 1 rfl (cZ Tryz.call162 Ph ⟨(Ht rfl),(Ht rfl),trivial⟩) (dq 9 2 rfl (aN aR (Ht rfl)) ?_))))))))))
 refine dp 2 rfl (eC fT (Ht rfl) rfl) (dq 11 4 rfl (dV A_142 Z_142 (Ht rfl)) (dp 0 rfl (cX (Ht rfl)) (eD 12 5 13 6 rfl (dZ U_142 Z_140 (Ht rfl) (Ht rfl) rfl (eQ (dY (d:=zY) zo))) (dq 14 7 rfl (dJ (s:=5) xS (Ht rfl) rfl) (dq 15 8 rfl (dV A_32 Z_32 (Ht rfl)) (dq 16 9 rfl (aN aR (Ht rfl)) (dp 3 rfl (dV A_78 Z_78 (Ht rfl)) (dp 0 rfl (cX (Ht rfl)) (eD 18 11 19 12 rfl (dZ U_78 Z_54 (Ht rfl) (Ht rfl) rfl (eQ (dY (d:=[]) zo))) ?_)))))))))
 refine dq 20 13 rfl (dV A_54 Z_54 (Ht rfl)) (dp 1 rfl (cX (Ht rfl)) (eD 21 14 22 15 rfl (dZ U_54 Z_32 (Ht rfl) (Ht rfl) rfl (eQ (dY (d:=Qi.zero) zo))) (dq 23 16 rfl (dV A_32 Z_32 (Ht rfl)) (eD 17 10 24 17 rfl (aH bE K_29 (iQ (x:=tM tl i) (y:=gm m i k) (L:=L) (M:=M) zo) (Ht rfl) ⟨(Ht rfl),trivial⟩) (fW aT rfl (by kernel_rfl) (zF (zF (zF (zF (aJ (aJ (aJ (aV ?_)))))))))))))
 refine ro rfl (aH iE K_32 (sQ (x:=Gc i k) (y:=tM tl i * gm m i k) (L:=2) (M:=L + M + 1) zo) (Ht rfl) ⟨(Ht rfl),trivial⟩) (gZ Z_32 (Ht rfl) (Ht rfl) rfl (i:=0) rfl (aK rfl) rfl rfl (eX ?_))
 exact fG rfl (fU A_32 Z_32 rfl (i:=0) rfl rfl)
theorem a06 {tl:List jX} {es:List Qi} {m:List (List Qi)} {n i k L M:Nat} (hts:tl.length = n) (hm:cI m n n) (hft:pI tl L) (hfm:aS m M) (hM1:1 ≤ M) (hL:L ≤ 1000000) (hM:M ≤ 1000000) (hi:i < n) (hk:k < n):bA Tryz.prog 170 [NT .i64 i,NT .i64 k,PT (mX tl es),PT (bF m)] (aE (Gc i k + tM tl i * gm m i k)):=by
 have hml:=hm.1
 have hmr:(m.getD i []).length = n:=hm.row hi
 haveI g1:=hft.m i; haveI g2:aI (gm m i k) M:=hfm.get hM1 i k; haveI g3:=wT i k
 refine bA.intro Tryz.func170 rfl Tryz.ntmps170 rfl (fun cx=>(ts (rn rfl (eW (Ts:=[Is (.bool false),Is (.slice none 0 0),Is (.bool false),Is (.slice none 0 0),Is (.slice none 0 0)]) O_32 rfl (fun V=>aW zd (aW zd (aW zd (aW zd (aW zd (aG))))))) fun B6=>(eX (cK (fJ (m:=19) (dp 0 rfl (cX (Ht rfl)) (dp 1 rfl (cX (Ht rfl)) (eD 7 0 8 1 rfl (cZ Tryz.call162 Ph ⟨(Ht rfl),(Ht rfl),trivial⟩) (dq 9 2 rfl (aN aR (Ht rfl)) ?_))))))))))
 refine dp 2 rfl (eC fT (Ht rfl) rfl) (dq 11 4 rfl (dV A_142 Z_142 (Ht rfl)) (dp 0 rfl (cX (Ht rfl)) (eD 12 5 13 6 rfl (dZ U_142 Z_140 (Ht rfl) (Ht rfl) rfl (eQ (dY (d:=zY) zo))) (dq 14 7 rfl (dJ (s:=5) xS (Ht rfl) rfl) (dq 15 8 rfl (dV A_32 Z_32 (Ht rfl)) (dq 16 9 rfl (aN aR (Ht rfl)) (dp 3 rfl (dV A_78 Z_78 (Ht rfl)) (dp 0 rfl (cX (Ht rfl)) (eD 18 11 19 12 rfl (dZ U_78 Z_54 (Ht rfl) (Ht rfl) rfl (eQ (dY (d:=[]) zo))) ?_)))))))))
 refine dq 20 13 rfl (dV A_54 Z_54 (Ht rfl)) (dp 1 rfl (cX (Ht rfl)) (eD 21 14 22 15 rfl (dZ U_54 Z_32 (Ht rfl) (Ht rfl) rfl (eQ (dY (d:=Qi.zero) zo))) (dq 23 16 rfl (dV A_32 Z_32 (Ht rfl)) (eD 17 10 24 17 rfl (aH bE K_29 (iQ (x:=tM tl i) (y:=gm m i k) (L:=L) (M:=M) zo) (Ht rfl) ⟨(Ht rfl),trivial⟩) (fW aT rfl (by kernel_rfl) (zF (zF (zF (zF (aJ (aJ (aJ (aV ?_)))))))))))))
 refine ro rfl (aH jG K_33 (vB (x:=Gc i k) (y:=tM tl i * gm m i k) (L:=2) (M:=L + M + 1) zo) (Ht rfl) ⟨(Ht rfl),trivial⟩) (gZ Z_32 (Ht rfl) (Ht rfl) rfl (i:=0) rfl (aK rfl) rfl rfl (eX ?_))
 exact fG rfl (fU A_32 Z_32 rfl (i:=0) rfl rfl)
theorem a08 {tl:List jX} {es l:List Qi} {m:List (List Qi)} {n i k L M K:Nat} (hts:tl.length = n) (hes:es.length = n) (hl:l.length = n) (hm:cI m n n) (hft:pI tl L) (hfe:cD es L) (hfl:cD l K) (hfm:aS m M) (hL1:1 ≤ L) (hM1:1 ≤ M) (hK1:1 ≤ K) (hL:L ≤ 1000000) (hM:M ≤ 10000000) (hK:K ≤ 10000000) (hi:i < n) (hk:k < n):bA Tryz.prog 167 [NT .i64 i,NT .i64 k,PT (bP l),PT (bF m),PT (mX tl es)] (aE (rwE tl es l m i k)):=by
 have hml:=hm.1
 have hmr:(m.getD i []).length = n:=hm.row hi
 haveI g1:=hft.d i; haveI g2:aI (gm m i k) M:=hfm.get hM1 i k; haveI g3:aI (gv l i) K:=hfl.get hK1 i; haveI g4:aI (gv es k) L:=hfe.get hL1 k
 refine bA.intro Tryz.func167 rfl Tryz.ntmps167 rfl (fun cx=>(ts (rn rfl (eW (Ts:=[Is (.bool false),Is (.slice none 0 0),Is (.bool false),Is (.slice none 0 0),Is (.slice none 0 0)]) O_32 rfl (fun V=>aW zd (aW zd (aW zd (aW zd (aW zd (aG))))))) fun B7=>(eX (cK (fJ (m:=21) (dp 2 rfl (dV A_54 Z_54 (Ht rfl)) (dp 0 rfl (cX (Ht rfl)) (eD 9 0 10 1 rfl (dZ U_54 Z_32 (Ht rfl) (Ht rfl) rfl (eQ (dY (d:=Qi.zero) zo))) ?_)))))))))
 refine dq 11 2 rfl (dV A_32 Z_32 (Ht rfl)) (dq 12 3 rfl (aN aR (Ht rfl)) (dp 3 rfl (dV A_78 Z_78 (Ht rfl)) (dp 0 rfl (cX (Ht rfl)) (eD 14 5 15 6 rfl (dZ U_78 Z_54 (Ht rfl) (Ht rfl) rfl (eQ (dY (d:=[]) zo))) (dq 16 7 rfl (dV A_54 Z_54 (Ht rfl)) (dp 1 rfl (cX (Ht rfl)) (eD 17 8 18 9 rfl (dZ U_54 Z_32 (Ht rfl) (Ht rfl) rfl (eQ (dY (d:=Qi.zero) zo))) (dq 19 10 rfl (dV A_32 Z_32 (Ht rfl)) ?_))))))))
 refine eD 13 4 20 11 rfl (aH bE K_29 (iQ (x:=gv l i) (y:=gm m i k) (L:=K) (M:=M) zo) (Ht rfl) ⟨(Ht rfl),trivial⟩) (dq 21 12 rfl (aN aR (Ht rfl)) (dp 4 rfl (eC iN (Ht rfl) rfl) (dq 23 14 rfl (dV A_54 Z_54 (Ht rfl)) (dp 1 rfl (cX (Ht rfl)) (eD 24 15 25 16 rfl (dZ U_54 Z_32 (Ht rfl) (Ht rfl) rfl (eQ (dY (d:=Qi.zero) zo))) (dq 26 17 rfl (dV A_32 Z_32 (Ht rfl)) (eD 22 13 27 18 rfl (aH bE K_29 (iQ (x:=gv l i * gm m i k) (y:=gv es k) (L:=K + M + 1) (M:=L) zo) (Ht rfl) ⟨(Ht rfl),trivial⟩) ?_)))))))
 refine C.D_new (Ei:=[]) rfl rfl rfl bW (eW (Ts:=[Is (.bool false),Is (.slice none 0 0),Is (.bool false),Is (.slice none 0 0),Is (.slice none 0 0)]) O_32 rfl (fun V=>aW zd (aW zd (aW zd (aW zd (aW zd (aG))))))) (fW aT rfl (by kernel_rfl) (zF (zF (zF (zF (zF (C.F_new (fun B8=>aV ?_))))))))
 refine gZ Z_32 (Ht rfl) (Ht rfl) rfl (i:=1) rfl (aK rfl) rfl rfl (eX (cK (cK (cC [0,1] rfl (by decide) (cY (rm rfl (rm rfl (ro rfl (dN (Ht rfl) (Ht rfl)) (eX (dQ (Ht rfl) (fun hb=>?_) (fun hb=>?_)))))))))))
 ·simp only [decide_eq_true_eq] at hb
  refine fJ (m:=8) (dp 4 rfl (eC fT (Ht rfl) rfl) (dq 32 0 rfl (dV A_142 Z_142 (Ht rfl)) (dp 0 rfl (cX (Ht rfl)) (eD 33 1 34 2 rfl (dZ U_142 Z_140 (Ht rfl) (Ht rfl) rfl (eQ (dY (d:=zY) zo))) (dq 35 3 rfl (dJ (s:=5) sX (Ht rfl) rfl) (dq 36 4 rfl (dV A_32 Z_32 (Ht rfl)) (dq 37 5 rfl (aN aR (Ht rfl)) (dp 8 rfl (eJ A_32 Z_32 (Ht rfl) (i:=1) rfl rfl rfl) (fW aT rfl (by kernel_rfl) (zF (zF (aV ?_))))))))))))
  refine ro rfl (aH jG K_33 (vB (x:=tD tl i) (y:=(gv l i * gm m i k * gv es k)) (L:=L) (M:=K + M + 1 + L + 1) zo) (Ht rfl) ⟨(Ht rfl),trivial⟩) (gZ Z_32 (Ht rfl) (Ht rfl) rfl (i:=1) rfl (aK rfl) rfl rfl (eX (ts (ro rfl (eJ A_32 Z_32 (Ht rfl) (i:=1) rfl rfl rfl) (gZ Z_32 (Ht rfl) (Ht rfl) rfl (i:=0) rfl (aK rfl) rfl rfl (eX (fG rfl (fZ (fU A_32 Z_32 rfl (i:=0) rfl rfl) ?_))))))))
  exact (gM (by rw [rwE,if_pos hb]))
 ·simp only [decide_eq_false_iff_not] at hb
  refine cU (ts (ro rfl (eJ A_32 Z_32 (Ht rfl) (i:=1) rfl rfl rfl) (gZ Z_32 (Ht rfl) (Ht rfl) rfl (i:=0) rfl (aK rfl) rfl rfl (eX (fG rfl (fZ (fU A_32 Z_32 rfl (i:=0) rfl rfl) ?_))))))
  exact (gM (by rw [rwE,if_neg hb]))
theorem Ol {tl:List jX} {es l:List Qi} {m:List (List Qi)} {n i k L M K:Nat} (hts:tl.length = n) (hes:es.length = n) (hl:l.length = n) (hm:cI m n n) (hft:pI tl L) (hfe:cD es L) (hfl:cD l K) (hfm:aS m M) (hL1:1 ≤ L) (hM1:1 ≤ M) (hK1:1 ≤ K) (hL:L ≤ 1000000) (hM:M ≤ 1000000) (hK:K ≤ 10000000) (hi:i < n) (hk:k < n) (hz1:gv l i ≠ 0) (hz2:gv es k ≠ 0):bA Tryz.prog 168 [NT .i64 i,NT .i64 k,PT (bF m),PT (mX tl es),PT (bP l)] (aE (Vc tl es m l i k)):=by
 have hml:=hm.1
 have hmr:(m.getD i []).length = n:=hm.row hi
 haveI g1:=hft.d i; haveI g2:aI (gm m i k) M:=hfm.get hM1 i k; haveI g3:aI (gv l i) K:=hfl.get hK1 i; haveI g4:aI (gv es k) L:=hfe.get hL1 k
 refine bA.intro Tryz.func168 rfl Tryz.ntmps168 rfl (fun cx=>(ts (rn rfl (eW (Ts:=[Is (.bool false),Is (.slice none 0 0),Is (.bool false),Is (.slice none 0 0),Is (.slice none 0 0)]) O_32 rfl (fun V=>aW zd (aW zd (aW zd (aW zd (aW zd (aG))))))) fun B7=>(eX (ts (ro rfl (dV A_78 Z_78 (Ht rfl)) (rm rfl (ro rfl (dZ U_78 Z_54 (Ht rfl) (Ht rfl) rfl (eQ (dY (d:=[]) zo))) (ro rfl (dV A_54 Z_54 (Ht rfl)) ?_)))))))))
 refine rm rfl (ro rfl (dZ U_54 Z_32 (Ht rfl) (Ht rfl) rfl (eQ (dY (d:=Qi.zero) zo))) (ro rfl (dV A_32 Z_32 (Ht rfl)) (rn rfl (eW (Ts:=[Is (.bool false),Is (.slice none 0 0),Is (.bool false),Is (.slice none 0 0),Is (.slice none 0 0)]) O_32 rfl (fun V=>aW zd (aW zd (aW zd (aW zd (aW zd (aG))))))) fun B8=>(gZ Z_32 (Ht rfl) (Ht rfl) rfl (i:=1) rfl (aK rfl) rfl rfl ?_))))
 refine eX (cK (ts (rm rfl (rm rfl (ro rfl (dN (Ht rfl) (Ht rfl)) (eX (dQ (Ht rfl) (fun hb=>?_) (fun hb=>?_))))))))
 ·simp only [decide_eq_true_eq] at hb
  haveI g5:aI (gm m i k - tD tl i) (M + L + 1):=inferInstance
  refine fJ (m:=8) (dp 8 rfl (eJ A_32 Z_32 (Ht rfl) (i:=1) rfl rfl rfl) (dq 19 0 rfl (aN aR (Ht rfl)) (dp 3 rfl (eC fT (Ht rfl) rfl) (dq 21 2 rfl (dV A_142 Z_142 (Ht rfl)) (dp 0 rfl (cX (Ht rfl)) (eD 22 3 23 4 rfl (dZ U_142 Z_140 (Ht rfl) (Ht rfl) rfl (eQ (dY (d:=zY) zo))) (dq 24 5 rfl (dJ (s:=5) sX (Ht rfl) rfl) (dq 25 6 rfl (dV A_32 Z_32 (Ht rfl)) (fW aT rfl (by kernel_rfl) (zF (zF (aV ?_))))))))))))
  refine ro rfl (aH iE K_32 (sQ (x:=gm m i k) (y:=tD tl i) (L:=M) (M:=L) zo) (Ht rfl) ⟨(Ht rfl),trivial⟩) (gZ Z_32 (Ht rfl) (Ht rfl) rfl (i:=1) rfl (aK rfl) rfl rfl (eX (cK (fJ (m:=11) (dp 8 rfl (eJ A_32 Z_32 (Ht rfl) (i:=1) rfl rfl rfl) (dp 4 rfl (dV A_54 Z_54 (Ht rfl)) (dp 0 rfl (cX (Ht rfl)) (eD 29 1 30 2 rfl (dZ U_54 Z_32 (Ht rfl) (Ht rfl) rfl (eQ (dY (d:=Qi.zero) zo))) (dq 31 3 rfl (dV A_32 Z_32 (Ht rfl)) ?_)))))))))
  refine eD 28 0 32 4 rfl (cZ K_169 (qN (x:=(gm m i k - tD tl i)) (y:=gv l i) (L:=M + L + 1) (M:=K) zo hz1) ⟨(Ht rfl),(Ht rfl),trivial⟩) (dp 3 rfl (eC iN (Ht rfl) rfl) (dq 34 6 rfl (dV A_54 Z_54 (Ht rfl)) (dp 1 rfl (cX (Ht rfl)) (eD 35 7 36 8 rfl (dZ U_54 Z_32 (Ht rfl) (Ht rfl) rfl (eQ (dY (d:=Qi.zero) zo))) (dq 37 9 rfl (dV A_32 Z_32 (Ht rfl)) (fW aT rfl (by kernel_rfl) (zF (zF (aJ (aJ (aJ (aV ?_))))))))))))
  refine ro rfl (cZ K_169 (qN (x:=(gm m i k - tD tl i) / gv l i) (y:=gv es k) (L:=M + L + 1 + 3 * K + 2) (M:=L) zo hz2) ⟨(Ht rfl),(Ht rfl),trivial⟩) (gZ Z_32 (Ht rfl) (Ht rfl) rfl (i:=0) rfl (aK rfl) rfl rfl (eX (fG rfl (fZ (fU A_32 Z_32 rfl (i:=0) rfl rfl) ?_))))
  exact (gM (by rw [Vc,if_pos hb]))
 ·simp only [decide_eq_false_iff_not] at hb
  haveI g5:aI (gm m i k) (M + L + 1):=aI.le (L:=M) inferInstance zo
  refine cU (cK (fJ (m:=11) (dp 8 rfl (eJ A_32 Z_32 (Ht rfl) (i:=1) rfl rfl rfl) (dp 4 rfl (dV A_54 Z_54 (Ht rfl)) (dp 0 rfl (cX (Ht rfl)) (eD 29 1 30 2 rfl (dZ U_54 Z_32 (Ht rfl) (Ht rfl) rfl (eQ (dY (d:=Qi.zero) zo))) (dq 31 3 rfl (dV A_32 Z_32 (Ht rfl)) (eD 28 0 32 4 rfl (cZ K_169 (qN (x:=(gm m i k)) (y:=gv l i) (L:=M + L + 1) (M:=K) zo hz1) ⟨(Ht rfl),(Ht rfl),trivial⟩) (dp 3 rfl (eC iN (Ht rfl) rfl) ?_)))))))))
  refine dq 34 6 rfl (dV A_54 Z_54 (Ht rfl)) (dp 1 rfl (cX (Ht rfl)) (eD 35 7 36 8 rfl (dZ U_54 Z_32 (Ht rfl) (Ht rfl) rfl (eQ (dY (d:=Qi.zero) zo))) (dq 37 9 rfl (dV A_32 Z_32 (Ht rfl)) (fW aT rfl (by kernel_rfl) (zF (zF (aJ (aJ (aJ (aV (ro rfl (cZ K_169 (qN (x:=(gm m i k) / gv l i) (y:=gv es k) (L:=M + L + 1 + 3 * K + 2) (M:=L) zo hz2) ⟨(Ht rfl),(Ht rfl),trivial⟩) ?_)))))))))))
  refine gZ Z_32 (Ht rfl) (Ht rfl) rfl (i:=0) rfl (aK rfl) rfl rfl (eX (fG rfl (fZ (fU A_32 Z_32 rfl (i:=0) rfl rfl) ?_)))
  exact (gM (by rw [Vc,if_neg hb]))
end
section
open Go Go.RowKit
theorem Ln {n : Nat} {E : cB} {H : Hp} {d : Option Tmp} {t : TypeId} {pos : String} {af : Array Edge} {g : Option (Nat × Bool)} {x0 : Operand} {T0 : Ty} [s0 : dI T0 1 false] (h0 : aA E x0 T0) :
  aM Tryz.prog n E H ⟨d,.build 299 #[(0,x0)],t,pos,af,g⟩ (dL [T0]) :=
 iY (parts := [(0, x0)]) fun a V w hs => by
  have p0:=h0 n V a hs
  generalize e0:a.eval x0 = v0 at p0
  have q0:=(s0.ok v0 V p0).2.2 rfl
  refine ⟨.agg #[v0],?_,[v0],rfl,aW (⟨p0,q0⟩) (aG)⟩
  simp [e0,Instr.build,Instr.fill,Sem.run_bind,Result.andThen,iB,q0.cells,Tryz.zeroValue299,Tryz.runUnderlying299,Z_33]
theorem Qv (v:Value) (w:World):(Instr.makeInterface 299 v).run Tryz.prog w = .ok (.iface 299 v) w:=by
 simp [Instr.makeInterface,Sem.run_bind,Result.andThen,Tryz.runUnderlying299]
end
section
open Go Go.RowKit
theorem Vy {e : Int} : ∀ v V, (IfT 299 (dL [aF .i64 e])).p v V → (Is (qH e)).p v V := fun v V h => by
 obtain ⟨u,rfl,cs,rfl,hc⟩:=h
 obtain ⟨x,e1,e2⟩:=hc.get (i:=0) rfl
 have hl:cs.length = 1:=hc.length
 cases e2
 match cs,hl,e1 with
 | [x],_,e1=>simp at e1; subst e1; rfl
theorem Dl {l:List Qi} {i:Nat} (h:i < l.length) (hz:gv l i = Qi.zero):l[i]? = some Qi.zero:=(dY h).trans (congrArg some hz)
theorem xD {x:Qi} {L:Nat} [hx:aI x L] (h:L ≤ 1000000000):uE Tryz.prog 169 [aE x,aE Qi.zero] (qH 3):=by
 haveI h0:aI Qi.zero 1:=aI.zero (by decide)
 refine uE.intro Tryz.func169 rfl Tryz.ntmps169 rfl (fun cx=>?_)
 refine cK ?_
 refine cY ?_
 refine dH rfl rfl rfl (fK (aA.t rfl)) (fun B2=>?_)
 refine dH rfl rfl rfl (fK (aA.t rfl)) (fun B3=>?_)
 refine dH rfl rfl rfl (eW (Ts:=[Is (.bool false),Is (.slice none 0 0),Is (.bool false),Is (.slice none 0 0),Is (.slice none 0 0)]) O_32 rfl (fun V=>aW zd (aW zd (aW zd (aW zd (aW zd (aG))))))) (fun B4=>?_)
 refine eX ?_
 refine cK ?_
 refine cY ?_
 refine aB rfl rfl rfl (eJ A_32 Z_32 (aA.t rfl) (i:=0) rfl rfl rfl) ?_
 refine aB rfl rfl rfl (aN aR (aA.t rfl)) ?_
 refine aB rfl rfl rfl (eJ A_32 Z_32 (aA.t rfl) (i:=1) rfl rfl rfl) ?_
 refine aB rfl rfl rfl (aH iD K_142 (sP (x:=x) (y:=Qi.zero) (L:=L) (M:=1) zo) (aA.t rfl) ⟨(aA.t rfl),trivial⟩) ?_
 refine aB rfl rfl rfl (cX (aA.t rfl)) ?_
 refine aB rfl rfl rfl (dU (aA.t rfl) rfl) ?_
 refine aB rfl rfl rfl (dU (aA.t rfl) rfl) ?_
 refine dH rfl rfl rfl (eW (Ts:=[Is (.bool false),Is (.slice none 0 0),Is (.bool false),Is (.slice none 0 0),Is (.slice none 0 0)]) O_32 rfl (fun V=>aW zd (aW zd (aW zd (aW zd (aW zd (aG))))))) (fun B5=>?_)
 refine gZ Z_32 (aA.t rfl) (aA.t rfl) rfl (i:=3) rfl (aK rfl) rfl rfl ?_
 refine aB rfl rfl rfl (cQ (aA.t rfl)) ?_
 refine eX ?_
 refine cK ?_
 refine cK ?_
 refine cY ?_
 refine aB rfl rfl rfl (cX (aA.t rfl)) ?_
 refine aB rfl rfl rfl (fL (aA.t rfl) cV) ?_
 refine eX ?_
 refine iS (aA.t rfl) (by simp) ?_
 refine cY ?_
 refine aB rfl rfl rfl (cX (aA.t rfl)) ?_
 refine aB rfl rfl rfl (Ln (aA.t rfl)) ?_
 refine aB rfl rfl rfl (aM.imp (aN Qv (aA.t rfl)) (Vy (e:=3))) ?_
 exact Tn (aA.t rfl) Dv.pan
theorem Gx {tl:List jX} {es:List Qi} {L k0:Nat} (hn:tl.length ≤ 1000) (he:es.length = tl.length) (hft:pI tl L) (hfe:cD es L) (hL1:1 ≤ L) (hL:L ≤ 1000000) (hk0:k0 < tl.length) (hz:∀ i,i < k0 → gv es i ≠ 0) (h0:gv es k0 = Qi.zero):uE Tryz.prog 166 [mX tl es] (qH 3):=by
 refine uE.intro Tryz.func166 rfl Tryz.ntmps166 rfl (fun cx=>?_)
 refine cK ?_
 refine cY ?_
 refine dH rfl rfl rfl (fK (aA.t rfl)) (fun B1=>?_)
 refine aB rfl rfl rfl (cQ cV) ?_
 refine eX ?_
 refine cK ?_
 refine cY ?_
 refine aB rfl rfl rfl (cQ cV) ?_
 refine eX ?_
 refine cK ?_
 refine cK ?_
 refine rG 32 5 ?_
 refine cY ?_
 refine aB rfl rfl rfl (eZ fT (aA.t rfl) rfl) ?_
 refine aB rfl rfl rfl (eY A_142 Z_142 (aA.t rfl) (i:=0) rfl rfl) ?_
 refine aB rfl rfl rfl (dK U_142 (aA.t rfl) aC) ?_
 refine aB rfl rfl rfl (cX (cJ 0)) ?_
 refine eX ?_
 refine eG ?_
 refine gO (fun (k : Nat) (v : Value) => k ≤ k0) (fun (k : Nat) (v : Value) => k0 + 1 - k) (fun (k : Nat) (v : Value) => [(1, eH B1 0), (3, Is v), (7, rH tl), (8, NT .i64 tl.length), (9, NT .i64 k)]) (fun (k : Nat) (v : Value) => [box B1 145 [rH tl, bP es], bN 32 5 v ((tab k fun i => tT tl i / gv es i).map aE)]) 0 (.slice none 0 0) (Nat.zero_le _)
  (zS rfl) (aU (aP rfl) (aU (cA rfl) aY)) (fun k v hk=>?_)
 refine cK ?_
 refine cY ?_
 refine aB rfl rfl rfl (gJ (aA.t rfl) (aA.t rfl)) ?_
 refine eX ?_
 refine cK ?_
 refine iS (aA.t rfl) (by simp only [decide_eq_true_eq]; omega) ?_
 haveI g1:=hft.t k; haveI g2:aI (gv es k) L:=hfe.get hL1 k
 have hlen:(tab k fun i=>tT tl i / gv es i).length = k:=bC _ _
 have hb:k < tl.length:=by omega
 refine cU ?_
 refine cK ?_
 refine eG ?_
 refine cK ?_
 refine cY ?_
 refine aB rfl rfl rfl (cX (aA.t rfl)) ?_
 refine aB rfl rfl rfl (dZ U_142 Z_140 (aA.t rfl) (aA.t rfl) rfl (eQ (dY (d:=zY) hb))) ?_
 refine aB rfl rfl rfl (dV A_140 Z_140 (aA.t rfl)) ?_
 refine dH rfl rfl rfl (eW (Ts:=[Is (.bool false),Is (.slice none 0 0),Is (.bool false),Is (.slice none 0 0),Is (.slice none 0 0),Is (.bool false),Is (.slice none 0 0),Is (.bool false),Is (.slice none 0 0),Is (.slice none 0 0),Is (.bool false),Is (.slice none 0 0),Is (.bool false),Is (.slice none 0 0),Is (.slice none 0 0)]) O_140 rfl (fun V=>aW zd (aW zd (aW zd (aW zd (aW zd (aW zd (aW zd (aW zd (aW zd (aW zd (aW zd (aW zd (aW zd (aW zd (aW zd (aG))))))))))))))))) (fun B5=>?_)
 refine aB rfl rfl rfl (cQ (aA.t rfl)) ?_
 refine gZ Z_140 (aA.t rfl) (aA.t rfl) rfl (i:=2) rfl (aK rfl) rfl rfl ?_
 refine eX ?_
 refine cC [0,1,2] rfl (by decide) ?_
 by_cases hk2:k = k0
 ·subst hk2
  refine X.D_start (m:=10) ?_
  refine X.D_step (Ei:=[(3,_)]) rfl rfl (Srcs.cons (Src.pre rfl rfl) Srcs.nil) (dX rfl (cX (aA.t rfl))) ?_
  refine X.D_step (Ei:=[(5,_)]) rfl rfl (Srcs.cons (Src.pre rfl rfl) Srcs.nil) (dX rfl (eZ kM (aA.t rfl) rfl)) ?_
  refine X.D_step (Ei:=[(15,_)]) rfl rfl (Srcs.cons (Src.op 1 rfl rfl) Srcs.nil) (dX rfl (eJ A_32 Z_32 (aA.t rfl) (i:=2) rfl rfl rfl)) ?_
  refine X.D_step (Ei:=[(1,_)]) rfl rfl (Srcs.cons (Src.pre rfl rfl) Srcs.nil) (dX rfl (eZ iN (aA.t rfl) rfl)) ?_
  refine X.D_step (Ei:=[(17,_)]) rfl rfl (Srcs.cons (Src.op 3 rfl rfl) Srcs.nil) (dX rfl (eY A_54 Z_54 (aA.t rfl) (i:=0) rfl rfl)) ?_
  refine X.D_step (Ei:=[(4,_)]) rfl rfl (Srcs.cons (Src.pre rfl rfl) Srcs.nil) (dX rfl (cX (aA.t rfl))) ?_
  refine X.D_step (Ei:=[(18,_),(19,_)]) rfl rfl (Srcs.cons (Src.op 4 rfl rfl) (Srcs.cons (Src.op 5 rfl rfl) Srcs.nil)) (dX rfl (dZ U_54 Z_32 (aA.t rfl) (aA.t rfl) rfl (eQ (a:=Qi.zero) (Dl zo h0)))) ?_
  refine X.D_step (Ei:=[(20,_)]) rfl rfl (Srcs.cons (Src.op 6 rfl rfl) Srcs.nil) (dX rfl (dV A_32 Z_32 (aA.t rfl))) ?_
  refine X.D_dead (Ei:=[(16,_),(21,_)]) rfl (Srcs.cons (Src.op 2 rfl rfl) (Srcs.cons (Src.op 7 rfl rfl) Srcs.nil)) (xI K_169 (xD (x:=tT tl k) (L:=L) zo) Dv.pan rfl ⟨(aA.t rfl),(aA.t rfl),trivial⟩) ?_
  refine X.D_dep 8 rfl rfl ?_
  refine X.D_dep 9 rfl rfl ?_
  refine X.D_dep 10 rfl rfl ?_
  exact X.D_end 8 aT (by kernel_rfl) rfl
 ·have hlt : k < k0 := by omega
  refine fJ (m:=10) ?_
  refine C.D_step (Ei:=[(3,_)]) rfl rfl (bV (bK rfl rfl) bW) (dX rfl (cX (aA.t rfl))) ?_
  refine C.D_step (Ei:=[(5,_)]) rfl rfl (bV (bK rfl rfl) bW) (dX rfl (eZ kM (aA.t rfl) rfl)) ?_
  refine C.D_step (Ei:=[(15,_)]) rfl rfl (bV (bG 1 rfl rfl) bW) (dX rfl (eJ A_32 Z_32 (aA.t rfl) (i:=2) rfl rfl rfl)) ?_
  refine C.D_step (Ei:=[(1,_)]) rfl rfl (bV (bK rfl rfl) bW) (dX rfl (eZ iN (aA.t rfl) rfl)) ?_
  refine C.D_step (Ei:=[(17,_)]) rfl rfl (bV (bG 3 rfl rfl) bW) (dX rfl (eY A_54 Z_54 (aA.t rfl) (i:=0) rfl rfl)) ?_
  refine C.D_step (Ei:=[(4,_)]) rfl rfl (bV (bK rfl rfl) bW) (dX rfl (cX (aA.t rfl))) ?_
  refine C.D_step (Ei:=[(18,_),(19,_)]) rfl rfl (bV (bG 4 rfl rfl) (bV (bG 5 rfl rfl) bW)) (dX rfl (dZ U_54 Z_32 (aA.t rfl) (aA.t rfl) rfl (eQ (dY (d:=Qi.zero) zo)))) ?_
  refine C.D_step (Ei:=[(20,_)]) rfl rfl (bV (bG 6 rfl rfl) bW) (dX rfl (dV A_32 Z_32 (aA.t rfl))) ?_
  refine C.D_step (Ei:=[(16,_),(21,_)]) rfl rfl (bV (bG 2 rfl rfl) (bV (bG 7 rfl rfl) bW)) (dX rfl (cZ K_169 (qN (x:=tT tl k) (y:=gv es k) (L:=L) (M:=L) zo (hz k hlt)) ⟨(aA.t rfl),(aA.t rfl),trivial⟩)) ?_
  refine C.D_step (Ei:=[(22,_)]) rfl rfl (bV (bG 8 rfl rfl) bW) (dX rfl (eO (xs:=[.tmp 22]) U_54 Z_32 O_32 (cW (aA.t rfl) cG) rfl rfl rfl)) ?_
  refine fW aT rfl (by kernel_rfl) (zF (zF (aJ (aJ (aV ?_)))))
  refine nY (inf:=Tryz.t32) jW iJ rfl rfl rfl (aA.t rfl) (aA.t rfl) (i:=1) rfl (by simp) (fun T hT=>by simp at hT; subst hT; exact El.ag rfl) (by show _ * 88 ≤ _; simp only [List.length_map,hlen,List.length_cons,List.length_nil]; omega) (by simp only [List.length_map,hlen,List.length_cons,List.length_nil]; omega) rfl (fun v2=>?_)
  refine aB rfl rfl rfl (cQ (aA.t rfl)) ?_
  refine eX ?_
  refine cF ?_
  refine cY ?_
  refine aB rfl rfl rfl (dW (aA.t rfl) (cJ 1) z6) ?_
  refine aB rfl rfl rfl (cX (aA.t rfl)) ?_
  refine eX ?_
  refine cC [0,1] rfl (by decide) ?_
  refine gQ (k + 1,v2) hlt (by dsimp only; omega) (zS rfl) (aU (aP rfl) (aU (cA ((sN aE _ (tT tl k / gv es k)).trans (congrArg _ (lZ k (fun i=>tT tl i / gv es i)).symm))) aY))
theorem Uc {tl:List jX} {es l:List Qi} {m:List (List Qi)} {n i k L M K:Nat} (hts:tl.length = n) (hes:es.length = n) (hl:l.length = n) (hm:cI m n n) (hft:pI tl L) (hfe:cD es L) (hfl:cD l K) (hfm:aS m M) (hL1:1 ≤ L) (hM1:1 ≤ M) (hK1:1 ≤ K) (hL:L ≤ 1000000) (hM:M ≤ 1000000) (hK:K ≤ 10000000) (hi:i < n) (hk:k < n) (hz1:gv l i = Qi.zero):uE Tryz.prog 168 [NT .i64 i,NT .i64 k,PT (bF m),PT (mX tl es),PT (bP l)] (qH 3):=by
 have hml:=hm.1
 have hmr:(m.getD i []).length = n:=hm.row hi
 haveI g1:=hft.d i; haveI g2:aI (gm m i k) M:=hfm.get hM1 i k; haveI g3:aI (gv l i) K:=hfl.get hK1 i; haveI g4:aI (gv es k) L:=hfe.get hL1 k
 refine uE.intro Tryz.func168 rfl Tryz.ntmps168 rfl (fun cx=>?_)
 refine cK ?_
 refine cY ?_
 refine dH rfl rfl rfl (eW (Ts:=[Is (.bool false),Is (.slice none 0 0),Is (.bool false),Is (.slice none 0 0),Is (.slice none 0 0)]) O_32 rfl (fun V=>aW zd (aW zd (aW zd (aW zd (aW zd (aG))))))) (fun B7=>?_)
 refine eX ?_
 refine cK ?_
 refine cY ?_
 refine aB rfl rfl rfl (dV A_78 Z_78 (aA.t rfl)) ?_
 refine aB rfl rfl rfl (cX (aA.t rfl)) ?_
 refine aB rfl rfl rfl (dZ U_78 Z_54 (aA.t rfl) (aA.t rfl) rfl (eQ (dY (d:=[]) zo))) ?_
 refine aB rfl rfl rfl (dV A_54 Z_54 (aA.t rfl)) ?_
 refine aB rfl rfl rfl (cX (aA.t rfl)) ?_
 refine aB rfl rfl rfl (dZ U_54 Z_32 (aA.t rfl) (aA.t rfl) rfl (eQ (dY (d:=Qi.zero) zo))) ?_
 refine aB rfl rfl rfl (dV A_32 Z_32 (aA.t rfl)) ?_
 refine dH rfl rfl rfl (eW (Ts:=[Is (.bool false),Is (.slice none 0 0),Is (.bool false),Is (.slice none 0 0),Is (.slice none 0 0)]) O_32 rfl (fun V=>aW zd (aW zd (aW zd (aW zd (aW zd (aG))))))) (fun B8=>?_)
 refine gZ Z_32 (aA.t rfl) (aA.t rfl) rfl (i:=1) rfl (aK rfl) rfl rfl ?_
 refine eX ?_
 refine cK ?_
 refine cK ?_
 refine cY ?_
 refine aB rfl rfl rfl (cX (aA.t rfl)) ?_
 refine aB rfl rfl rfl (cX (aA.t rfl)) ?_
 refine aB rfl rfl rfl (dN (aA.t rfl) (aA.t rfl)) ?_
 refine eX ?_
 refine dQ (aA.t rfl) (fun hb=>?_) (fun hb=>?_)
 ·simp only [decide_eq_true_eq] at hb
  haveI g5:aI (gm m i k - tD tl i) (M + L + 1):=inferInstance
  refine fJ (m:=8) ?_
  refine C.D_step (Ei:=[(8,_)]) rfl rfl (bV (bK rfl rfl) bW) (dX rfl (eJ A_32 Z_32 (aA.t rfl) (i:=1) rfl rfl rfl)) ?_
  refine C.D_step (Ei:=[(19,_)]) rfl rfl (bV (bG 0 rfl rfl) bW) (dX rfl (aN aR (aA.t rfl))) ?_
  refine C.D_step (Ei:=[(3,_)]) rfl rfl (bV (bK rfl rfl) bW) (dX rfl (eC fT (aA.t rfl) rfl)) ?_
  refine C.D_step (Ei:=[(21,_)]) rfl rfl (bV (bG 2 rfl rfl) bW) (dX rfl (dV A_142 Z_142 (aA.t rfl))) ?_
  refine C.D_step (Ei:=[(0,_)]) rfl rfl (bV (bK rfl rfl) bW) (dX rfl (cX (aA.t rfl))) ?_
  refine C.D_step (Ei:=[(22,_),(23,_)]) rfl rfl (bV (bG 3 rfl rfl) (bV (bG 4 rfl rfl) bW)) (dX rfl (dZ U_142 Z_140 (aA.t rfl) (aA.t rfl) rfl (eQ (dY (d:=zY) zo)))) ?_
  refine C.D_step (Ei:=[(24,_)]) rfl rfl (bV (bG 5 rfl rfl) bW) (dX rfl (dJ (s:=5) sX (aA.t rfl) rfl)) ?_
  refine C.D_step (Ei:=[(25,_)]) rfl rfl (bV (bG 6 rfl rfl) bW) (dX rfl (dV A_32 Z_32 (aA.t rfl))) ?_
  refine fW aT rfl (by kernel_rfl) (zF (zF (aV ?_)))
  refine aB rfl rfl rfl (aH iE K_32 (sQ (x:=gm m i k) (y:=tD tl i) (L:=M) (M:=L) zo) (aA.t rfl) ⟨(aA.t rfl),trivial⟩) ?_
  refine gZ Z_32 (aA.t rfl) (aA.t rfl) rfl (i:=1) rfl (aK rfl) rfl rfl ?_
  refine eX ?_
  refine cK ?_
  refine X.D_start (m:=11) ?_
  refine X.D_step (Ei:=[(8,_)]) rfl rfl (Srcs.cons (Src.pre rfl rfl) Srcs.nil) (dX rfl (eJ A_32 Z_32 (aA.t rfl) (i:=1) rfl rfl rfl)) ?_
  refine X.D_step (Ei:=[(4,_)]) rfl rfl (Srcs.cons (Src.pre rfl rfl) Srcs.nil) (dX rfl (dV A_54 Z_54 (aA.t rfl))) ?_
  refine X.D_step (Ei:=[(0,_)]) rfl rfl (Srcs.cons (Src.pre rfl rfl) Srcs.nil) (dX rfl (cX (aA.t rfl))) ?_
  refine X.D_step (Ei:=[(29,_),(30,_)]) rfl rfl (Srcs.cons (Src.op 1 rfl rfl) (Srcs.cons (Src.op 2 rfl rfl) Srcs.nil)) (dX rfl (dZ U_54 Z_32 (aA.t rfl) (aA.t rfl) rfl (eQ (a:=Qi.zero) (Dl zo hz1)))) ?_
  refine X.D_step (Ei:=[(31,_)]) rfl rfl (Srcs.cons (Src.op 3 rfl rfl) Srcs.nil) (dX rfl (dV A_32 Z_32 (aA.t rfl))) ?_
  refine X.D_dead (Ei:=[(28,_),(32,_)]) rfl (Srcs.cons (Src.op 0 rfl rfl) (Srcs.cons (Src.op 4 rfl rfl) Srcs.nil)) (xI K_169 (xD (x:=(gm m i k - tD tl i)) (L:=M + L + 1) zo) Dv.pan rfl ⟨(aA.t rfl),(aA.t rfl),trivial⟩) ?_
  refine X.D_step (Ei:=[(3,_)]) rfl rfl (Srcs.cons (Src.pre rfl rfl) Srcs.nil) (dX rfl (eC iN (aA.t rfl) rfl)) ?_
  refine X.D_step (Ei:=[(34,_)]) rfl rfl (Srcs.cons (Src.op 6 rfl rfl) Srcs.nil) (dX rfl (dV A_54 Z_54 (aA.t rfl))) ?_
  refine X.D_step (Ei:=[(1,_)]) rfl rfl (Srcs.cons (Src.pre rfl rfl) Srcs.nil) (dX rfl (cX (aA.t rfl))) ?_
  refine X.D_step (Ei:=[(35,_),(36,_)]) rfl rfl (Srcs.cons (Src.op 7 rfl rfl) (Srcs.cons (Src.op 8 rfl rfl) Srcs.nil)) (dX rfl (dZ U_54 Z_32 (aA.t rfl) (aA.t rfl) rfl (eQ (dY (d:=Qi.zero) zo)))) ?_
  refine X.D_step (Ei:=[(37,_)]) rfl rfl (Srcs.cons (Src.op 9 rfl rfl) Srcs.nil) (dX rfl (dV A_32 Z_32 (aA.t rfl))) ?_
  refine X.D_dep 5 rfl rfl ?_
  refine X.D_dep 11 rfl rfl ?_
  exact X.D_end 5 aT (by kernel_rfl) rfl
 ·simp only [decide_eq_false_iff_not] at hb
  haveI g5:aI (gm m i k) (M + L + 1):=aI.le (L:=M) inferInstance zo
  refine cU ?_
  refine cK ?_
  refine X.D_start (m:=11) ?_
  refine X.D_step (Ei:=[(8,_)]) rfl rfl (Srcs.cons (Src.pre rfl rfl) Srcs.nil) (dX rfl (eJ A_32 Z_32 (aA.t rfl) (i:=1) rfl rfl rfl)) ?_
  refine X.D_step (Ei:=[(4,_)]) rfl rfl (Srcs.cons (Src.pre rfl rfl) Srcs.nil) (dX rfl (dV A_54 Z_54 (aA.t rfl))) ?_
  refine X.D_step (Ei:=[(0,_)]) rfl rfl (Srcs.cons (Src.pre rfl rfl) Srcs.nil) (dX rfl (cX (aA.t rfl))) ?_
  refine X.D_step (Ei:=[(29,_),(30,_)]) rfl rfl (Srcs.cons (Src.op 1 rfl rfl) (Srcs.cons (Src.op 2 rfl rfl) Srcs.nil)) (dX rfl (dZ U_54 Z_32 (aA.t rfl) (aA.t rfl) rfl (eQ (a:=Qi.zero) (Dl zo hz1)))) ?_
  refine X.D_step (Ei:=[(31,_)]) rfl rfl (Srcs.cons (Src.op 3 rfl rfl) Srcs.nil) (dX rfl (dV A_32 Z_32 (aA.t rfl))) ?_
  refine X.D_dead (Ei:=[(28,_),(32,_)]) rfl (Srcs.cons (Src.op 0 rfl rfl) (Srcs.cons (Src.op 4 rfl rfl) Srcs.nil)) (xI K_169 (xD (x:=(gm m i k)) (L:=M + L + 1) zo) Dv.pan rfl ⟨(aA.t rfl),(aA.t rfl),trivial⟩) ?_
  refine X.D_step (Ei:=[(3,_)]) rfl rfl (Srcs.cons (Src.pre rfl rfl) Srcs.nil) (dX rfl (eC iN (aA.t rfl) rfl)) ?_
  refine X.D_step (Ei:=[(34,_)]) rfl rfl (Srcs.cons (Src.op 6 rfl rfl) Srcs.nil) (dX rfl (dV A_54 Z_54 (aA.t rfl))) ?_
  refine X.D_step (Ei:=[(1,_)]) rfl rfl (Srcs.cons (Src.pre rfl rfl) Srcs.nil) (dX rfl (cX (aA.t rfl))) ?_
  refine X.D_step (Ei:=[(35,_),(36,_)]) rfl rfl (Srcs.cons (Src.op 7 rfl rfl) (Srcs.cons (Src.op 8 rfl rfl) Srcs.nil)) (dX rfl (dZ U_54 Z_32 (aA.t rfl) (aA.t rfl) rfl (eQ (dY (d:=Qi.zero) zo)))) ?_
  refine X.D_step (Ei:=[(37,_)]) rfl rfl (Srcs.cons (Src.op 9 rfl rfl) Srcs.nil) (dX rfl (dV A_32 Z_32 (aA.t rfl))) ?_
  refine X.D_dep 5 rfl rfl ?_
  refine X.D_dep 11 rfl rfl ?_
  exact X.D_end 5 aT (by kernel_rfl) rfl
theorem Ul {tl:List jX} {es:List Qi} {n i0:Nat} {f:Nat → Nat → Qi} {p:Nat → Prop} (hts:tl.length = n) (hn:n ≤ 1000) (hi0:i0 < n) (hp0:p i0) (hpl:∀ i,i < i0 → ¬ p i):uE Tryz.prog 160 [mX tl es,Zq Tryz.prog (Fin n × Fin n) (fun x=>[NT .i64 x.1.1,NT .i64 x.2.1]) (fun x=>aE (f x.1.1 x.2.1)) (fun x=>p x.1.1) (qH 3)] (qH 3):=by
 refine uE.intro Tryz.func160 rfl Tryz.ntmps160 rfl (fun cx=>?_)
 refine cK ?_
 refine cY ?_
 refine dH rfl rfl rfl (fK (aA.t rfl)) (fun B2=>?_)
 refine aB rfl rfl rfl (cQ cV) ?_
 refine eX ?_
 refine cK ?_
 refine cY ?_
 refine aB rfl rfl rfl (eZ fT (aA.t rfl) rfl) ?_
 refine aB rfl rfl rfl (eY A_142 Z_142 (aA.t rfl) (i:=0) rfl rfl) ?_
 refine aB rfl rfl rfl (dK U_142 (aA.t rfl) (by rw [aC,hts])) ?_
 refine dH rfl rfl rfl (gN (T:=Is (.slice none 0 0)) (i:=Tryz.t54) V_78 mH rfl rfl (aA.t rfl) rfl (fun _=>rfl) trivial (by show 24 * _ ≤ _; omega) zo) (fun B11=>?_)
 refine aB rfl rfl rfl (cQ (aA.t rfl)) ?_
 refine eX ?_
 refine cK ?_
 refine cK ?_
 refine cY ?_
 refine aB rfl rfl rfl (cX (aA.t rfl)) ?_
 refine aB rfl rfl rfl (iK U_78 (aA.t rfl)) ?_
 refine aB rfl rfl rfl (cX (cJ 0)) ?_
 refine eX ?_
 refine eG ?_
 refine mB 1 rfl (oT (e:=32) (s:=5)) ?_
 refine gO (fun (k : Nat) (m : List (List Qi)) => kL (fun i => tab n (f i)) n m k ∧ k ≤ i0) (fun (k : Nat) (m : List (List Qi)) => n - k) (fun (k : Nat) (m : List (List Qi)) => [(1, Zq Tryz.prog (Fin n × Fin n) (fun x => [NT .i64 x.1.1, NT .i64 x.2.1]) (fun x => aE (f x.1.1 x.2.1)) (fun x => p x.1.1) (qH 3)), (2, eH B2 0), (5, Is (.slice (some ⟨B11, 0, none⟩) n n)), (13, NT .i64 n), (14, NT .i64 k)]) (fun (k : Nat) (m : List (List Qi)) => [box B2 145 [rH tl, bP es], nL B11 54 32 5 (dD aE m)]) 0 (List.replicate n []) ⟨kL.start _ _ _, Nat.zero_le _⟩
  (zS rfl) (aU (aP rfl) (aU (dO (lW aE n)) aY)) (fun k m ⟨hS,hki⟩=>?_)
 refine cK ?_
 refine cY ?_
 refine aB rfl rfl rfl (gJ (aA.t rfl) (aA.t rfl)) ?_
 refine eX ?_
 refine cK ?_
 refine iS (aA.t rfl) (by simp only [decide_eq_true_eq]; omega) ?_
 have hk:k < n:=by omega
 have hlen:=hS.len
 refine nN 1 (k) rfl (jZ (m:=m) (i:=k) zo) (fun v=>?_)
 refine cU ?_
 refine cK ?_
 refine eG ?_
 refine cK ?_
 refine cY ?_
 refine aB rfl rfl rfl (cX (aA.t rfl)) ?_
 refine aB rfl rfl rfl (cQ (aA.t rfl)) ?_
 refine eX ?_
 refine cK ?_
 refine cY ?_
 refine aB rfl rfl rfl (cX (aA.t rfl)) ?_
 refine aB rfl rfl rfl (cX (aA.t rfl)) ?_
 refine aB rfl rfl rfl (eZ fT (aA.t rfl) rfl) ?_
 refine aB rfl rfl rfl (eY A_142 Z_142 (aA.t rfl) (i:=0) rfl rfl) ?_
 refine aB rfl rfl rfl (dK U_142 (aA.t rfl) (by rw [aC,hts])) ?_
 refine dH rfl rfl rfl (mP (T:=aE Qi.zero) (i:=Tryz.t32) jW iJ rfl rfl (aA.t rfl) rfl iV (El.ag rfl) (by show 88 * _ ≤ _; omega) zo) (fun B22=>?_)
 refine aB rfl rfl rfl (gX U_78 Z_54 (aA.t rfl) (aA.t rfl) rfl zo (by rw [Nat.mul_one,Nat.zero_add])) ?_
 refine sH Z_54 (aA.t rfl) (aA.t rfl) (by simp; omega) (j:=1) (l:=3) rfl rfl rfl ?_
 refine eX ?_
 refine cK ?_
 refine cC [0,1,3] rfl (by decide) ?_
 refine cY ?_
 refine aB rfl rfl rfl (cX (aA.t rfl)) ?_
 refine aB rfl rfl rfl (cX (aA.t rfl)) ?_
 refine aB rfl rfl rfl (gX U_78 Z_54 (aA.t rfl) (aA.t rfl) rfl zo (by rw [Nat.mul_one,Nat.zero_add])) ?_
 refine aB rfl rfl rfl (kR A_54 Z_54 (aA.t rfl) (j:=1) rfl) ?_
 refine aB rfl rfl rfl (oY U_54 (aA.t rfl) (i:=2) rfl (show ((List.replicate n (aE Qi.zero)).length:Int) = ((n:Nat):Int) by simp)) ?_
 refine aB rfl rfl rfl (cX (cJ 0)) ?_
 refine eX ?_
 refine eG ?_
 refine gO (fun (j : Nat) (out : List Qi) => kL (f k) n out j ∧ (0 < j → k ≠ i0)) (fun (j : Nat) (out : List Qi) => n - j) (fun (j : Nat) (out : List Qi) => [(1, Zq Tryz.prog (Fin n × Fin n) (fun x => [NT .i64 x.1.1, NT .i64 x.2.1]) (fun x => aE (f x.1.1 x.2.1)) (fun x => p x.1.1) (qH 3)), (2, eH B2 0), (5, Is (.slice (some ⟨B11, 0, none⟩) n n)), (6, NT .i64 k), (13, NT .i64 n), (14, NT .i64 k), (28, NT .i64 n), (29, NT .i64 j)]) (fun (j : Nat) (out : List Qi) => [box B2 145 [rH tl, bP es], Fa B11 54 32 5 (dD aE m) k B22, bN 32 5 B22 (out.map aE)]) 0 (List.replicate n Qi.zero) ⟨kL.start _ _ _, fun h => absurd h (Nat.lt_irrefl _)⟩
  (zS rfl) (aU (aP rfl) (aU (fun _ _ _ h=>h) (aU (cA (tW aE _ _)) aY))) (fun j out ⟨hT,hTk⟩=>?_)
 refine cK ?_
 refine cY ?_
 refine aB rfl rfl rfl (gJ (aA.t rfl) (aA.t rfl)) ?_
 refine eX ?_
 refine cK ?_
 refine dQ (aA.t rfl) (fun hj=>?_) (fun hj=>?_)
 ·simp only [decide_eq_true_eq] at hj
  have hlen2:=hT.len
  refine cU ?_
  refine cK ?_
  refine eG ?_
  refine cK ?_
  refine cY ?_
  refine aB rfl rfl rfl (cX (aA.t rfl)) ?_
  refine aB rfl rfl rfl (cQ (aA.t rfl)) ?_
  refine eX ?_
  by_cases hk2:k = i0
  ·refine X.D_start (m := 9) ?_
   refine X.D_step (Ei:=[(5,_)]) rfl rfl (Srcs.cons (Src.pre rfl rfl) Srcs.nil) (dX rfl (cX (aA.t rfl))) ?_
   refine X.D_step (Ei:=[(6,_)]) rfl rfl (Srcs.cons (Src.pre rfl rfl) Srcs.nil) (dX rfl (cX (aA.t rfl))) ?_
   refine X.D_step (Ei:=[(32,_),(33,_)]) rfl rfl (Srcs.cons (Src.op 0 rfl rfl) (Srcs.cons (Src.op 1 rfl rfl) Srcs.nil)) (dX rfl (gX U_78 Z_54 (aA.t rfl) (aA.t rfl) rfl zo (by rw [Nat.mul_one,Nat.zero_add]))) ?_
   refine X.D_step (Ei:=[(34,_)]) rfl rfl (Srcs.cons (Src.op 2 rfl rfl) Srcs.nil) (dX rfl (kR A_54 Z_54 (aA.t rfl) (j:=1) rfl)) ?_
   refine X.D_step (Ei:=[(7,_)]) rfl rfl (Srcs.cons (Src.pre rfl rfl) Srcs.nil) (dX rfl (cX (aA.t rfl))) ?_
   refine X.D_step (Ei:=[(1,_)]) rfl rfl (Srcs.cons (Src.pre rfl rfl) Srcs.nil) (dX rfl (cX (aA.t rfl))) ?_
   refine X.D_step (Ei:=[(6,_)]) rfl rfl (Srcs.cons (Src.pre rfl rfl) Srcs.nil) (dX rfl (cX (aA.t rfl))) ?_
   refine X.D_step (Ei:=[(7,_)]) rfl rfl (Srcs.cons (Src.pre rfl rfl) Srcs.nil) (dX rfl (cX (aA.t rfl))) ?_
   refine X.D_dead (Ei:=[(37,_),(38,_),(39,_)]) rfl (Srcs.cons (Src.op 5 rfl rfl) (Srcs.cons (Src.op 6 rfl rfl) (Srcs.cons (Src.op 7 rfl rfl) Srcs.nil))) (Lw ((⟨k,hk⟩,⟨j,hj⟩):Fin n × Fin n) (show p k from hk2 ▸ hp0) (aA.t rfl) ⟨(aA.t rfl),(aA.t rfl),trivial⟩ Dv.pan rfl) ?_
   refine X.D_dep 8 rfl rfl ?_
   refine X.D_dep 9 rfl rfl ?_
   exact X.D_end 8 aT (by kernel_rfl) rfl
  ·refine fJ (m := 9) ?_
   refine C.D_step (Ei:=[(5,_)]) rfl rfl (bV (bK rfl rfl) bW) (dX rfl (cX (aA.t rfl))) ?_
   refine C.D_step (Ei:=[(6,_)]) rfl rfl (bV (bK rfl rfl) bW) (dX rfl (cX (aA.t rfl))) ?_
   refine C.D_step (Ei:=[(32,_),(33,_)]) rfl rfl (bV (bG 0 rfl rfl) (bV (bG 1 rfl rfl) bW)) (dX rfl (gX U_78 Z_54 (aA.t rfl) (aA.t rfl) rfl zo (by rw [Nat.mul_one,Nat.zero_add]))) ?_
   refine C.D_step (Ei:=[(34,_)]) rfl rfl (bV (bG 2 rfl rfl) bW) (dX rfl (kR A_54 Z_54 (aA.t rfl) (j:=1) rfl)) ?_
   refine C.D_step (Ei:=[(7,_)]) rfl rfl (bV (bK rfl rfl) bW) (dX rfl (cX (aA.t rfl))) ?_
   refine C.D_step (Ei:=[(1,_)]) rfl rfl (bV (bK rfl rfl) bW) (dX rfl (cX (aA.t rfl))) ?_
   refine C.D_step (Ei:=[(6,_)]) rfl rfl (bV (bK rfl rfl) bW) (dX rfl (cX (aA.t rfl))) ?_
   refine C.D_step (Ei:=[(7,_)]) rfl rfl (bV (bK rfl rfl) bW) (dX rfl (cX (aA.t rfl))) ?_
   refine C.D_step (Ei:=[(37,_),(38,_),(39,_)]) rfl rfl (bV (bG 5 rfl rfl) (bV (bG 6 rfl rfl) (bV (bG 7 rfl rfl) bW))) (dX rfl (Mr ((⟨k,hk⟩,⟨j,hj⟩):Fin n × Fin n) (show ¬ p k from hpl k zo) (aA.t rfl) ⟨(aA.t rfl),(aA.t rfl),trivial⟩)) ?_
   refine fW aT rfl (by kernel_rfl) (zF (zF (aJ (aV ?_))))
   refine aB rfl rfl rfl (iX U_54 Z_32 (aA.t rfl) (aA.t rfl) rfl (i:=2) rfl (by first | omega | (simp; omega)) rfl) ?_
   refine rF Z_32 (aA.t rfl) (aA.t rfl) (El.ag rfl) (i:=2) rfl rfl (by first | omega | (simp; omega)) rfl ?_
   refine eX ?_
   refine cF ?_
   refine cY ?_
   refine aB rfl rfl rfl (dW (aA.t rfl) (cJ 1) z6) ?_
   refine aB rfl rfl rfl (cX (aA.t rfl)) ?_
   refine eX ?_
   refine gQ (j + 1,_) ⟨hT.next hj rfl,fun _=>hk2⟩ (by dsimp only; omega) (zS rfl) (aU (aP rfl) (aU (fun _ _ _ h=>h) (aU (cA (kB aE _ _ _)) aY)))
 ·simp only [decide_eq_false_iff_not] at hj
  obtain rfl:j = n:=Nat.le_antisymm hT.kle zo
  have hfin:=hT.fin
  have hk3:=hTk zo
  refine gG rfl ?_
  refine cF ?_
  refine jM 1 2 rfl rfl (by decide) (by simp; omega) ?_
  refine cY ?_
  refine aB rfl rfl rfl (dW (aA.t rfl) (cJ 1) z6) ?_
  refine aB rfl rfl rfl (cX (aA.t rfl)) ?_
  refine eX ?_
  refine cC [0,1] rfl (by decide) ?_
  refine gQ (k + 1,_) ⟨hS.next hk hfin,by dsimp only; omega⟩ (by dsimp only; omega) (zS rfl) (aU (aP rfl) (aU (dO (jJ aE _ _ _)) aY))
end
section
open Go Go.RowKit
theorem pV {tl : List jX} {es : List Qi} (n : Nat) (hft : pI tl 5) (hfe : cD es 5) : cD (lA tl es n) 22 := cD.tab fun i _ => by
 haveI g1:=hft.t i; haveI g2:aI (gv es i) 5:=hfe.get (by decide) i
 have h:aI (tT tl i / gv es i) (5 + 3 * 5 + 2):=inferInstance
 exact h
theorem yB {tl:List jX} {es:List Qi} {n i:Nat} (hi:i < n):gv (lA tl es n) i = tT tl i / gv es i:=oQ hi
theorem tY {tl : List jX} {s : List (List Qi)} (n : Nat) (hft : pI tl 5) (hfs : aS s 5) : aS (zK tl s n) 14 := aS.tab fun i k _ _ => by
 haveI g1:=hft.m i; haveI g2:aI (gm s i k) 5:=hfs.get (by decide) i k; haveI g3:=wT i k
 have h:aI (Gc i k - tM tl i * gm s i k) (2 + (5 + 5 + 1) + 1):=inferInstance
 exact h
theorem Kv {tl : List jX} {s : List (List Qi)} {n : Nat} (hft : pI tl 5) (hfs : aS s 5) (hn : n ≤ 8) (hE : pH (zK tl s n) n = 0) : aS (Ih tl s n) 2000000 :=
 (Qw hfs (qU (G:=Kx 14) (X:=tZ 14) (fun i _=>Fy cI.tab (tY n hft hfs) (rY (by decide)) (by decide) (by decide) hn) hE) (by decide) (by decide) hn).le (by decide)
theorem Vd {tl : List jX} {es : List Qi} {m : List (List Qi)} {n : Nat} (hft : pI tl 5) (hfe : cD es 5) (hfm : aS m 2000) : aS (Dp tl es m n) 2100 := aS.tab fun i k _ _ => by
 haveI g1:=hft.d i; haveI g2:aI (gm m i k) 2000:=hfm.get (by decide) i k; haveI g3:aI (gv (lA tl es n) i) 22:=(pV n hft hfe).get (by decide) i; haveI g4:aI (gv es k) 5:=hfe.get (by decide) k
 unfold Vc
 split
 ·have h : aI ((gm m i k - tD tl i) / gv (lA tl es n) i / gv es k) (2000 + 5 + 1 + 3 * 22 + 2 + 3 * 5 + 2) := inferInstance
  exact h.le (by decide)
 ·have h : aI (gm m i k / gv (lA tl es n) i / gv es k) (2000 + 3 * 22 + 2 + 3 * 5 + 2) := inferInstance
  exact h.le (by decide)
theorem Jv {tl : List jX} {x : List (List Qi)} (n : Nat) (hft : pI tl 5) (hfs : aS x 2100) : aS (Lz tl n x) 2109 := aS.tab fun i k _ _ => by
 haveI g1:=hft.m i; haveI g2:aI (gm x i k) 2100:=hfs.get (by decide) i k; haveI g3:=wT i k
 have h:aI (Gc i k + tM tl i * gm x i k) (2 + (5 + 2100 + 1) + 1):=inferInstance
 exact h
theorem a1s {tl:List jX} {es:List Qi} {s:List (List Qi)} {n:Nat} (hts:tl.length = n) (hes:es.length = n) (h1:1 ≤ n) (hn:n ≤ 8) (hs:cI s n n) (hft:pI tl 5) (hfe:cD es 5) (hfs:aS s 5) (hz:∀ i,i < n → gv es i ≠ 0) (hE:pH (zK tl s n) n = 0):bA Tryz.prog 69 [mX tl es,bF s] (fB [bF (Ic tl es s n),aF .i64 0]):=by
 have hInv : bA Tryz.prog 164 [bF (zK tl s n)] (fB [bF (nD (zK tl s n) n), aF .i64 0]) := by
  have h:=Gq (M:=zK tl s n) (n:=n) (G:=Kx 14) (X:=tZ 14) cI.tab (fun i _=>Fy cI.tab (tY n hft hfs) (rY (by decide)) (by decide) (by decide) hn) zo
  rw [hE] at h; exact h
 have hXf:aS (nD (zK tl s n) n) (tZ 14):=qU (fun i _=>Fy cI.tab (tY n hft hfs) (rY (by decide)) (by decide) (by decide) hn) hE
 have hPr:bA Tryz.prog 165 [bF s,bF (nD (zK tl s n) n)] (fB [bF (Ih tl s n),aF .i64 0]):=Gr hs (tC _ n) hfs hXf (by decide) (by decide) (by decide) (by decide) h1 h1 hn hn hn
 have hNf:=Kv hft hfs hn hE
 have hNs:cI (Ih tl s n) n n:=lT
 have Zb:=pV n hft hfe
 have hll:(lA tl es n).length = n:=bC _ _
 have hLv : bA Tryz.prog 166 [mX tl es] (bP (lA tl es n)) := by
  have h:=(uI (tl:=tl) (es:=es) (L:=5) zo zo hft hfe (by decide) (by decide) (fun i hi=>hz i zo))
  rw [hts] at h; exact h
 refine FunD.intro Tryz.func69 rfl Tryz.ntmps69 rfl (fun cx=>?_)
 refine cK ?_
 refine cY ?_
 refine dH rfl rfl rfl (fK (aA.t rfl)) (fun B2=>?_)
 refine dH rfl rfl rfl (oF (aA.t rfl)) (fun B3=>?_)
 refine aB rfl rfl rfl (cQ cV) ?_
 refine dH rfl rfl rfl (eW (Ts:=[Is (.int .i64 0)]) O_33 rfl (fun V=>aW zd (aG))) (fun B5=>?_)
 refine eX ?_
 refine cK ?_
 refine cK ?_
 refine cY ?_
 refine aB rfl rfl rfl (eJ A_145 Z_145 (aA.t rfl) (i:=0) rfl rfl rfl) ?_
 refine aB rfl rfl rfl (cZ Tryz.call157 (vR zo zo zo) ⟨(aA.t rfl),trivial⟩) ?_
 refine aB rfl rfl rfl (cQ (aA.t rfl)) ?_
 refine eX ?_
 refine cK ?_
 refine cY ?_
 refine aB rfl rfl rfl (cX (aA.t rfl)) ?_
 refine aB rfl rfl rfl (fR (aA.t rfl) (cJ 0)) ?_
 refine eX ?_
 refine cL (aA.t rfl) (by simp) ?_
 refine cU ?_
 refine cK ?_
 refine cK ?_
 refine cY ?_
 refine aB rfl rfl rfl (eJ A_145 Z_145 (aA.t rfl) (i:=0) rfl rfl rfl) ?_
 refine aB rfl rfl rfl (eY A_78 Z_78 (aA.t rfl) (i:=1) rfl rfl) ?_
 refine aB rfl rfl rfl (cZ Tryz.call158 (Bx (by rw [hts]; exact hs) zo) ⟨(aA.t rfl),(aA.t rfl),trivial⟩) ?_
 refine aB rfl rfl rfl (dE (aA.t rfl)) ?_
 refine eX ?_
 refine cL (aA.t rfl) (by simp) ?_
 refine cU ?_
 refine cK ?_
 refine gW (i:=0) (tt:=2) rfl rfl dB ?_
 refine gW (i:=1) (tt:=3) rfl rfl eT ?_
 refine J.T_defer (aA.t rfl) rfl ?_
 refine J.T_seq ?_
 refine J.T_region ⟨fI fun _=>rfl,fI fun _=>rfl,eI K_160,pG fun _=>rfl,trivial⟩ ?_
 refine aB rfl rfl rfl (dV A_145 Z_145 (aA.t rfl)) ?_
 refine aB rfl rfl rfl (kP (γ:=Fin n × Fin n) (Ts:=fun x=>[NT .i64 x.1.1,NT .i64 x.2.1]) (U:=fun x=>aE (Gc x.1.1 x.2.1 - tM tl x.1.1 * gm s x.1.1 x.2.1)) Tryz.call161 (fun x=>Ov (L:=5) (M:=5) hts hs hft hfs (by decide) (by decide) (by decide) x.1.2 x.2.2) ⟨(aA.t rfl),(aA.t rfl),trivial⟩) ?_
 refine aB rfl rfl rfl (cZ K_160 (xF (n:=n) (f:=fun i k=>Gc i k - tM tl i * gm s i k) hts zo) ⟨(aA.t rfl),(aA.t rfl),trivial⟩) ?_
 refine aB rfl rfl rfl (cQ (aA.t rfl)) ?_
 refine eX ?_
 refine J.T_on ?_
 refine J.T_seq ?_
 refine J.T_region ⟨pG fun _=>rfl,eI K_164,fI fun _=>rfl,fI fun _=>rfl,eI K_163,pG fun _=>rfl,trivial⟩ ?_
 refine aB rfl rfl rfl (cX (aA.t rfl)) ?_
 refine aB rfl rfl rfl (cZ K_164 hInv ⟨(aA.t rfl),trivial⟩) ?_
 refine aB rfl rfl rfl (dU (aA.t rfl) rfl) ?_
 refine aB rfl rfl rfl (dU (aA.t rfl) rfl) ?_
 refine aB rfl rfl rfl (cZ K_163 (uJ (m:=nD (zK tl s n) n)) ⟨(aA.t rfl),(aA.t rfl),trivial⟩) ?_
 refine aB rfl rfl rfl (cQ (aA.t rfl)) ?_
 refine eX ?_
 refine J.T_on ?_
 refine J.T_seq ?_
 refine J.T_region ⟨fI fun _=>rfl,pG fun _=>rfl,eI K_165,fI fun _=>rfl,fI fun _=>rfl,eI K_163,fI fun _=>rfl,rM fun _=>rfl,trivial⟩ ?_
 refine aB rfl rfl rfl (dV A_78 Z_78 (aA.t rfl)) ?_
 refine aB rfl rfl rfl (cX (aA.t rfl)) ?_
 refine aB rfl rfl rfl (cZ K_165 hPr ⟨(aA.t rfl),(aA.t rfl),trivial⟩) ?_
 refine aB rfl rfl rfl (dU (aA.t rfl) rfl) ?_
 refine aB rfl rfl rfl (dU (aA.t rfl) rfl) ?_
 refine aB rfl rfl rfl (cZ K_163 (uJ (m:=Ih tl s n)) ⟨(aA.t rfl),(aA.t rfl),trivial⟩) ?_
 refine dH rfl rfl rfl (eW (Ts:=[Is (.slice none 0 0)]) Tryz.zeroValue78 rfl (fun V=>aW zd (aG))) (fun B9=>?_)
 refine jL Z_78 (aA.t rfl) (aA.t rfl) (i:=3) rfl (aK rfl) rfl ?_
 refine eX ?_
 refine gW (i:=3) (tt:=9) rfl rfl eT ?_
 refine J.T_on ?_
 refine J.T_seq ?_
 refine J.T_region ⟨fI fun _=>rfl,eI K_166,fI fun _=>rfl,rM fun _=>rfl,trivial⟩ ?_
 refine aB rfl rfl rfl (dV A_145 Z_145 (aA.t rfl)) ?_
 refine aB rfl rfl rfl (cZ K_166 hLv ⟨(aA.t rfl),trivial⟩) ?_
 refine dH rfl rfl rfl (eW (Ts:=[Is (.slice none 0 0)]) O_54 rfl (fun V=>aW zd (aG))) (fun B10=>?_)
 refine jL Z_54 (aA.t rfl) (aA.t rfl) (i:=4) rfl (aK rfl) rfl ?_
 refine eX ?_
 refine gW (i:=4) (tt:=10) rfl rfl eT ?_
 refine J.T_on ?_
 refine J.T_seq ?_
 refine J.T_region ⟨fI fun _=>rfl,fI fun _=>rfl,eI K_160,pG fun _=>rfl,rM fun _=>rfl,trivial⟩ ?_
 refine aB rfl rfl rfl (dV A_145 Z_145 (aA.t rfl)) ?_
 refine aB rfl rfl rfl (kP (γ:=Fin n × Fin n) (Ts:=fun x=>[NT .i64 x.1.1,NT .i64 x.2.1]) (U:=fun x=>aE (rwE tl es (lA tl es n) (Ih tl s n) x.1.1 x.2.1)) Tryz.call167 (fun x=>a08 (L:=5) (M:=2000000) (K:=22) hts hes hll hNs hft hfe Zb hNf (by decide) (by decide) (by decide) (by decide) (by decide) (by decide) x.1.2 x.2.2) ⟨(aA.t rfl),(aA.t rfl),(aA.t rfl),trivial⟩) ?_
 refine aB rfl rfl rfl (cZ K_160 (xF (n:=n) (f:=fun i k=>rwE tl es (lA tl es n) (Ih tl s n) i k) hts zo) ⟨(aA.t rfl),(aA.t rfl),trivial⟩) ?_
 refine aB rfl rfl rfl (cQ (aA.t rfl)) ?_
 refine jL Z_33 (aA.t rfl) (cJ 0) (i:=2) rfl (aK rfl) rfl ?_
 refine eX ?_
 refine J.T_on ?_
 exact J.T_retN (oS _) (Jt _) (Ig rfl (fZ (eU rfl) (fun _ _ h=>h)) (tX Tryz.isAgg33 Z_33 rfl (i:=2) rfl))
theorem Ow {tl:List jX} {es:List Qi} {s:List (List Qi)} {n:Nat} (hts:tl.length = n) (hes:es.length = n) (h1:1 ≤ n) (hn:n ≤ 8) (hs:cI s n n) (hft:pI tl 5) (hfe:cD es 5) (hfs:aS s 5) {k0:Nat} (hk0:k0 < n) (hz:∀ i,i < k0 → gv es i ≠ 0) (h0:gv es k0 = Qi.zero) (hE:pH (zK tl s n) n = 0):bA Tryz.prog 69 [mX tl es,bF s] (fB [bF ([]),aF .i64 3]):=by
 have hInv : bA Tryz.prog 164 [bF (zK tl s n)] (fB [bF (nD (zK tl s n) n), aF .i64 0]) := by
  have h:=Gq (M:=zK tl s n) (n:=n) (G:=Kx 14) (X:=tZ 14) cI.tab (fun i _=>Fy cI.tab (tY n hft hfs) (rY (by decide)) (by decide) (by decide) hn) zo
  rw [hE] at h; exact h
 have hXf:aS (nD (zK tl s n) n) (tZ 14):=qU (fun i _=>Fy cI.tab (tY n hft hfs) (rY (by decide)) (by decide) (by decide) hn) hE
 have hPr:bA Tryz.prog 165 [bF s,bF (nD (zK tl s n) n)] (fB [bF (Ih tl s n),aF .i64 0]):=Gr hs (tC _ n) hfs hXf (by decide) (by decide) (by decide) (by decide) h1 h1 hn hn hn
 have hNf:=Kv hft hfs hn hE
 have hNs:cI (Ih tl s n) n n:=lT
 have Zb:=pV n hft hfe
 have hll:(lA tl es n).length = n:=bC _ _
 refine FunD.intro Tryz.func69 rfl Tryz.ntmps69 rfl (fun cx=>?_)
 refine cK ?_
 refine cY ?_
 refine dH rfl rfl rfl (fK (aA.t rfl)) (fun B2=>?_)
 refine dH rfl rfl rfl (oF (aA.t rfl)) (fun B3=>?_)
 refine aB rfl rfl rfl (cQ cV) ?_
 refine dH rfl rfl rfl (eW (Ts:=[Is (.int .i64 0)]) O_33 rfl (fun V=>aW zd (aG))) (fun B5=>?_)
 refine eX ?_
 refine cK ?_
 refine cK ?_
 refine cY ?_
 refine aB rfl rfl rfl (eJ A_145 Z_145 (aA.t rfl) (i:=0) rfl rfl rfl) ?_
 refine aB rfl rfl rfl (cZ Tryz.call157 (vR zo zo zo) ⟨(aA.t rfl),trivial⟩) ?_
 refine aB rfl rfl rfl (cQ (aA.t rfl)) ?_
 refine eX ?_
 refine cK ?_
 refine cY ?_
 refine aB rfl rfl rfl (cX (aA.t rfl)) ?_
 refine aB rfl rfl rfl (fR (aA.t rfl) (cJ 0)) ?_
 refine eX ?_
 refine cL (aA.t rfl) (by simp) ?_
 refine cU ?_
 refine cK ?_
 refine cK ?_
 refine cY ?_
 refine aB rfl rfl rfl (eJ A_145 Z_145 (aA.t rfl) (i:=0) rfl rfl rfl) ?_
 refine aB rfl rfl rfl (eY A_78 Z_78 (aA.t rfl) (i:=1) rfl rfl) ?_
 refine aB rfl rfl rfl (cZ Tryz.call158 (Bx (by rw [hts]; exact hs) zo) ⟨(aA.t rfl),(aA.t rfl),trivial⟩) ?_
 refine aB rfl rfl rfl (dE (aA.t rfl)) ?_
 refine eX ?_
 refine cL (aA.t rfl) (by simp) ?_
 refine cU ?_
 refine cK ?_
 refine gW (i:=0) (tt:=2) rfl rfl dB ?_
 refine gW (i:=1) (tt:=3) rfl rfl eT ?_
 refine J.T_defer (aA.t rfl) rfl ?_
 refine J.T_seq ?_
 refine J.T_region ⟨fI fun _=>rfl,fI fun _=>rfl,eI K_160,pG fun _=>rfl,trivial⟩ ?_
 refine aB rfl rfl rfl (dV A_145 Z_145 (aA.t rfl)) ?_
 refine aB rfl rfl rfl (kP (γ:=Fin n × Fin n) (Ts:=fun x=>[NT .i64 x.1.1,NT .i64 x.2.1]) (U:=fun x=>aE (Gc x.1.1 x.2.1 - tM tl x.1.1 * gm s x.1.1 x.2.1)) Tryz.call161 (fun x=>Ov (L:=5) (M:=5) hts hs hft hfs (by decide) (by decide) (by decide) x.1.2 x.2.2) ⟨(aA.t rfl),(aA.t rfl),trivial⟩) ?_
 refine aB rfl rfl rfl (cZ K_160 (xF (n:=n) (f:=fun i k=>Gc i k - tM tl i * gm s i k) hts zo) ⟨(aA.t rfl),(aA.t rfl),trivial⟩) ?_
 refine aB rfl rfl rfl (cQ (aA.t rfl)) ?_
 refine eX ?_
 refine J.T_on ?_
 refine J.T_seq ?_
 refine J.T_region ⟨pG fun _=>rfl,eI K_164,fI fun _=>rfl,fI fun _=>rfl,eI K_163,pG fun _=>rfl,trivial⟩ ?_
 refine aB rfl rfl rfl (cX (aA.t rfl)) ?_
 refine aB rfl rfl rfl (cZ K_164 hInv ⟨(aA.t rfl),trivial⟩) ?_
 refine aB rfl rfl rfl (dU (aA.t rfl) rfl) ?_
 refine aB rfl rfl rfl (dU (aA.t rfl) rfl) ?_
 refine aB rfl rfl rfl (cZ K_163 (uJ (m:=nD (zK tl s n) n)) ⟨(aA.t rfl),(aA.t rfl),trivial⟩) ?_
 refine aB rfl rfl rfl (cQ (aA.t rfl)) ?_
 refine eX ?_
 refine J.T_on ?_
 refine J.T_seq ?_
 refine J.T_region ⟨fI fun _=>rfl,pG fun _=>rfl,eI K_165,fI fun _=>rfl,fI fun _=>rfl,eI K_163,fI fun _=>rfl,rM fun _=>rfl,trivial⟩ ?_
 refine aB rfl rfl rfl (dV A_78 Z_78 (aA.t rfl)) ?_
 refine aB rfl rfl rfl (cX (aA.t rfl)) ?_
 refine aB rfl rfl rfl (cZ K_165 hPr ⟨(aA.t rfl),(aA.t rfl),trivial⟩) ?_
 refine aB rfl rfl rfl (dU (aA.t rfl) rfl) ?_
 refine aB rfl rfl rfl (dU (aA.t rfl) rfl) ?_
 refine aB rfl rfl rfl (cZ K_163 (uJ (m:=Ih tl s n)) ⟨(aA.t rfl),(aA.t rfl),trivial⟩) ?_
 refine dH rfl rfl rfl (eW (Ts:=[Is (.slice none 0 0)]) Tryz.zeroValue78 rfl (fun V=>aW zd (aG))) (fun B9=>?_)
 refine jL Z_78 (aA.t rfl) (aA.t rfl) (i:=3) rfl (aK rfl) rfl ?_
 refine eX ?_
 refine gW (i:=3) (tt:=9) rfl rfl eT ?_
 refine J.T_on ?_
 refine J.T_seq ?_
 refine J.T_region ⟨fI fun _=>rfl,eI K_166,fI fun _=>rfl,rM fun _=>rfl,trivial⟩ ?_
 refine aB rfl rfl rfl (dV A_145 Z_145 (aA.t rfl)) ?_
 exact Du K_166 (Gx (tl:=tl) (es:=es) (L:=5) zo zo hft hfe (by decide) (by decide) zo hz h0) ⟨(aA.t rfl),trivial⟩ (fun a w V hi hs=>jO (J.pan (oS _) hi hs (xJ hi (i:=2) rfl) (Ig rfl (fZ (eU rfl) lL) (tX Tryz.isAgg33 Z_33 rfl (i:=2) rfl))) _)
theorem Lp {tl:List jX} {es:List Qi} {s:List (List Qi)} {n:Nat} (hts:tl.length = n) (hes:es.length = n) (h1:1 ≤ n) (hn:n ≤ 8) (hs:cI s n n) (hft:pI tl 5) (hfe:cD es 5) (hfs:aS s 2000) (hz:∀ i,i < n → gv es i ≠ 0) (hT:∀ i,i < n → tT tl i ≠ 0) (hE:pH (Lz tl n (Dp tl es s n)) n = 0):bA Tryz.prog 72 [mX tl es,bF s] (fB [bF (Pp tl es s n),aF .i64 0]):=by
 have Zb:=pV n hft hfe
 have hll:(lA tl es n).length = n:=bC _ _
 have hlz : ∀ i, i < n → gv (lA tl es n) i ≠ 0 := fun i hi => by
  rw [yB hi,Qi.div_def]; exact oW (hT i hi) (Hi (hz i hi))
 have hxf:aS (Dp tl es s n) 2100:=Vd hft hfe hfs
 have hInv : bA Tryz.prog 164 [bF (Lz tl n (Dp tl es s n))] (fB [bF (nD (Lz tl n (Dp tl es s n)) n), aF .i64 0]) := by
  have h:=Gq (M:=Lz tl n (Dp tl es s n)) (n:=n) (G:=Kx 2109) (X:=tZ 2109) cI.tab (fun i _=>Fy cI.tab (Jv n hft hxf) (rY (by decide)) (by decide) (by decide) hn) zo
  rw [hE] at h; exact h
 have hXf:aS (nD (Lz tl n (Dp tl es s n)) n) (tZ 2109):=qU (fun i _=>Fy cI.tab (Jv n hft hxf) (rY (by decide)) (by decide) (by decide) hn) hE
 have hPr:bA Tryz.prog 165 [bF (Dp tl es s n),bF (nD (Lz tl n (Dp tl es s n)) n)] (fB [bF (Pp tl es s n),aF .i64 0]):=Gr cI.tab (tC _ n) hxf hXf (by decide) (by decide) (by decide) (by decide) h1 h1 hn hn hn
 have hLv : bA Tryz.prog 166 [mX tl es] (bP (lA tl es n)) := by
  have h:=(uI (tl:=tl) (es:=es) (L:=5) zo zo hft hfe (by decide) (by decide) (fun i hi=>hz i zo))
  rw [hts] at h; exact h
 refine FunD.intro Tryz.func72 rfl Tryz.ntmps72 rfl (fun cx=>?_)
 refine cK ?_
 refine cY ?_
 refine dH rfl rfl rfl (fK (aA.t rfl)) (fun B2=>?_)
 refine dH rfl rfl rfl (oF (aA.t rfl)) (fun B3=>?_)
 refine aB rfl rfl rfl (cQ cV) ?_
 refine dH rfl rfl rfl (eW (Ts:=[Is (.int .i64 0)]) O_33 rfl (fun V=>aW zd (aG))) (fun B5=>?_)
 refine eX ?_
 refine cK ?_
 refine cK ?_
 refine cY ?_
 refine aB rfl rfl rfl (eJ A_145 Z_145 (aA.t rfl) (i:=0) rfl rfl rfl) ?_
 refine aB rfl rfl rfl (cZ Tryz.call157 (vR zo zo zo) ⟨(aA.t rfl),trivial⟩) ?_
 refine aB rfl rfl rfl (cQ (aA.t rfl)) ?_
 refine eX ?_
 refine cK ?_
 refine cY ?_
 refine aB rfl rfl rfl (cX (aA.t rfl)) ?_
 refine aB rfl rfl rfl (fR (aA.t rfl) (cJ 0)) ?_
 refine eX ?_
 refine cL (aA.t rfl) (by simp) ?_
 refine cU ?_
 refine cK ?_
 refine cK ?_
 refine cY ?_
 refine aB rfl rfl rfl (eJ A_145 Z_145 (aA.t rfl) (i:=0) rfl rfl rfl) ?_
 refine aB rfl rfl rfl (eY A_78 Z_78 (aA.t rfl) (i:=1) rfl rfl) ?_
 refine aB rfl rfl rfl (cZ Tryz.call158 (Bx (by rw [hts]; exact hs) zo) ⟨(aA.t rfl),(aA.t rfl),trivial⟩) ?_
 refine aB rfl rfl rfl (dE (aA.t rfl)) ?_
 refine eX ?_
 refine cL (aA.t rfl) (by simp) ?_
 refine cU ?_
 refine cK ?_
 refine gW (i:=0) (tt:=2) rfl rfl dB ?_
 refine gW (i:=1) (tt:=3) rfl rfl eT ?_
 refine J.T_defer (aA.t rfl) rfl ?_
 refine J.T_seq ?_
 refine J.T_region ⟨fI fun _=>rfl,eI K_166,fI fun _=>rfl,rM fun _=>rfl,trivial⟩ ?_
 refine aB rfl rfl rfl (dV A_145 Z_145 (aA.t rfl)) ?_
 refine aB rfl rfl rfl (cZ K_166 hLv ⟨(aA.t rfl),trivial⟩) ?_
 refine dH rfl rfl rfl (eW (Ts:=[Is (.slice none 0 0)]) O_54 rfl (fun V=>aW zd (aG))) (fun B7=>?_)
 refine jL Z_54 (aA.t rfl) (aA.t rfl) (i:=3) rfl (aK rfl) rfl ?_
 refine eX ?_
 refine gW (i:=3) (tt:=7) rfl rfl eT ?_
 refine J.T_on ?_
 refine J.T_seq ?_
 refine J.T_region ⟨fI fun _=>rfl,fI fun _=>rfl,eI K_160,fI fun _=>rfl,rM fun _=>rfl,trivial⟩ ?_
 refine aB rfl rfl rfl (dV A_145 Z_145 (aA.t rfl)) ?_
 refine aB rfl rfl rfl (kP (γ:=Fin n × Fin n) (Ts:=fun x=>[NT .i64 x.1.1,NT .i64 x.2.1]) (U:=fun x=>aE (Vc tl es s (lA tl es n) x.1.1 x.2.1)) Tryz.call168 (fun x=>Ol (L:=5) (M:=2000) (K:=22) hts hes hll hs hft hfe Zb hfs (by decide) (by decide) (by decide) (by decide) (by decide) (by decide) x.1.2 x.2.2 (hlz _ x.1.2) (hz _ x.2.2)) ⟨(aA.t rfl),(aA.t rfl),(aA.t rfl),trivial⟩) ?_
 refine aB rfl rfl rfl (cZ K_160 (xF (n:=n) (f:=fun i k=>Vc tl es s (lA tl es n) i k) hts zo) ⟨(aA.t rfl),(aA.t rfl),trivial⟩) ?_
 refine dH rfl rfl rfl (eW (Ts:=[Is (.slice none 0 0)]) Tryz.zeroValue78 rfl (fun V=>aW zd (aG))) (fun B8=>?_)
 refine jL Z_78 (aA.t rfl) (aA.t rfl) (i:=4) rfl (aK rfl) rfl ?_
 refine eX ?_
 refine gW (i:=4) (tt:=8) rfl rfl eT ?_
 refine J.T_on ?_
 refine J.T_seq ?_
 refine J.T_region ⟨fI fun _=>rfl,fI fun _=>rfl,eI K_160,pG fun _=>rfl,trivial⟩ ?_
 refine aB rfl rfl rfl (dV A_145 Z_145 (aA.t rfl)) ?_
 refine aB rfl rfl rfl (kP (γ:=Fin n × Fin n) (Ts:=fun x=>[NT .i64 x.1.1,NT .i64 x.2.1]) (U:=fun x=>aE (Gc x.1.1 x.2.1 + tM tl x.1.1 * gm (Dp tl es s n) x.1.1 x.2.1)) Tryz.call170 (fun x=>a06 (m:=Dp tl es s n) (L:=5) (M:=2100) hts cI.tab hft hxf (by decide) (by decide) (by decide) x.1.2 x.2.2) ⟨(aA.t rfl),(aA.t rfl),trivial⟩) ?_
 refine aB rfl rfl rfl (cZ K_160 (xF (n:=n) (f:=fun i k=>Gc i k + tM tl i * gm (Dp tl es s n) i k) hts zo) ⟨(aA.t rfl),(aA.t rfl),trivial⟩) ?_
 refine aB rfl rfl rfl (cQ (aA.t rfl)) ?_
 refine eX ?_
 refine J.T_on ?_
 refine J.T_seq ?_
 refine J.T_draw (m:=9) ⟨fI fun _=>rfl,pG fun _=>rfl,eI K_164,fI fun _=>rfl,fI fun _=>rfl,eI K_163,eI K_165,fI fun _=>rfl,fI fun _=>rfl,eI K_163,pG fun _=>rfl,rM fun _=>rfl,trivial⟩ ?_
 refine D_step (Ei:=[(8,_)]) rfl rfl (Srcs.cons (Src.pre rfl rfl) Srcs.nil) (dX rfl (dV A_78 Z_78 (aA.t rfl))) ?_
 refine D_step (Ei:=[(9,_)]) rfl rfl (Srcs.cons (Src.pre rfl rfl) Srcs.nil) (dX rfl (cX (aA.t rfl))) ?_
 refine D_step (Ei:=[(28,_)]) rfl rfl (Srcs.cons (Src.op 1 rfl rfl) Srcs.nil) (dX rfl (cZ K_164 hInv ⟨(aA.t rfl),trivial⟩)) ?_
 refine D_step (Ei:=[(29,_)]) rfl rfl (Srcs.cons (Src.op 2 rfl rfl) Srcs.nil) (dX rfl (dU (aA.t rfl) rfl)) ?_
 refine D_step (Ei:=[(29,_)]) rfl rfl (Srcs.cons (Src.op 2 rfl rfl) Srcs.nil) (dX rfl (dU (aA.t rfl) rfl)) ?_
 refine D_step (Ei:=[(30,_),(31,_)]) rfl rfl (Srcs.cons (Src.op 3 rfl rfl) (Srcs.cons (Src.op 4 rfl rfl) Srcs.nil)) (dX rfl (cZ K_163 (uJ (m:=nD (Lz tl n (Dp tl es s n)) n)) ⟨(aA.t rfl),(aA.t rfl),trivial⟩)) ?_
 refine D_step (Ei:=[(27,_),(32,_)]) rfl rfl (Srcs.cons (Src.op 0 rfl rfl) (Srcs.cons (Src.op 5 rfl rfl) Srcs.nil)) (dX rfl (cZ K_165 hPr ⟨(aA.t rfl),(aA.t rfl),trivial⟩)) ?_
 refine D_step (Ei:=[(33,_)]) rfl rfl (Srcs.cons (Src.op 6 rfl rfl) Srcs.nil) (dX rfl (dU (aA.t rfl) rfl)) ?_
 refine D_step (Ei:=[(33,_)]) rfl rfl (Srcs.cons (Src.op 6 rfl rfl) Srcs.nil) (dX rfl (dU (aA.t rfl) rfl)) ?_
 refine D_done aT rfl (by kernel_rfl) (F_val (F_val (F_val (F_val (F_val (F_val (F_val (F_val (F_val (F_nil ?_))))))))))
 refine aB rfl rfl rfl (cZ K_163 (uJ (m:=Pp tl es s n)) ⟨(aA.t rfl),(aA.t rfl),trivial⟩) ?_
 refine aB rfl rfl rfl (cQ (aA.t rfl)) ?_
 refine jL Z_33 (aA.t rfl) (cJ 0) (i:=2) rfl (aK rfl) rfl ?_
 refine eX ?_
 refine J.T_on ?_
 exact J.T_retN (oS _) (Jt _) (Ig rfl (fZ (eU rfl) (fun _ _ h=>h)) (tX Tryz.isAgg33 Z_33 rfl (i:=2) rfl))
theorem xA {tl:List jX} {es:List Qi} {s:List (List Qi)} {n:Nat} (hts:tl.length = n) (hes:es.length = n) (h1:1 ≤ n) (hn:n ≤ 8) (hs:cI s n n) (hft:pI tl 5) (hfe:cD es 5) (hfs:aS s 2000) (hz:∀ i,i < n → gv es i ≠ 0) {i0:Nat} (hi0:i0 < n) (hT:∀ i,i < i0 → tT tl i ≠ 0) (h0:tT tl i0 = Qi.zero):bA Tryz.prog 72 [mX tl es,bF s] (fB [bF ([]),aF .i64 3]):=by
 have Zb:=pV n hft hfe
 have hll:(lA tl es n).length = n:=bC _ _
 have hl0:gv (lA tl es n) i0 = Qi.zero:=by rw [yB hi0,h0,Qi.div_def]; exact Qi.zero_mul' _
 have hlz : ∀ i, i < n → i < i0 → gv (lA tl es n) i ≠ 0 := fun i hi h => by
  rw [yB hi,Qi.div_def]; exact oW (hT i h) (Hi (hz i hi))
 have hLv : bA Tryz.prog 166 [mX tl es] (bP (lA tl es n)) := by
  have h:=(uI (tl:=tl) (es:=es) (L:=5) zo zo hft hfe (by decide) (by decide) (fun i hi=>hz i zo))
  rw [hts] at h; exact h
 refine FunD.intro Tryz.func72 rfl Tryz.ntmps72 rfl (fun cx=>?_)
 refine cK ?_
 refine cY ?_
 refine dH rfl rfl rfl (fK (aA.t rfl)) (fun B2=>?_)
 refine dH rfl rfl rfl (oF (aA.t rfl)) (fun B3=>?_)
 refine aB rfl rfl rfl (cQ cV) ?_
 refine dH rfl rfl rfl (eW (Ts:=[Is (.int .i64 0)]) O_33 rfl (fun V=>aW zd (aG))) (fun B5=>?_)
 refine eX ?_
 refine cK ?_
 refine cK ?_
 refine cY ?_
 refine aB rfl rfl rfl (eJ A_145 Z_145 (aA.t rfl) (i:=0) rfl rfl rfl) ?_
 refine aB rfl rfl rfl (cZ Tryz.call157 (vR zo zo zo) ⟨(aA.t rfl),trivial⟩) ?_
 refine aB rfl rfl rfl (cQ (aA.t rfl)) ?_
 refine eX ?_
 refine cK ?_
 refine cY ?_
 refine aB rfl rfl rfl (cX (aA.t rfl)) ?_
 refine aB rfl rfl rfl (fR (aA.t rfl) (cJ 0)) ?_
 refine eX ?_
 refine cL (aA.t rfl) (by simp) ?_
 refine cU ?_
 refine cK ?_
 refine cK ?_
 refine cY ?_
 refine aB rfl rfl rfl (eJ A_145 Z_145 (aA.t rfl) (i:=0) rfl rfl rfl) ?_
 refine aB rfl rfl rfl (eY A_78 Z_78 (aA.t rfl) (i:=1) rfl rfl) ?_
 refine aB rfl rfl rfl (cZ Tryz.call158 (Bx (by rw [hts]; exact hs) zo) ⟨(aA.t rfl),(aA.t rfl),trivial⟩) ?_
 refine aB rfl rfl rfl (dE (aA.t rfl)) ?_
 refine eX ?_
 refine cL (aA.t rfl) (by simp) ?_
 refine cU ?_
 refine cK ?_
 refine gW (i:=0) (tt:=2) rfl rfl dB ?_
 refine gW (i:=1) (tt:=3) rfl rfl eT ?_
 refine J.T_defer (aA.t rfl) rfl ?_
 refine J.T_seq ?_
 refine J.T_region ⟨fI fun _=>rfl,eI K_166,fI fun _=>rfl,rM fun _=>rfl,trivial⟩ ?_
 refine aB rfl rfl rfl (dV A_145 Z_145 (aA.t rfl)) ?_
 refine aB rfl rfl rfl (cZ K_166 hLv ⟨(aA.t rfl),trivial⟩) ?_
 refine dH rfl rfl rfl (eW (Ts:=[Is (.slice none 0 0)]) O_54 rfl (fun V=>aW zd (aG))) (fun B7=>?_)
 refine jL Z_54 (aA.t rfl) (aA.t rfl) (i:=3) rfl (aK rfl) rfl ?_
 refine eX ?_
 refine gW (i:=3) (tt:=7) rfl rfl eT ?_
 refine J.T_on ?_
 refine J.T_seq ?_
 refine J.T_region ⟨fI fun _=>rfl,fI fun _=>rfl,eI K_160,fI fun _=>rfl,rM fun _=>rfl,trivial⟩ ?_
 refine aB rfl rfl rfl (dV A_145 Z_145 (aA.t rfl)) ?_
 refine aB rfl rfl rfl (Rh (γ:=Fin n × Fin n) (Ts:=fun x=>[NT .i64 x.1.1,NT .i64 x.2.1]) (U:=fun x=>aE (Vc tl es s (lA tl es n) x.1.1 x.2.1)) (p:=fun x=>gv (lA tl es n) x.1.1 = Qi.zero) (pv:=qH 3) Tryz.call168 (fun x hp=>Ol (L:=5) (M:=2000) (K:=22) hts hes hll hs hft hfe Zb hfs (by decide) (by decide) (by decide) (by decide) (by decide) (by decide) x.1.2 x.2.2 hp (hz _ x.2.2)) (fun x hp=>Uc (L:=5) (M:=2000) (K:=22) hts hes hll hs hft hfe Zb hfs (by decide) (by decide) (by decide) (by decide) (by decide) (by decide) x.1.2 x.2.2 hp) ⟨(aA.t rfl),(aA.t rfl),(aA.t rfl),trivial⟩) ?_
 exact Du K_160 (Ul (n:=n) (i0:=i0) (f:=fun i k=>Vc tl es s (lA tl es n) i k) (p:=fun i=>gv (lA tl es n) i = Qi.zero) hts zo hi0 hl0 (fun i hi=>hlz i zo hi)) ⟨(aA.t rfl),(aA.t rfl),trivial⟩ (fun a w V hi hs=>jO (J.pan (oS _) hi hs (xJ hi (i:=2) rfl) (Ig rfl (fZ (eU rfl) lL) (tX Tryz.isAgg33 Z_33 rfl (i:=2) rfl))) _)
end
section
namespace Fl
def lv (l:List (Nat × Nat)):List (Qi × Qi):=l.map fun e=>(q32 e.1,q32 e.2)
abbrev bI (l:List (Nat × Nat)) (i:Nat):Nat:=(l.getD i (0,0)).1
abbrev bO (l:List (Nat × Nat)) (i:Nat):Nat:=(l.getD i (0,0)).2
theorem Hk {l:List (Nat × Nat)} {i:Nat} (h:i < l.length):eF (lv l) i = q32 (bI l i) ∧ eV (lv l) i = q32 (bO l i):=by
 unfold eF eV bI bO lv
 simp [List.getD,List.getElem?_map,List.getElem?_eq_getElem h]
def a2b (l:List (Nat × Nat)) (i:Nat):Int:=if pw (bI l i) = true ∧ pw (bO l i) = true then (if 0 < i ∧ av Ieee.single (bI l i) ≤ av Ieee.single (bI l (i - 1)) then 7 else 0) else 1
def Qr (l:List (Nat × Nat)):Int:=if l.length = 0 ∨ 256 < l.length then 4 else kZ (a2b l) l.length
structure Iv (l:List (Nat × Nat)):Prop where
 pos:∀ i,i < l.length → pw (bI l i) = true ∧ pw (bO l i) = true
 up:∀ i,0 < i → i < l.length → (q32 (bI l (i - 1))).re < (q32 (bI l i)).re
 n0:0 < l.length
 n1:l.length ≤ 256
def bnd (l:List (Nat × Nat)) (f:Qi):Qi:=eV (lv l) 0 / eF (lv l) 0 * f
def Pk (l:List (Nat × Nat)) (f:Qi):Int:=zT (fun e:Qi × Qi=>decide (Hc e.2 (bnd l f * e.1) ≤ 0)) (lv l)
def a1E (f:Qi):Bool:=nG f && decide (f.re < 1)
def comp (l : List (Nat × Nat)) (f : Qi) : Qi × Int :=
 if Qr l ≠ 0 then (Qi.zero,Qr l) else if a1E f = false then (Qi.zero,1) else if Pk l f < 0 then (Qi.zero,5)
 else (cR (eF (lv l) ((Pk l f).toNat - 1)) (eV (lv l) ((Pk l f).toNat - 1)) (eF (lv l) (Pk l f).toNat) (eV (lv l) (Pk l f).toNat) (bnd l f),0)
section
variable {l:List (Nat × Nat)} {f:Qi}
theorem Iv.re (h:Iv l) {i:Nat} (hi:i < l.length):Re (eF (lv l) i) ∧ Re (eV (lv l) i) ∧ 0 < (eF (lv l) i).re ∧ 0 < (eV (lv l) i).re:=by
 obtain ⟨e1,e2⟩:=Hk hi
 obtain ⟨p1,p2⟩:=h.pos i hi
 rw [e1,e2]; exact ⟨Re.q32 _,Re.q32 _,Cz p1,Cz p2⟩
theorem Iv.lt (h:Iv l) {i:Nat} (h0:0 < i) (hi:i < l.length):(eF (lv l) (i - 1)).re < (eF (lv l) i).re:=by
 rw [(Hk hi).1,(Hk (show i - 1 < l.length by omega)).1]; exact h.up i h0 hi
end
end Fl
end
section
namespace Fl
open Ieee
def cH (c n:Nat):List (Nat × Nat):=(List.range n).map fun i=>(single.nearest false (i + 1) 0,single.nearest false ((i + 1) * c) 0)
theorem iC (c n:Nat):(cH c n).length = n:=by simp [cH]
theorem nB {c n i:Nat} (h:i < n):bI (cH c n) i = single.nearest false (i + 1) 0 ∧ bO (cH c n) i = single.nearest false ((i + 1) * c) 0:=by
 unfold bI bO cH
 simp [List.getD,List.getElem?_map,List.getElem?_range h]
end Fl
end
section
open Go Go.RowKit
open Fl
@[irreducible] def wF:Nat:=2050
section
attribute [local irreducible] callFunc
end
section
attribute [local irreducible] callFunc
end
section
attribute [local irreducible] callFunc
end
end
section
namespace Fl
open Ieee
abbrev IR:Nat:=9218868437227405312
abbrev P52:Nat:=4503599627370496
def wd (m k:Nat):Nat:=k * P52 + m
structure Bk (n d r:Nat):Prop where
 lt:r < IR
 le:nn double r * d ≤ n * 2 ^ w74
 nx:r + 1 < IR → n * 2 ^ w74 < nn double (r + 1) * d
structure Bl (n d r:Nat):Prop where
 le:r ≤ IR
 ge:r < IR → n * 2 ^ w74 ≤ nn double r * d
 pr:r ≠ 0 → nn double (r - 1) * d < n * 2 ^ w74
theorem Bk.uniq {n d r s:Nat} (h:Bk n d r) (k:Bk n d s):r = s:=by
 have key : ∀ a b, Bk n d a → Bk n d b → ¬ a < b := fun a b ha hb hl => by
  have h1:=ha.nx (by have:=hb.lt; omega)
  have h2:nn double (a + 1) ≤ nn double b:=Ze hl
  have h3:=Nat.mul_le_mul_right d h2
  have:=hb.le
  omega
 have:=key r s h k; have:=key s r k h; omega
theorem Bl.uniq {n d r s:Nat} (h:Bl n d r) (k:Bl n d s):r = s:=by
 have key : ∀ a b, Bl n d a → Bl n d b → ¬ a < b := fun a b ha hb hl => by
  have h1:=hb.pr zo
  have h2:nn double a ≤ nn double (b - 1):=Ze zo
  have h3:=Nat.mul_le_mul_right d h2
  have:=ha.ge (by have:=hb.le; omega)
  omega
 have:=key r s h k; have:=key s r k h; omega
open Classical in
noncomputable def dnR (n d:Nat):Nat:=if h:∃ r,Bk n d r then h.choose else 0
open Classical in
noncomputable def upR (n d:Nat):Nat:=if h:∃ r,Bl n d r then h.choose else 0
theorem Bk.eq {n d r:Nat} (h:Bk n d r):dnR n d = r:=by
 have hx:∃ r,Bk n d r:=⟨r,h⟩
 rw [dnR,dif_pos hx]; exact hx.choose_spec.uniq h
theorem Bl.eq {n d r:Nat} (h:Bl n d r):upR n d = r:=by
 have hx:∃ r,Bl n d r:=⟨r,h⟩
 rw [upR,dif_pos hx]; exact hx.choose_spec.uniq h
@[irreducible] def w10:Nat:=1024
theorem Ql:double.leastPlace = -1074:=by decide
def G (n d:Nat) (e:Int):Prop:=n * 2 ^ (-e).toNat < d * 2 ^ e.toNat
end Fl
end
section
open Go Go.RowKit
theorem a0p:Tryz.prog.info? 3 = some Tryz.t3:=by kernel_rfl
theorem Yh:Tryz.prog.underlying 283 = some (.slice 3):=by kernel_rfl
end
section
open Go Go.RowKit
theorem Gm {l:List Int} {v:Int} (hl:l.length ≤ 1000000):bA Tryz.prog 287 [kT 1 (l.map (aF .i64)),aF .i64 v] (aF .i64 (zT (fun x=>decide (v = x)) l)):=by
 refine bA.intro Tryz.func287 rfl Tryz.ntmps287 rfl (fun cx=>(ts (ro rfl (cQ (cJ 0)) (eX (cK (ts (rm rfl (ro rfl (dK U_283 (Ht rfl) aC) (ro rfl (cX (cJ 0)) (eX (eG ?_)))))))))))
 refine eL (fun (k : Nat) => k ≤ l.length ∧ ∀ (i : Nat) (x : Int), i < k → l[i]? = some x → decide (v = x) = false) (fun (k : Nat) => l.length - k) (fun (k : Nat) => [(0, kT 1 (l.map (aF .i64))), (1, aF .i64 v), (7, NT .i64 l.length), (8, NT .i64 k)]) (fun (k : Nat) => []) 0 ⟨Nat.zero_le _, fun i x h => by omega⟩
  (zS rfl) aY (fun k ⟨hk,hn⟩=>?_)
 refine ts (ro rfl (gJ (Ht rfl) (Ht rfl)) (eX (cK (dQ (Ht rfl) (fun hb=>?_) (fun hb=>?_)))))
 ·simp only [decide_eq_true_eq] at hb
  refine cU (cK (eG (ts (rm rfl (ra rfl (eX (ts (rm rfl (rm rfl (rm rfl (ro rfl (dZ U_283 Z_3 (Ht rfl) (Ht rfl) rfl (eQ (vM hb))) (ro rfl (dV A_3 Z_3 (Ht rfl)) (ro rfl (kQ (Ht rfl) (Ht rfl)) (eX (dQ (Ht rfl) (fun hc=>?_) (fun hc=>?_))))))))))))))))
  ·refine ts (rm rfl (ra rfl (eX (fG rfl (fZ (eU rfl) ?_)))))
   exact (bR (Cm (p:=fun x=>decide (v = x)) (vM hb) hc hn).symm)
  ·refine cU (cF (cY (ro rfl (dW (Ht rfl) (cJ 1) z6) (rm rfl (eX ?_)))))
   refine gQ (k + 1) ⟨hb, fun i x h1 h2 => by
    by_cases e:i = k
    ·subst e; rw [vM hb] at h2; obtain rfl:=Option.some.inj h2; exact hc
    ·exact hn i x zo h2⟩ zo (zS rfl) aY
 ·simp only [decide_eq_false_iff_not] at hb
  refine gG rfl (ts (ro rfl (cQ cV) (eX (fG rfl (fZ (eU rfl) ?_)))))
  exact (bR (uP (p:=fun x=>decide (v = x)) (fun i x h=>hn i x (by have:=(List.getElem?_eq_some_iff.1 h).1; omega) h)).symm)
theorem zN {l:List Int} {v:Int} (hl:l.length ≤ 1000000):bA Tryz.prog 257 [kT 1 (l.map (aF .i64)),aF .i64 v] (aD (l.any fun x=>decide (v = x))):=by
 refine bA.intro Tryz.func257 rfl Tryz.ntmps257 rfl (fun cx=>(ts (ro rfl (cQ cV) (eX (ts (rm rfl (rm rfl (ro rfl (cZ Tryz.call287 (Gm zo) ⟨(Ht rfl),(Ht rfl),trivial⟩) (ro rfl (nF (Ht rfl) cV) (ra rfl (eX (fG rfl (fZ (eU rfl) ?_)))))))))))))
 exact (fE (xZ _ l))
theorem Un {z:List Qi} {s:List (List Qi)} {G:List Nat} (hl:z.length ≤ 1000) (hG:G.length ≤ 1000):bA Tryz.prog 210 [fA z s,kT 1 ((gnI G).map (aF .i64))] (zZ ((rL G z.length).map Nat.succ)):=by
 refine bA.intro Tryz.func210 rfl Tryz.ntmps210 rfl (fun cx=>(ts (rn rfl (fK (Ht rfl)) fun B2=>(ro rfl (cQ cV) (eX (ts (ro rfl (cQ cV) (eX (cK (ts (ro rfl (cQ (cJ 1)) (eX (eG (rG 3 1 ?_))))))))))))))
 refine gO (fun (i : Nat) (v : Value) => i ≤ z.length) (fun (i : Nat) (v : Value) => z.length - i) (fun (i : Nat) (v : Value) => [(1, kT 1 ((gnI G).map (aF .i64))), (2, eH B2 0), (5, Is v), (6, NT .i64 (i + 1))]) (fun (i : Nat) (v : Value) => [box B2 80 [bP z, bF s], bN 3 1 v (((rL G i).map Nat.succ).map (NT .i64))]) 0 (.slice none 0 0) (Nat.zero_le _)
  (zS rfl) (aU (aP rfl) (aU (cA rfl) aY)) (fun i v hi=>?_)
 refine cK (ts (rm rfl (ro rfl (eZ jC (Ht rfl) rfl) (ro rfl (eY A_54 Z_54 (Ht rfl) (i:=0) rfl rfl) (ro rfl (dK U_54 (Ht rfl) aC) (ro rfl (tK (Ht rfl) (Ht rfl)) (eX (dQ (Ht rfl) (fun hd=>?_) (fun hd=>?_)))))))))
 ·simp only [decide_eq_true_eq] at hd
  have hcl:=Kf G i
  refine cU (cK (eG (kX (fun (v2:Value)=>True) (fun (v2:Value)=>[(1,kT 1 ((gnI G).map (aF .i64))),(2,eH B2 0),(5,Is v2),(6,NT .i64 (i + 1))]) (fun (v2:Value)=>[box B2 80 [bP z,bF s],bN 3 1 v2 (((rL G (i + 1)).map Nat.succ).map (NT .i64))]) ?_ (fun v2 _=>?_))))
  ·refine ts (rm rfl (rm rfl (ro rfl (cZ Tryz.call257 (zN (l := gnI G) (v := ((i + 1 : Nat) : Int)) (by rw [List.length_map]; omega)) ⟨(Ht rfl), (Ht rfl), trivial⟩) ?_)))
   refine ro rfl (dE (Ht rfl)) (eX (dQ (Ht rfl) (fun he=>?_) (fun he=>?_)))
   ·rw [Qj] at he
    have he2:i ∉ G:=by simpa using he
    have hnx:rL G (i + 1) = rL G i ++ [i]:=by rw [rL,if_neg he2]
    refine cY (rm rfl (rm rfl (ro rfl (eO (xs:=[.tmp 19]) U_283 Z_3 O_3 (cW (Ht rfl) cG) rfl rfl rfl) (nY (inf:=Tryz.t3) Yh a0p rfl rfl rfl (Ht rfl) (Ht rfl) (i:=1) rfl (by simp) (fun T hT=>by simp at hT; subst hT; exact El.one) (by show _ * 8 ≤ _; simp only [List.length_map,List.length_cons,List.length_nil]; omega) (by simp only [List.length_map,List.length_cons,List.length_nil]; omega) rfl (fun v3=>?_)))))
    refine ra rfl (eX (bT v3 trivial (zS rfl) (aU (aP rfl) (aU (cA (by rw [hnx,List.map_append,List.map_append]; rfl)) aY))))
   ·rw [Qj] at he
    have he2:i ∈ G:=by simpa using he
    have hnx:rL G (i + 1) = rL G i:=by rw [rL,if_pos he2,List.append_nil]
    refine cU (bT v trivial (zS rfl) (aU (aP rfl) (aU (cA (by rw [hnx])) aY)))
  ·refine cF (cY (rm rfl (ro rfl (dW (Ht rfl) (cJ 1) z6) (ra rfl (eX (gQ (i + 1,v2) hd (by dsimp only; omega) (zS rfl) (eS.refl _)))))))
 ·simp only [decide_eq_false_iff_not] at hd
  obtain rfl:z.length = i:=Nat.le_antisymm zo hi
  refine gG rfl (gW (i:=1) (tt:=5) rfl rfl kN (ts (rm rfl (ra rfl (eX ?_)))))
  exact fG rfl (eU rfl)
theorem Up {z:List Qi} {s:List (List Qi)} {Q:List Nat} {m:Nat} (hs:cI s z.length z.length) (hQ:∀ x,x ∈ Q → x < z.length) (hm:Q.length = m) (hm2:m ≤ 1000) (hl:z.length ≤ 1000) {i j:Nat} (hi:i < m) (hj:j < m):bA Tryz.prog 258 [NT .i64 i,NT .i64 j,PT (fA z s),PT (zZ (Q.map Nat.succ))] (aE (gm s (rN Q i) (rN Q j))):=by
 have hki:rN Q i < z.length:=Ib hQ zo
 have hkj:rN Q j < z.length:=Ib hQ zo
 have hsl:=hs.1
 have hsr:=hs.row hki
 refine bA.intro Tryz.func258 rfl Tryz.ntmps258 rfl (fun cx=>(ts (rn rfl (eW (Ts:=[Is (.bool false),Is (.slice none 0 0),Is (.bool false),Is (.slice none 0 0),Is (.slice none 0 0)]) O_32 rfl (fun V=>aW zd (aW zd (aW zd (aW zd (aW zd (aG))))))) fun B6=>(eX (cK (fJ (m:=14) (dp 2 rfl (eC gS (Ht rfl) rfl) (dq 7 0 rfl (dV A_78 Z_78 (Ht rfl)) (dp 3 rfl (dV A_283 Z_283 (Ht rfl)) (dp 0 rfl (cX (Ht rfl)) ?_))))))))))
 refine eD 9 2 10 3 rfl (dZ U_283 Z_3 (Ht rfl) (Ht rfl) rfl (eQ (Dh zo))) (dq 11 4 rfl (dV A_3 Z_3 (Ht rfl)) (dq 12 5 rfl (aM.nat (dG (Ht rfl) (cJ 1) zo z6) (show rN Q i + 1 - 1 = rN Q i by omega)) (eD 8 1 13 6 rfl (dZ U_78 Z_54 (Ht rfl) (Ht rfl) rfl (eQ (dY (d:=[]) zo))) (dq 14 7 rfl (dV A_54 Z_54 (Ht rfl)) (dp 3 rfl (dV A_283 Z_283 (Ht rfl)) ?_)))))
 refine dp 1 rfl (cX (Ht rfl)) (eD 16 9 17 10 rfl (dZ U_283 Z_3 (Ht rfl) (Ht rfl) rfl (eQ (Dh zo))) (dq 18 11 rfl (dV A_3 Z_3 (Ht rfl)) (dq 19 12 rfl (aM.nat (dG (Ht rfl) (cJ 1) zo z6) (show rN Q j + 1 - 1 = rN Q j by omega)) (fW aT rfl (by kernel_rfl) (zF (zF (zF (aJ (aJ (aV (ro rfl (dZ U_54 Z_32 (Ht rfl) (Ht rfl) rfl (eQ (dY (d:=Qi.zero) zo))) ?_)))))))))))
 refine ro rfl (dV A_32 Z_32 (Ht rfl)) (gZ Z_32 (Ht rfl) (Ht rfl) rfl (i:=0) rfl (aK rfl) rfl rfl (eX ?_))
 exact fG rfl (fU A_32 Z_32 rfl (i:=0) rfl rfl)
theorem Jr {n:Int} (h1:-9223372036854775808 ≤ n) (h2:n ≤ 9223372036854775807):bA Tryz.prog 154 [aF .i64 n] (aE (Qi.ofInt n)):=by
 refine bA.intro Tryz.func154 rfl Tryz.ntmps154 rfl (fun cx=>(ts (rn rfl (eW (Ts:=[Is (.bool false),Is (.slice none 0 0),Is (.bool false),Is (.slice none 0 0),Is (.slice none 0 0)]) O_32 rfl (fun V=>aW zd (aW zd (aW zd (aW zd (aW zd (aG))))))) fun B2=>(eX (ts (rn rfl (eW (Ts:=[Is (.bool false),Is (.slice none 0 0),Is (.bool false),Is (.slice none 0 0),Is (.slice none 0 0)]) O_32 rfl (fun V=>aW zd (aW zd (aW zd (aW zd (aW zd (aG))))))) fun B3=>?_))))))
 refine eX (cK (fJ (m:=4) (dp 3 rfl (eJ A_32 Z_32 (Ht rfl) (i:=1) rfl rfl rfl) (dq 4 0 rfl (aN aR (Ht rfl)) (dp 0 rfl (cX (Ht rfl)) (dq 6 2 rfl (cZ K_36 (vC (n:=n) h1 h2) ⟨(Ht rfl),trivial⟩) (fW aT rfl (by kernel_rfl) (zF (aV (ro rfl (aH oU Tryz.call318 Ot (Ht rfl) ⟨(Ht rfl),trivial⟩) (gZ Z_32 (Ht rfl) (Ht rfl) rfl (i:=0) rfl (aK rfl) rfl rfl (eX ?_))))))))))))
 exact fG rfl (fU A_32 Z_32 rfl (i:=0) rfl rfl)
end
section
open Go Go.RowKit
section
variable {P:Program} {R:eA} {cx:Cx} {n:Nat} {k:List It} {E:cB} {H:Hp}
theorem HH.two {base:Nat} {w:World} {V:aO} {Z:SA} {X:Hp} (h:HH base w V (Z :: X)):HH base w V [Z,fP (SA.emp :: X)]:=by
 have h1:HH base w V ((Z :: X).set 0 SA.emp ++ [Z]):=h.last rfl
 have h2:HH base w V (fP (SA.emp :: X) :: [Z]):=HH.repack h1
 exact h2.pick (is:=[1,0]) ⟨⟨_,rfl,fun _ _ _ h=>h⟩,⟨_,rfl,fun _ _ _ h=>h⟩,trivial⟩ (by decide)
theorem iH.pack {f : FuncId} {Ts : List Ty} {γ : Type} {U : γ → Ty} {X : γ → Hp} {Q : γ → Prop} (h : iH P f Ts [] γ U X Q) : iH P f Ts [] γ U (fun x => [fP (SA.emp :: X x)]) Q :=
 fun cx Z vs V w h1 h2=>(h cx Z vs V w h1 h2).mono fun e w' ⟨v,V',x,a,b,c,d,e'⟩=>⟨v,V',x,a,b,c.withHH c.hp.two,d,e'⟩
theorem a04 {X Y:Hp} (h:Tr P R cx n k E (X ++ Y)):Tr P R cx n k E (fP X :: Y):=fun a w ⟨V,hin,hs⟩=>h a w ⟨V,hin.withHH hin.hp.unpack,hs⟩
end
namespace W
variable {P:Program} {R:eA} {cx:Cx} {n:Nat} {k:List It} {E:cB} {H:Hp} {Hf:Bool → Hp} {p:Nat}
end W
end
section
open Go Go.RowKit
section
variable {P:Program} {n:Nat} {E:cB} {H:Hp}
variable {d:Option Tmp} {t:TypeId} {pos:String} {af:Array Edge} {g:Option (Nat × Bool)}
theorem gK {x i : Operand} {B o q r s : Nat} {kd : IntKind} {j : Int} {e : TypeId} {len : Nat} (hU : ∀ w, (underlying t).run P w = .ok (.array len e) w) (hS : ∀ w, (sizeOf e).run P w = .ok s w)
  (hx:aA E x (eH B o)) (hi:aA E i (aF kd j)) (hj:j = (q:Int)) (hl:q < len) (hr:o + q * s = r) {t':TypeId}:aM P n E H ⟨d,.indexAddr t x i,t',pos,af,g⟩ (eH B r) :=
 dF fun a V w hs => by
  have e1:a.eval x = .pointer (some ⟨B,o,none⟩):=hx n V a hs
  have ei:a.eval i = .int kd j:=hi n V a hs
  subst hj hr
  exact ⟨.pointer (some ⟨B,o + q * s,none⟩),by simp [execOp,e1,ei,Instr.indexAt,Instr.sureAddr,asIntOf,Sem.run_bind,hU,hS,Result.andThen,hl,fO],rfl⟩
theorem yH {x i : Operand} {q s : Nat} {Ts Us : List Ty} {kd : IntKind} {j : Int} {e : TypeId} {len : Nat} (hU : ∀ w, (underlying t).run P w = .ok (.array len e) w) (hS : ∀ w, (sizeOf e).run P w = .ok s w)
  (hx:aA E x (PT (dL Ts))) (hi:aA E i (aF kd j)) (hj:j = (q:Int)) (hl:q < len) (hc:(Ts.drop (q * s)).take s = Us) {t':TypeId}:aM P n E H ⟨d,.indexAddr t x i,t',pos,af,g⟩ (PT (dL Us)) :=
 dF fun a V w hs => by
  obtain ⟨b,o,v,e1,⟨c,BT,fr,e2,e3⟩,vs,rfl,e4⟩:=hx n V a hs
  have ei:a.eval i = .int kd j:=hi n V a hs
  subst hj
  refine ⟨.pointer (some ⟨b,o + q * s,none⟩),by simp [execOp,e1,ei,Instr.indexAt,Instr.sureAddr,asIntOf,Sem.run_bind,hU,hS,Result.andThen,hl,fO],b,o + q * s,.agg ((vs.drop (q * s)).take s).toArray,rfl,⟨c,BT,fr,e2,fun j u hu=>?_⟩,_,rfl,?_⟩
  ·simp only [Value.cells, List.getElem?_toArray, List.getElem?_take, List.getElem?_drop] at hu
   split at hu
   ·have := e3 (q * s + j) u (by simpa [Value.cells] using hu)
    rw [show o + q * s + j = o + (q * s + j) by omega]; exact this
   ·cases hu
  ·rw [← hc]; exact (e4.drop (q * s)).take s
theorem Xe {x : Operand} {arr e : TypeId} {s : Nat} {Us Ws : List Ty} (hU : ∀ w, (underlying arr).run P w = .ok (.array 2 e) w) (hx : aA E x (kT s [dL Us, dL Ws])) (hl : Us.length = s) {t' : TypeId} :
  aM P n E H ⟨d,.sliceToArrayPointer arr x,t',pos,af,g⟩ (PT (dL (Us ++ Ws))) :=
 dF fun a V w hs => by
  obtain ⟨a0,cap,e1,hcap,h3⟩:=hx n V a hs
  obtain ⟨b,o,x0,ea,⟨c,BT,fr,l2,l3⟩,c0,us,rfl,hu⟩:=h3 0 _ rfl
  obtain ⟨b',o',x1,ea',⟨c',BT',fr',l2',l3'⟩,c1,ws,rfl,hw⟩:=h3 1 _ rfl
  subst ea
  obtain ⟨rfl,rfl⟩:b = b' ∧ o = o':=by simpa using ea'
  obtain ⟨rfl,rfl,rfl⟩:c = c' ∧ BT = BT' ∧ fr = fr':=by rw [l2] at l2'; simpa using l2'
  have hlu:us.length = s:=hu.length.trans hl
  refine ⟨.pointer (some ⟨b,o,none⟩),by simp [execOp,e1,Instr.arrayAt,Sem.run_bind,hU,Result.andThen,pure,Sem.run],b,o,.agg (us ++ ws).toArray,rfl,⟨c,BT,fr,l2,fun j u hj=>?_⟩,us ++ ws,rfl,hu.append hw⟩
  simp only [Value.cells,List.getElem?_toArray] at hj
  by_cases c2:j < us.length
  ·rw [List.getElem?_append_left c2] at hj
   have:=l3 j u (by simpa [Value.cells] using hj)
   rw [show o + j = o + 0 * s + j by omega]; exact this
  ·rw [List.getElem?_append_right zo] at hj
   have:=l3' (j - us.length) u (by simpa [Value.cells] using hj)
   rw [show o + j = o + 1 * s + (j - us.length) by omega]; exact this
end
end
section
open Go Go.RowKit
section
variable {P:Program} {n:Nat} {E:cB} {H:Hp}
variable {d:Option Tmp} {t:TypeId} {pos:String} {af:Array Edge} {g:Option (Nat × Bool)}
theorem kG {x : Operand} {e : TypeId} {len s : Nat} {Ts Us : List Ty} (hU : ∀ w, (underlying t).run P w = .ok (.array len e) w) (hS : ∀ w, (sizeOf e).run P w = .ok s w) (hx : aA E x (PT (dL Ts))) (hl : Us.length = len)
  (hp:∀ i U,Us[i]? = some U → U = dL ((Ts.drop (i * s)).take s) ∧ ((Ts.drop (i * s)).take s).length = s) {t':TypeId} :
  aM P n E H ⟨d,.slice t x none none none,t',pos,af,g⟩ (kT s Us) :=
 dF fun a V w hs => by
  obtain ⟨b,o,v,e1,⟨c,BT,fr,e2,e3⟩,vs,rfl,e4⟩:=hx n V a hs
  refine ⟨.slice (some ⟨b,o,none⟩) len len,?_,some ⟨b,o,none⟩,len,by rw [hl],by omega,fun i T hT=>?_⟩
  ·simp [execOp,e1,Instr.sliceAt,Instr.sureAddr,Instr.sliceBounds,Sem.run_bind,hU,hS,Result.andThen,fO,pure,Sem.run]
  ·obtain ⟨rfl, hlen⟩ := hp i T hT
   have hc:=(e4.drop (i * s)).take s
   refine ⟨b,o,.agg ((vs.drop (i * s)).take s).toArray,rfl,⟨c,BT,fr,e2,fun j u hu=>?_⟩,by have:=hc.length; simp only [Value.cells,List.size_toArray]; omega,_,rfl,hc⟩
   simp only [Value.cells,List.getElem?_toArray,List.getElem?_take,List.getElem?_drop] at hu
   split at hu
   ·have := e3 (i * s + j) u (by simpa [Value.cells] using hu)
    rw [show o + i * s + j = o + (i * s + j) by omega]; exact this
   ·cases hu
end
end
section
open Go Go.RowKit
open Fl
theorem Gw {r:Rt} (h:r.im = 0):bA Tryz.prog 46 [aF .i64 r.re,aF .i64 r.den] (aE r.q):=by
 refine bA.intro Tryz.func46 rfl Tryz.ntmps46 rfl (fun cx=>(ts (rn rfl (eW (Ts:=[Is (.bool false),Is (.slice none 0 0),Is (.bool false),Is (.slice none 0 0),Is (.slice none 0 0)]) O_32 rfl (fun V=>aW zd (aW zd (aW zd (aW zd (aW zd (aG))))))) fun B4=>(eX (ts (rm rfl (rm rfl (ro rfl (aM.imp (Gl (Ht rfl) (Ht rfl)) (uH (Us:=[aF .i64 r.re,aF .i64 r.im,aF .i64 r.den]) (by rw [h]))) ?_))))))))
 refine ro rfl (cZ Tryz.call14 (Jo (r:=r)) ⟨(Ht rfl),trivial⟩) ?_
 refine gZ Z_32 (Ht rfl) (Ht rfl) rfl (i:=0) rfl (aK rfl) rfl rfl (eX ?_)
 exact fG rfl (fU A_32 Z_32 rfl (i:=0) rfl rfl)
end
section
open Go Go.RowKit
theorem Uq {z:List Qi} {s:List (List Qi)} {Q:List Nat} {m:Nat} (hs:cI s z.length z.length) (hQ:∀ x,x ∈ Q → x < z.length) (hm:Q.length = m) (hm2:m ≤ 1000) (hl:z.length ≤ 1000):iH Tryz.prog 211 [fA z s,zZ (Q.map Nat.succ)] [] (Nat × Nat) (fun B=>dL [Is (.slice (some ⟨B.1,0,none⟩) m m),Is (.slice (some ⟨B.2,0,none⟩) m m)]) (fun B=>[bN 32 5 (.slice (some ⟨B.1,0,none⟩) m m) ((Nh z Q).map aE),nL B.2 54 32 5 (dD aE (Yc s Q))]) (fun _=>True):=by
 have hll:(Q.map Nat.succ).length = m:=by rw [List.length_map]; exact hm
 refine iH.intro Tryz.func211 rfl Tryz.ntmps211 rfl (fun cx Z=>(ts (rn rfl (fK (Ht rfl)) fun B2=>(rn rfl (oF (Ht rfl)) fun B3=>(rn rfl (eW (Ts:=[Is (.slice none 0 0),Is (.slice none 0 0)]) O_80 rfl (fun V=>aW zd (aW zd (aG)))) fun B4=>(eX (cK (gW (i:=1) (tt:=2) rfl rfl dB (gW (i:=2) (tt:=3) rfl rfl eT (cY (ro rfl (dV A_283 Z_283 (Ht rfl)) (ro rfl (dK U_283 (Ht rfl) (by rw [List.length_map,hll])) ?_))))))))))))
 refine rn rfl (Mq (T:=aE Qi.zero) (i:=Tryz.t32) jW iJ rfl rfl (Ht rfl) rfl iV (El.ag rfl) (by show 88 * _ ≤ _; omega) zo) fun B10=>ra rfl (eX (cK (ts (ro rfl (dV A_283 Z_283 (Ht rfl)) (ro rfl (dK U_283 (Ht rfl) (by rw [List.length_map,hll])) ?_)))))
 refine ro rfl (cX (cJ 0)) (eX (eG (cC [0,3,4] rfl (by decide) ?_)))
 refine eL (fun (i : Nat) => i ≤ m) (fun (i : Nat) => m - i) (fun (i : Nat) => [(2, PT (fA z s)), (3, PT (zZ (Q.map Nat.succ))), (4, eH B4 0), (5, Is (.slice (some ⟨B10, 0, none⟩) m m)), (11, zZ (Q.map Nat.succ)), (12, NT .i64 m), (13, NT .i64 i)]) (fun (i : Nat) => [Z, box B4 80 [Is (.slice none 0 0), Is (.slice none 0 0)], bN 32 5 (.slice (some ⟨B10, 0, none⟩) m m) ((lR (fun i => gv z (rN Q i)) Qi.zero m i).map aE)]) 0 (Nat.zero_le _)
  (zS rfl) (aU (fun _ _ _ h=>h) (aU (fun _ _ _ h=>h) (aU (cA (by rw [← lS]; exact wS aE m)) aY))) (fun i hi=>?_)
 refine ts (ro rfl (gJ (Ht rfl) (Ht rfl)) (eX (cK (dQ (Ht rfl) (fun hd=>?_) (fun hd=>?_)))))
 ·simp only [decide_eq_true_eq] at hd
  have hki:rN Q i < z.length:=Ib hQ zo
  refine cU (cK (eG (ts (rm rfl (ro rfl (dZ U_283 Z_3 (Ht rfl) (Ht rfl) rfl (eQ (Dh zo))) (ro rfl (dV A_3 Z_3 (Ht rfl)) (ra rfl (ra rfl (eX (cY (rm rfl (rm rfl (ro rfl (eC jC (Ht rfl) rfl) (ro rfl (dV A_54 Z_54 (Ht rfl)) (rm rfl (ro rfl (aM.nat (dG (Ht rfl) (cJ 1) zo z6) (show rN Q i + 1 - 1 = rN Q i by omega)) (ro rfl (dZ U_54 Z_32 (Ht rfl) (Ht rfl) rfl (eQ (dY (d:=Qi.zero) hki))) ?_)))))))))))))))))
  refine ro rfl (dV A_32 Z_32 (Ht rfl)) (ro rfl (iX U_54 Z_32 (Ht rfl) (Ht rfl) rfl (i:=2) rfl (by rw [List.length_map,gL]; omega) rfl) ?_)
  refine rF Z_32 (Ht rfl) (Ht rfl) (El.ag rfl) (i:=2) rfl rfl (by rw [List.length_map,gL]; omega) rfl ?_
  refine eX (cF (cY (ro rfl (dW (Ht rfl) (cJ 1) z6) (rm rfl (eX (gQ (i + 1) hd zo (zS rfl) (aU (fun _ _ _ h=>h) (aU (fun _ _ _ h=>h) (aU (cA (by rw [kB,← nS (f:=(fun i=>gv z (rN Q i)))])) aY)))))))))
 ·simp only [decide_eq_false_iff_not] at hd
  obtain rfl:m = i:=Nat.le_antisymm zo hi
  rw [nR]
  rw [show Nh z Q = tab m fun i=>gv z (rN Q i) from by rw [Nh,hm],show Yc s Q = tab m fun i=>tab m fun j=>gm s (rN Q i) (rN Q j) from by rw [Yc,hm]]
  refine gG rfl (ts (rm rfl (ro rfl (dV A_283 Z_283 (Ht rfl)) (ro rfl (dK U_283 (Ht rfl) (by rw [List.length_map,hll])) ?_))))
  refine ro rfl (kP (γ:=Fin m × Fin m) (Ts:=fun x=>[NT .i64 x.1.1,NT .i64 x.2.1]) (U:=fun x=>aE (gm s (rN Q x.1.1) (rN Q x.2.1))) Tryz.call258 (fun x=>Up hs hQ hm hm2 hl x.1.2 x.2.2) ⟨(Ht rfl),(Ht rfl),trivial⟩) (vQ Tryz.call144 (Jm (n:=m) (f:=fun i j=>gm s (rN Q i) (rN Q j)) zo) ⟨(Ht rfl),(Ht rfl),trivial⟩ rfl (fun B32 _=>(ro rfl (wZ (Ht rfl) (Ht rfl)) (gZ Z_80 (Ht rfl) (Ht rfl) rfl (i:=1) rfl (aK rfl) rfl rfl (eX ?_)))))
  exact kY (B10,B32) trivial [0,2,3] ⟨⟨_,rfl,fun _ _ _ h=>h⟩,⟨_,rfl,fun _ _ _ h=>h⟩,⟨_,rfl,fun _ _ _ h=>h⟩,trivial⟩ (by decide) (zX rfl (fU A_80 Z_80 rfl (i:=1) rfl rfl))
end
section
open Go Go.RowKit
theorem Um {z : List Qi} {s : List (List Qi)} (hl : z.length ≤ 1000) : bA Tryz.prog 210 [fA z s, Is (.slice none 0 0)] (zZ ((rL [] z.length).map Nat.succ)) :=
 (Un (z := z) (s := s) (G := []) hl (by simp)).arg fun vs V h => match vs, h with
  | [_,b],⟨h1,h2,_⟩=>⟨h1,lL b V h2,trivial⟩
end
section
open Go Go.RowKit
abbrev nb (x:Qi):List Ty:=[aD (decide (x.a < 0)),aL x.a.natAbs,aD (decide (x.b < 0)),aL x.b.natAbs,aL (du x)]
abbrev Te:List Ty:=[Is (.bool false),Is (.slice none 0 0),Is (.bool false),Is (.slice none 0 0),Is (.slice none 0 0)]
def Vt (f : List (List Qi)) : Nat → List Ty
 | 0=>Te ++ Te ++ (Te ++ Te)
 | 1=>nb (gm f 0 0) ++ nb (gm f 0 1) ++ (Te ++ Te)
 | _=>nb (gm f 0 0) ++ nb (gm f 0 1) ++ (nb (gm f 1 0) ++ nb (gm f 1 1))
theorem Vu (f : List (List Qi)) : ∀ i, (Vt f i).length = 20
 | 0=>rfl
 | 1=>rfl
 | _ + 2=>rfl
theorem Qf (f : List (List Qi)) : ∀ {i : Nat}, i < 2 → (Vt f i).take (0 + i * 10) ++ (nb (gm f i 0) ++ nb (gm f i 1)) ++ (Vt f i).drop (0 + i * 10 + 10) = Vt f (i + 1)
 | 0,_=>rfl
 | 1,_=>rfl
theorem a2g {f:List (List Qi)} (h:cI f 2 2) {i:Nat} (hi:i < 2):(f.getD i []).map aE = [aE (gm f i 0),aE (gm f i 1)]:=by
 have hl:=h.row hi
 show (f.getD i []).map aE = [aE (gv (f.getD i []) 0),aE (gv (f.getD i []) 1)]
 generalize f.getD i [] = l at hl
 match l,hl with
 | [a,b],_=>rfl
theorem a1F {z fz:List Qi} {port:Int} {x:Nat} (h:fz.length ≠ 2):rK z fz port x = 4:=if_pos h
theorem a28 {z fz:List Qi} {port:Int} {x:Nat} (h:fz.length = 2) (h2:¬ (1 ≤ port ∧ port ≤ (z.length:Int))):rK z fz port x = 1:=by rw [rK,if_neg (fun k=>k h),if_pos h2]
theorem a29 {z fz:List Qi} {port:Int} {x:Nat} (h:fz.length = 2) (h2:1 ≤ port ∧ port ≤ (z.length:Int)):rK z fz port x = if gv fz (x - 1) = gv z (port - 1).toNat then 0 else 40:=by rw [rK,if_neg (fun k=>k h),if_neg (fun k=>k h2)]
theorem Gv {fz:List Qi} {f:List (List Qi)} (h2:fz.length = 2) (hf:cI f 2 2):bA Tryz.prog 228 [fA fz f] (fB [dL (Vt f 2),aF .i64 0]):=by
 have hfl:=hf.1
 refine bA.intro Tryz.func228 rfl Tryz.ntmps228 rfl (fun cx=>(ts (rn rfl (fK (Ht rfl)) fun B1=>(rn rfl (eW (Ts:=[Is (.bool false),Is (.slice none 0 0),Is (.bool false),Is (.slice none 0 0),Is (.slice none 0 0),Is (.bool false),Is (.slice none 0 0),Is (.bool false),Is (.slice none 0 0),Is (.slice none 0 0),Is (.bool false),Is (.slice none 0 0),Is (.bool false),Is (.slice none 0 0),Is (.slice none 0 0),Is (.bool false),Is (.slice none 0 0),Is (.bool false),Is (.slice none 0 0),Is (.slice none 0 0)]) O_240 rfl (fun V=>aW zd (aW zd (aW zd (aW zd (aW zd (aW zd (aW zd (aW zd (aW zd (aW zd (aW zd (aW zd (aW zd (aW zd (aW zd (aW zd (aW zd (aW zd (aW zd (aW zd (aG)))))))))))))))))))))) fun B2=>?_))))
 refine ro rfl (cQ (cJ 0)) (eX (ts (rn rfl (eW (Ts:=[Is (.bool false),Is (.slice none 0 0),Is (.bool false),Is (.slice none 0 0),Is (.slice none 0 0),Is (.bool false),Is (.slice none 0 0),Is (.bool false),Is (.slice none 0 0),Is (.slice none 0 0),Is (.bool false),Is (.slice none 0 0),Is (.bool false),Is (.slice none 0 0),Is (.slice none 0 0),Is (.bool false),Is (.slice none 0 0),Is (.bool false),Is (.slice none 0 0),Is (.slice none 0 0)]) O_240 rfl (fun V=>aW zd (aW zd (aW zd (aW zd (aW zd (aW zd (aW zd (aW zd (aW zd (aW zd (aW zd (aW zd (aW zd (aW zd (aW zd (aW zd (aW zd (aW zd (aW zd (aW zd (aG)))))))))))))))))))))) fun B4=>?_)))
 refine eX (cK (ts (ro rfl (eZ jC (Ht rfl) rfl) (ro rfl (eY A_54 Z_54 (Ht rfl) (i:=0) rfl rfl) (ro rfl (dK U_54 (Ht rfl) aC) (ro rfl (fR (Ht rfl) (cJ 2)) (eX (cL (Ht rfl) (by simp [h2]) ?_))))))))
 refine cU (cK (ts (ro rfl (cX (cJ 0)) (eX (eG ?_)))))
 refine eL (fun (i : Nat) => i ≤ 2) (fun (i : Nat) => 2 - i) (fun (i : Nat) => [(1, eH B1 0), (2, eH B2 0), (4, eH B4 0), (11, NT .i64 i)]) (fun (i : Nat) => [box B1 80 [bP fz, bF f], box B2 240 (Te ++ Te ++ (Te ++ Te)), box B4 240 (Vt f i)]) 0 (Nat.zero_le _)
  (zS rfl) (aU (aP rfl) (aU (aP rfl) (aU (aP rfl) aY))) (fun i hi=>?_)
 refine ts (ro rfl (gJ (Ht rfl) (cJ 2)) (eX (cK (dQ (Ht rfl) (fun hd=>?_) (fun hd=>?_)))))
 ·have hi2 : i < 2 := by simp only [decide_eq_true_eq] at hd; omega
  have hxl:=Vu f i
  refine cU (cK (eG (ts (rm rfl (ra rfl (eX (cY (rm rfl (ro rfl (eZ gS (Ht rfl) rfl) (ro rfl (eY A_78 Z_78 (Ht rfl) (i:=0) rfl rfl) (rm rfl (ro rfl (dZ U_78 Z_54 (Ht rfl) (Ht rfl) rfl (eQ (dY (d:=[]) zo))) (ro rfl (dV A_54 Z_54 (Ht rfl)) (ro rfl (Xe U_188 (aA.to (Ht rfl) (nH (a2g hf hi2))) rfl) (ro rfl (dV Tryz.isAgg188 Z_188 (Ht rfl)) (ro rfl (gK U_240 Z_188 (Ht rfl) (Ht rfl) rfl zo rfl) ?_))))))))))))))))
  refine gZ Z_188 (Ht rfl) (Ht rfl) rfl (i:=2) rfl (by rw [hxl]; omega) rfl rfl ?_
  refine eX (cF (cY (ro rfl (dW (Ht rfl) (cJ 1) z6) (rm rfl (eX (gQ (i + 1) hi2 zo (zS rfl) (aU (aP rfl) (aU (aP rfl) (aU (aP (Qf f hi2)) aY)))))))))
 ·obtain rfl : i = 2 := by simp only [decide_eq_false_iff_not] at hd; omega
  refine gG rfl (ts (ro rfl (eJ A_240 Z_240 (Ht rfl) (i:=2) rfl rfl rfl) (gZ Z_240 (Ht rfl) (Ht rfl) rfl (i:=1) rfl (aK rfl) rfl rfl (ro rfl (cQ (cJ 0)) (eX ?_)))))
  exact cT rfl (fU A_240 Z_240 rfl (i:=1) rfl rfl) (eU rfl)
theorem Gu {fz:List Qi} {f:List (List Qi)} (h2:fz.length ≠ 2):bA Tryz.prog 228 [fA fz f] (fB [dL (Vt [] 0),aF .i64 4]):=by
 refine bA.intro Tryz.func228 rfl Tryz.ntmps228 rfl (fun cx=>(ts (rn rfl (fK (Ht rfl)) fun B1=>(rn rfl (eW (Ts:=[Is (.bool false),Is (.slice none 0 0),Is (.bool false),Is (.slice none 0 0),Is (.slice none 0 0),Is (.bool false),Is (.slice none 0 0),Is (.bool false),Is (.slice none 0 0),Is (.slice none 0 0),Is (.bool false),Is (.slice none 0 0),Is (.bool false),Is (.slice none 0 0),Is (.slice none 0 0),Is (.bool false),Is (.slice none 0 0),Is (.bool false),Is (.slice none 0 0),Is (.slice none 0 0)]) O_240 rfl (fun V=>aW zd (aW zd (aW zd (aW zd (aW zd (aW zd (aW zd (aW zd (aW zd (aW zd (aW zd (aW zd (aW zd (aW zd (aW zd (aW zd (aW zd (aW zd (aW zd (aW zd (aG)))))))))))))))))))))) fun B2=>?_))))
 refine ro rfl (cQ (cJ 0)) (eX (ts (rn rfl (eW (Ts:=[Is (.bool false),Is (.slice none 0 0),Is (.bool false),Is (.slice none 0 0),Is (.slice none 0 0),Is (.bool false),Is (.slice none 0 0),Is (.bool false),Is (.slice none 0 0),Is (.slice none 0 0),Is (.bool false),Is (.slice none 0 0),Is (.bool false),Is (.slice none 0 0),Is (.slice none 0 0),Is (.bool false),Is (.slice none 0 0),Is (.bool false),Is (.slice none 0 0),Is (.slice none 0 0)]) O_240 rfl (fun V=>aW zd (aW zd (aW zd (aW zd (aW zd (aW zd (aW zd (aW zd (aW zd (aW zd (aW zd (aW zd (aW zd (aW zd (aW zd (aW zd (aW zd (aW zd (aW zd (aW zd (aG)))))))))))))))))))))) fun B4=>?_)))
 refine eX (cK (ts (ro rfl (eZ jC (Ht rfl) rfl) (ro rfl (eY A_54 Z_54 (Ht rfl) (i:=0) rfl rfl) (ro rfl (dK U_54 (Ht rfl) aC) (ro rfl (fR (Ht rfl) (cJ 2)) (eX (iS (Ht rfl) (by simp; omega) ?_))))))))
 refine ts (ro rfl (eJ A_240 Z_240 (Ht rfl) (i:=2) rfl rfl rfl) (gZ Z_240 (Ht rfl) (Ht rfl) rfl (i:=1) rfl (aK rfl) rfl rfl (ro rfl (cQ (cJ 4)) (eX ?_))))
 exact cT rfl (fU A_240 Z_240 rfl (i:=1) rfl rfl) (eU rfl)
theorem Ae {z fz:List Qi} {s f:List (List Qi)} {port:Int} {x L:Nat} (h2:fz.length = 2) (hf:cI f 2 2) (hx:x = 1 ∨ x = 2) (hfz:cD z L) (hff:cD fz L) (hL:1 ≤ L) (hLb:L ≤ 1000000) (hl:z.length ≤ 1000):bA Tryz.prog 152 [fA z s,aF .i64 port,fA fz f,NT .i64 x] (fB [dL (Vt f 2),aF .i64 (rK z fz port x)]):=by
 refine bA.intro Tryz.func152 rfl Tryz.ntmps152 rfl (fun cx=>(ts (rn rfl (fK (Ht rfl)) fun B4=>(rn rfl (fK (Ht rfl)) fun B6=>(rn rfl (eW (Ts:=[Is (.bool false),Is (.slice none 0 0),Is (.bool false),Is (.slice none 0 0),Is (.slice none 0 0),Is (.bool false),Is (.slice none 0 0),Is (.bool false),Is (.slice none 0 0),Is (.slice none 0 0),Is (.bool false),Is (.slice none 0 0),Is (.bool false),Is (.slice none 0 0),Is (.slice none 0 0),Is (.bool false),Is (.slice none 0 0),Is (.bool false),Is (.slice none 0 0),Is (.slice none 0 0)]) O_240 rfl (fun V=>aW zd (aW zd (aW zd (aW zd (aW zd (aW zd (aW zd (aW zd (aW zd (aW zd (aW zd (aW zd (aW zd (aW zd (aW zd (aW zd (aW zd (aW zd (aW zd (aW zd (aG)))))))))))))))))))))) fun B8=>?_)))))
 refine ro rfl (cQ (cJ 0)) (eX (ts (ro rfl (eJ A_80 Z_80 (Ht rfl) (i:=1) rfl rfl rfl) (ro rfl (cZ Tryz.call228 (Gv h2 hf) ⟨(Ht rfl),trivial⟩) (rm rfl (ro rfl (dU (Ht rfl) rfl) (ro rfl (dU (Ht rfl) rfl) (rn rfl (eW (Ts:=[Is (.bool false),Is (.slice none 0 0),Is (.bool false),Is (.slice none 0 0),Is (.slice none 0 0),Is (.bool false),Is (.slice none 0 0),Is (.bool false),Is (.slice none 0 0),Is (.slice none 0 0),Is (.bool false),Is (.slice none 0 0),Is (.bool false),Is (.slice none 0 0),Is (.slice none 0 0),Is (.bool false),Is (.slice none 0 0),Is (.bool false),Is (.slice none 0 0),Is (.slice none 0 0)]) O_240 rfl (fun V=>aW zd (aW zd (aW zd (aW zd (aW zd (aW zd (aW zd (aW zd (aW zd (aW zd (aW zd (aW zd (aW zd (aW zd (aW zd (aW zd (aW zd (aW zd (aW zd (aW zd (aG)))))))))))))))))))))) fun B10=>?_))))))))
 refine gZ Z_240 (Ht rfl) (Ht rfl) rfl (i:=3) rfl (aK rfl) rfl rfl (ra rfl (eX (cK (eG (ts (rm rfl (ro rfl (fL (Ht rfl) cV) (ra rfl (eX (cL (Ht rfl) (by rfl) ?_))))))))))
 refine ts (ro rfl (eJ A_80 Z_80 (Ht rfl) (i:=0) rfl rfl rfl) (rm rfl (ro rfl (cZ Tryz.call209 Pc ⟨(Ht rfl),(Ht rfl),trivial⟩) (ro rfl (dE (Ht rfl)) (ra rfl (eX (dQ (Ht rfl) (fun hb=>?_) (fun hb=>?_))))))))
 ·have he := a28 (x := x) h2 (by simpa only [Bool.not_eq_true', decide_eq_false_iff_not] using hb : ¬ (1 ≤ port ∧ port ≤ (z.length : Int)))
  refine ts (ro rfl (eJ A_240 Z_240 (Ht rfl) (i:=3) rfl rfl rfl) (gZ Z_240 (Ht rfl) (Ht rfl) rfl (i:=2) rfl (aK rfl) rfl rfl (ro rfl (cQ (cJ 1)) (eX (cT rfl (fU A_240 Z_240 rfl (i:=2) rfl rfl) (fZ (eU rfl) ?_))))))
  exact (bR he.symm)
 ·have hb2 : 1 ≤ port ∧ port ≤ (z.length : Int) := by simpa using hb
  have hd:=a29 (x:=x) h2 hb2
  haveI g1:aI (gv fz (x - 1)) L:=hff.get hL _
  haveI g2:aI (gv z (port - 1).toNat) L:=hfz.get hL _
  refine cK (fJ (m:=12) (dp 6 rfl (eZ jC (Ht rfl) rfl) (dq 29 0 rfl (eY A_54 Z_54 (Ht rfl) (i:=1) rfl rfl) (dp 3 rfl (cX (Ht rfl)) (dq 31 2 rfl (dG (Ht rfl) (cJ 1) zo z6) (eD 30 1 32 3 rfl (dZ U_54 Z_32 (Ht rfl) (Ht rfl) rfl (eQ (dY (d:=Qi.zero) zo))) (dq 33 4 rfl (dV A_32 Z_32 (Ht rfl)) (dp 4 rfl (eZ jC (Ht rfl) rfl) (dq 35 6 rfl (eY A_54 Z_54 (Ht rfl) (i:=0) rfl rfl) ?_)))))))))
  refine dp 1 rfl (cX (Ht rfl)) (dq 37 8 rfl (jU (Ht rfl) cV (r:=(((port - 1).toNat:Nat):Int)) ((Ip (z:=port - 1) zo).trans zo)) ?_)
  refine eD 36 7 38 9 rfl (dZ U_54 Z_32 (Ht rfl) (Ht rfl) rfl (eQ (dY (d:=Qi.zero) zo))) (dq 39 10 rfl (dV A_32 Z_32 (Ht rfl)) (fW aT rfl (by kernel_rfl) (zF (zF (zF (aV (ro rfl (cZ Tryz.call45 (Bw (x:=gv fz (x - 1)) (y:=gv z (port - 1).toNat) (L:=L) (M:=L) zo zo) ⟨(Ht rfl),(Ht rfl),trivial⟩) (ro rfl (dE (Ht rfl)) (ra rfl (eX (dQ (Ht rfl) (fun hc=>?_) (fun hc=>?_))))))))))))
  ·have he : rK z fz port x = 40 := by rw [hd, if_neg (by simpa using hc)]
   refine ts (ro rfl (eJ A_240 Z_240 (Ht rfl) (i:=3) rfl rfl rfl) (gZ Z_240 (Ht rfl) (Ht rfl) rfl (i:=2) rfl (aK rfl) rfl rfl (ro rfl (cQ (cJ 40)) (eX (cT rfl (fU A_240 Z_240 rfl (i:=2) rfl rfl) (fZ (eU rfl) ?_))))))
   exact (bR he.symm)
  ·have he : rK z fz port x = 0 := by rw [hd, if_pos (by simpa using hc)]
   refine cU (cF (ts (ro rfl (eJ A_240 Z_240 (Ht rfl) (i:=3) rfl rfl rfl) (gZ Z_240 (Ht rfl) (Ht rfl) rfl (i:=2) rfl (aK rfl) rfl rfl (ro rfl (cQ (cJ 0)) (eX (cT rfl (fU A_240 Z_240 rfl (i:=2) rfl rfl) (fZ (eU rfl) ?_))))))))
   exact (bR he.symm)
theorem Ad {z fz:List Qi} {s f:List (List Qi)} {port:Int} {x:Nat} (h2:fz.length ≠ 2):bA Tryz.prog 152 [fA z s,aF .i64 port,fA fz f,NT .i64 x] (fB [dL (Vt [] 0),aF .i64 4]):=by
 refine bA.intro Tryz.func152 rfl Tryz.ntmps152 rfl (fun cx=>(ts (rn rfl (fK (Ht rfl)) fun B4=>(rn rfl (fK (Ht rfl)) fun B6=>(rn rfl (eW (Ts:=[Is (.bool false),Is (.slice none 0 0),Is (.bool false),Is (.slice none 0 0),Is (.slice none 0 0),Is (.bool false),Is (.slice none 0 0),Is (.bool false),Is (.slice none 0 0),Is (.slice none 0 0),Is (.bool false),Is (.slice none 0 0),Is (.bool false),Is (.slice none 0 0),Is (.slice none 0 0),Is (.bool false),Is (.slice none 0 0),Is (.bool false),Is (.slice none 0 0),Is (.slice none 0 0)]) O_240 rfl (fun V=>aW zd (aW zd (aW zd (aW zd (aW zd (aW zd (aW zd (aW zd (aW zd (aW zd (aW zd (aW zd (aW zd (aW zd (aW zd (aW zd (aW zd (aW zd (aW zd (aW zd (aG)))))))))))))))))))))) fun B8=>?_)))))
 refine ro rfl (cQ (cJ 0)) (eX (ts (ro rfl (eJ A_80 Z_80 (Ht rfl) (i:=1) rfl rfl rfl) (ro rfl (cZ Tryz.call228 (Gu h2) ⟨(Ht rfl),trivial⟩) (rm rfl (ro rfl (dU (Ht rfl) rfl) (ro rfl (dU (Ht rfl) rfl) (rn rfl (eW (Ts:=[Is (.bool false),Is (.slice none 0 0),Is (.bool false),Is (.slice none 0 0),Is (.slice none 0 0),Is (.bool false),Is (.slice none 0 0),Is (.bool false),Is (.slice none 0 0),Is (.slice none 0 0),Is (.bool false),Is (.slice none 0 0),Is (.bool false),Is (.slice none 0 0),Is (.slice none 0 0),Is (.bool false),Is (.slice none 0 0),Is (.bool false),Is (.slice none 0 0),Is (.slice none 0 0)]) O_240 rfl (fun V=>aW zd (aW zd (aW zd (aW zd (aW zd (aW zd (aW zd (aW zd (aW zd (aW zd (aW zd (aW zd (aW zd (aW zd (aW zd (aW zd (aW zd (aW zd (aW zd (aW zd (aG)))))))))))))))))))))) fun B10=>?_))))))))
 refine gZ Z_240 (Ht rfl) (Ht rfl) rfl (i:=3) rfl (aK rfl) rfl rfl (ra rfl (eX (cK (eG (ts (rm rfl (ro rfl (fL (Ht rfl) cV) (ra rfl (eX (iS (Ht rfl) (by rfl) ?_))))))))))
 refine ts (ro rfl (eJ A_240 Z_240 (Ht rfl) (i:=3) rfl rfl rfl) (rm rfl (gZ Z_240 (Ht rfl) (Ht rfl) rfl (i:=2) rfl (aK rfl) rfl rfl (ra rfl (eX ?_)))))
 exact cT rfl (fU A_240 Z_240 rfl (i:=2) rfl rfl) (eU rfl)
theorem Ah {z:List Qi} {s:List (List Qi)} {p:Nat} {e:Qi} {L M:Nat} (hs:cI s z.length z.length) (hp:p < z.length) (hz:z.length ≤ 1000) (hf:aS s L) (he2:aI e M) (hL:1 ≤ L) (hLb:L + 3 * M + 2 ≤ 1000000) (he:e = Qi.zero):bA Tryz.prog 153 [fA z s,NT .i64 p,aE e] (fB [bP [],bP [],aF .i64 6]):=by
 have hsl:=hs.1
 have hspr:=hs.row hp
 haveI:=he2
 refine bA.intro Tryz.func153 rfl Tryz.ntmps153 rfl (fun cx=>(ts (rn rfl (fK (Ht rfl)) fun B3=>(rn rfl (fK (Ht rfl)) fun B5=>(ro rfl (cQ cV) (ro rfl (cQ cV) (ro rfl (cQ (cJ 0)) (eX (cK (cK (rG 32 5 (rG 32 5 (cY (ro rfl (eZ gS (Ht rfl) rfl) (ro rfl (eY A_78 Z_78 (Ht rfl) (i:=0) rfl rfl) (ro rfl (dK U_78 (Ht rfl) (by rw [List.length_map,hsl])) ?_))))))))))))))))
 refine ro rfl (cX (cJ 0)) (eX (eG ?_))
 refine mF (fun (i : Nat) (vU : Value) (vV : Value) => i = 0) (fun (i : Nat) (vU : Value) (vV : Value) => z.length - i) (fun (i : Nat) (vU : Value) (vV : Value) => [(1, NT .i64 p), (3, eH B3 0), (5, eH B5 0), (6, Is vU), (7, Is vV), (8, NT .i64 0), (16, NT .i64 z.length), (17, NT .i64 i)]) (fun (i : Nat) (vU : Value) (vV : Value) => [box B3 80 [bP z, bF s], box B5 32 (nb e), bN 32 5 vU ((tab i (fun i => gm s i p / e)).map aE), bN 32 5 vV ((tab i (fun i => gm s p i / e)).map aE)]) 0 _ _ rfl
  (zS rfl) (aU (aP rfl) (aU (aP rfl) (aU (cA rfl) (aU (cA rfl) aY)))) (fun i vU vV hi=>?_)
 refine ts (ro rfl (gJ (Ht rfl) (Ht rfl)) (eX (cK (dQ (Ht rfl) (fun hd=>?_) (fun hd=>?_)))))
 ·have hin : i < z.length := by simp only [decide_eq_true_eq] at hd; omega
  have hsr:=hs.row hin
  haveI g1:aI (gm s i p) L:=hf.get hL _ _
  haveI g2:aI (gm s p i) L:=hf.get hL _ _
  refine cU (cK (eG (ts (rm rfl (ra rfl (eX (cK (Y.D_start (m:=16) [] (bY (Ei:=[(3,_)]) rfl rfl (bQ (bJ rfl rfl) bX) rfl rfl (dX rfl (eZ gS (Ht rfl) rfl)) (bY (Ei:=[(21,_)]) rfl rfl (bQ (bZ 0 rfl rfl) bX) rfl rfl (dX rfl (eY A_78 Z_78 (Ht rfl) (i:=0) rfl rfl)) (bY (Ei:=[(9,_)]) rfl rfl (bQ (bJ rfl rfl) bX) rfl rfl (dX rfl (cX (Ht rfl))) (bY (Ei:=[(22,_),(23,_)]) rfl rfl (bQ (bZ 1 rfl rfl) (bQ (bZ 2 rfl rfl) bX)) rfl rfl (dX rfl (dZ U_78 Z_54 (Ht rfl) (Ht rfl) rfl (eQ (dY (d:=[]) zo)))) ?_))))))))))))
  refine bY (Ei:=[(24,_)]) rfl rfl (bQ (bZ 3 rfl rfl) bX) rfl rfl (dX rfl (dV A_54 Z_54 (Ht rfl))) (bY (Ei:=[(1,_)]) rfl rfl (bQ (bJ rfl rfl) bX) rfl rfl (dX rfl (cX (Ht rfl))) (bY (Ei:=[(25,_),(26,_)]) rfl rfl (bQ (bZ 4 rfl rfl) (bQ (bZ 5 rfl rfl) bX)) rfl rfl (dX rfl (dZ U_54 Z_32 (Ht rfl) (Ht rfl) rfl (eQ (dY (d:=Qi.zero) zo)))) (bY (Ei:=[(27,_)]) rfl rfl (bQ (bZ 6 rfl rfl) bX) rfl rfl (dX rfl (dV A_32 Z_32 (Ht rfl))) ?_)))
  refine bY (Ei:=[(28,_)]) rfl rfl (bQ (bZ 7 rfl rfl) bX) rfl rfl (dX rfl (aN aR (Ht rfl))) (bY (Ei:=[(5,_)]) rfl rfl (bQ (bJ rfl rfl) bX) rfl rfl (dX rfl (eJ A_32 Z_32 (Ht rfl) (i:=1) rfl rfl rfl)) (bY (Ei:=[(29,_),(30,_)]) rfl rfl (bQ (bZ 8 rfl rfl) (bQ (bZ 9 rfl rfl) bX)) rfl rfl (dX rfl (aH iD K_142 (sP (x:=gm s i p) (y:=e) (L:=L) (M:=M) zo) (Ht rfl) ⟨(Ht rfl),trivial⟩)) (bY (Ei:=[(31,_)]) rfl rfl (bQ (bZ 10 rfl rfl) bX) rfl rfl (dX rfl (cX (Ht rfl))) ?_)))
  refine bY (Ei:=[(20,_)]) rfl rfl (bQ (bZ 11 rfl rfl) bX) rfl rfl (dX rfl (dU (Ht rfl) rfl)) (bY (Ei:=[(20,_)]) rfl rfl (bQ (bZ 11 rfl rfl) bX) rfl rfl (dX rfl (dU (Ht rfl) rfl)) (Y.D_newp (Ei:=[]) (fun bb=>box bb 32 (nb (gm s i p / e))) 15 rfl rfl rfl bX rfl rfl (by kernel_rfl) (eW (Ts:=[Is (.bool false),Is (.slice none 0 0),Is (.bool false),Is (.slice none 0 0),Is (.slice none 0 0)]) O_32 rfl (fun V=>aW zd (aW zd (aW zd (aW zd (aW zd (aG))))))) ?_))
  refine Y.D_putN (Ei:=[(32,_)]) 14 rfl rfl rfl rfl rfl rfl (bQ (bZ 12 rfl rfl) bX) (fun bb=>nM Z_32 (Ht rfl) (Ht rfl) rfl (i:=0) rfl (aK rfl) rfl rfl) (Y.D_done aT rfl (by kernel_rfl) rfl (by simp [Y.okP]) rfl rfl (bU (bU (bU (bU (bU (bU (bU (bU (bU (bU (bU (bU (bU (bU (Y.F_newp (fun B10=>Y.F_putN (Y.F_nil ?_))))))))))))))))))
  refine ra rfl (eX (cK (gW (i:=4) (tt:=10) rfl rfl dB (cC [0,1,2,3] rfl (by decide) (Y.D_start (m:=16) [] (bY (Ei:=[(3,_)]) rfl rfl (bQ (bJ rfl rfl) bX) rfl rfl (dX rfl (eZ gS (Ht rfl) rfl)) (bY (Ei:=[(35,_)]) rfl rfl (bQ (bZ 0 rfl rfl) bX) rfl rfl (dX rfl (eY A_78 Z_78 (Ht rfl) (i:=0) rfl rfl)) (bY (Ei:=[(1,_)]) rfl rfl (bQ (bJ rfl rfl) bX) rfl rfl (dX rfl (cX (Ht rfl))) (bY (Ei:=[(36,_),(37,_)]) rfl rfl (bQ (bZ 1 rfl rfl) (bQ (bZ 2 rfl rfl) bX)) rfl rfl (dX rfl (dZ U_78 Z_54 (Ht rfl) (Ht rfl) rfl (eQ (dY (d:=[]) zo)))) ?_)))))))))
  refine bY (Ei:=[(38,_)]) rfl rfl (bQ (bZ 3 rfl rfl) bX) rfl rfl (dX rfl (dV A_54 Z_54 (Ht rfl))) (bY (Ei:=[(9,_)]) rfl rfl (bQ (bJ rfl rfl) bX) rfl rfl (dX rfl (cX (Ht rfl))) (bY (Ei:=[(39,_),(40,_)]) rfl rfl (bQ (bZ 4 rfl rfl) (bQ (bZ 5 rfl rfl) bX)) rfl rfl (dX rfl (dZ U_54 Z_32 (Ht rfl) (Ht rfl) rfl (eQ (dY (d:=Qi.zero) zo)))) (bY (Ei:=[(41,_)]) rfl rfl (bQ (bZ 6 rfl rfl) bX) rfl rfl (dX rfl (dV A_32 Z_32 (Ht rfl))) ?_)))
  refine bY (Ei:=[(42,_)]) rfl rfl (bQ (bZ 7 rfl rfl) bX) rfl rfl (dX rfl (aN aR (Ht rfl))) (bY (Ei:=[(5,_)]) rfl rfl (bQ (bJ rfl rfl) bX) rfl rfl (dX rfl (eJ A_32 Z_32 (Ht rfl) (i:=1) rfl rfl rfl)) (bY (Ei:=[(43,_),(44,_)]) rfl rfl (bQ (bZ 8 rfl rfl) (bQ (bZ 9 rfl rfl) bX)) rfl rfl (dX rfl (aH iD K_142 (sP (x:=gm s p i) (y:=e) (L:=L) (M:=M) zo) (Ht rfl) ⟨(Ht rfl),trivial⟩)) (bY (Ei:=[(45,_)]) rfl rfl (bQ (bZ 10 rfl rfl) bX) rfl rfl (dX rfl (cX (Ht rfl))) ?_)))
  refine bY (Ei:=[(34,_)]) rfl rfl (bQ (bZ 11 rfl rfl) bX) rfl rfl (dX rfl (dU (Ht rfl) rfl)) (bY (Ei:=[(34,_)]) rfl rfl (bQ (bZ 11 rfl rfl) bX) rfl rfl (dX rfl (dU (Ht rfl) rfl)) (Y.D_newp (Ei:=[]) (fun bb=>box bb 32 (nb (gm s p i / e))) 15 rfl rfl rfl bX rfl rfl (by kernel_rfl) (eW (Ts:=[Is (.bool false),Is (.slice none 0 0),Is (.bool false),Is (.slice none 0 0),Is (.slice none 0 0)]) O_32 rfl (fun V=>aW zd (aW zd (aW zd (aW zd (aW zd (aG))))))) ?_))
  refine Y.D_putN (Ei:=[(46,_)]) 14 rfl rfl rfl rfl rfl rfl (bQ (bZ 12 rfl rfl) bX) (fun bb=>nM Z_32 (Ht rfl) (Ht rfl) rfl (i:=0) rfl (aK rfl) rfl rfl) (Y.D_done aT rfl (by kernel_rfl) rfl (by simp [Y.okP]) rfl rfl (bU (bU (bU (bU (bU (bU (bU (bU (bU (bU (bU (bU (bU (bU (Y.F_newp (fun B12=>Y.F_putN (Y.F_nil ?_))))))))))))))))))
  refine ra rfl (eX (cK (cK (gW (i:=4) (tt:=12) rfl rfl dB (cC [0,1,2,3] rfl (by decide) (cY (rm rfl (ro rfl (fL (Ht rfl) cV) (rm rfl (fQ rfl rfl (eK rfl rfl (Ht rfl) (fun h=>cX (Ht rfl))) (fQ rfl rfl (eK rfl rfl (Ht rfl) (fun h=>fL (fV rfl h) cV)) (ro rfl (iF (Ht rfl) (fun h=>(fV rfl h))) (eX (iS (Ht rfl) (by simp [he]) ?_))))))))))))))
  refine ts (ro rfl (cQ cV) (ro rfl (cQ cV) (ro rfl (cQ (cJ 6)) (eX (Oc rfl (fZ (eU rfl) ?_) (fZ (eU rfl) ?_) (eU rfl))))))
  ·exact lL
  ·exact lL
 ·exact absurd hd (by simp; omega)
theorem Ai {z:List Qi} {s:List (List Qi)} {p:Nat} {e:Qi} {L M:Nat} (hs:cI s z.length z.length) (hp:p < z.length) (hz:z.length ≤ 1000) (hf:aS s L) (he2:aI e M) (hL:1 ≤ L) (hLb:L + 3 * M + 2 ≤ 1000000) (he:e ≠ Qi.zero):bA Tryz.prog 153 [fA z s,NT .i64 p,aE e] (fB [bP (tab z.length (fun i=>gm s i p / e)),bP (tab z.length (fun i=>gm s p i / e)),aF .i64 0]):=by
 have hsl:=hs.1
 have hspr:=hs.row hp
 haveI:=he2
 refine bA.intro Tryz.func153 rfl Tryz.ntmps153 rfl (fun cx=>(ts (rn rfl (fK (Ht rfl)) fun B3=>(rn rfl (fK (Ht rfl)) fun B5=>(ro rfl (cQ cV) (ro rfl (cQ cV) (ro rfl (cQ (cJ 0)) (eX (cK (cK (rG 32 5 (rG 32 5 (cY (ro rfl (eZ gS (Ht rfl) rfl) (ro rfl (eY A_78 Z_78 (Ht rfl) (i:=0) rfl rfl) (ro rfl (dK U_78 (Ht rfl) (by rw [List.length_map,hsl])) ?_))))))))))))))))
 refine ro rfl (cX (cJ 0)) (eX (eG ?_))
 refine mF (fun (i : Nat) (vU : Value) (vV : Value) => i ≤ z.length) (fun (i : Nat) (vU : Value) (vV : Value) => z.length - i) (fun (i : Nat) (vU : Value) (vV : Value) => [(1, NT .i64 p), (3, eH B3 0), (5, eH B5 0), (6, Is vU), (7, Is vV), (8, NT .i64 0), (16, NT .i64 z.length), (17, NT .i64 i)]) (fun (i : Nat) (vU : Value) (vV : Value) => [box B3 80 [bP z, bF s], box B5 32 (nb e), bN 32 5 vU ((tab i (fun i => gm s i p / e)).map aE), bN 32 5 vV ((tab i (fun i => gm s p i / e)).map aE)]) 0 _ _ (Nat.zero_le _)
  (zS rfl) (aU (aP rfl) (aU (aP rfl) (aU (cA rfl) (aU (cA rfl) aY)))) (fun i vU vV hi=>?_)
 refine ts (ro rfl (gJ (Ht rfl) (Ht rfl)) (eX (cK (dQ (Ht rfl) (fun hd=>?_) (fun hd=>?_)))))
 ·have hin : i < z.length := by simp only [decide_eq_true_eq] at hd; omega
  have hsr:=hs.row hin
  haveI g1:aI (gm s i p) L:=hf.get hL _ _
  haveI g2:aI (gm s p i) L:=hf.get hL _ _
  refine cU (cK (eG (ts (rm rfl (ra rfl (eX (cK (Y.D_start (m:=16) [] (bY (Ei:=[(3,_)]) rfl rfl (bQ (bJ rfl rfl) bX) rfl rfl (dX rfl (eZ gS (Ht rfl) rfl)) (bY (Ei:=[(21,_)]) rfl rfl (bQ (bZ 0 rfl rfl) bX) rfl rfl (dX rfl (eY A_78 Z_78 (Ht rfl) (i:=0) rfl rfl)) (bY (Ei:=[(9,_)]) rfl rfl (bQ (bJ rfl rfl) bX) rfl rfl (dX rfl (cX (Ht rfl))) (bY (Ei:=[(22,_),(23,_)]) rfl rfl (bQ (bZ 1 rfl rfl) (bQ (bZ 2 rfl rfl) bX)) rfl rfl (dX rfl (dZ U_78 Z_54 (Ht rfl) (Ht rfl) rfl (eQ (dY (d:=[]) zo)))) ?_))))))))))))
  refine bY (Ei:=[(24,_)]) rfl rfl (bQ (bZ 3 rfl rfl) bX) rfl rfl (dX rfl (dV A_54 Z_54 (Ht rfl))) (bY (Ei:=[(1,_)]) rfl rfl (bQ (bJ rfl rfl) bX) rfl rfl (dX rfl (cX (Ht rfl))) (bY (Ei:=[(25,_),(26,_)]) rfl rfl (bQ (bZ 4 rfl rfl) (bQ (bZ 5 rfl rfl) bX)) rfl rfl (dX rfl (dZ U_54 Z_32 (Ht rfl) (Ht rfl) rfl (eQ (dY (d:=Qi.zero) zo)))) (bY (Ei:=[(27,_)]) rfl rfl (bQ (bZ 6 rfl rfl) bX) rfl rfl (dX rfl (dV A_32 Z_32 (Ht rfl))) ?_)))
  refine bY (Ei:=[(28,_)]) rfl rfl (bQ (bZ 7 rfl rfl) bX) rfl rfl (dX rfl (aN aR (Ht rfl))) (bY (Ei:=[(5,_)]) rfl rfl (bQ (bJ rfl rfl) bX) rfl rfl (dX rfl (eJ A_32 Z_32 (Ht rfl) (i:=1) rfl rfl rfl)) (bY (Ei:=[(29,_),(30,_)]) rfl rfl (bQ (bZ 8 rfl rfl) (bQ (bZ 9 rfl rfl) bX)) rfl rfl (dX rfl (aH iD K_142 (sP (x:=gm s i p) (y:=e) (L:=L) (M:=M) zo) (Ht rfl) ⟨(Ht rfl),trivial⟩)) (bY (Ei:=[(31,_)]) rfl rfl (bQ (bZ 10 rfl rfl) bX) rfl rfl (dX rfl (cX (Ht rfl))) ?_)))
  refine bY (Ei:=[(20,_)]) rfl rfl (bQ (bZ 11 rfl rfl) bX) rfl rfl (dX rfl (dU (Ht rfl) rfl)) (bY (Ei:=[(20,_)]) rfl rfl (bQ (bZ 11 rfl rfl) bX) rfl rfl (dX rfl (dU (Ht rfl) rfl)) (Y.D_newp (Ei:=[]) (fun bb=>box bb 32 (nb (gm s i p / e))) 15 rfl rfl rfl bX rfl rfl (by kernel_rfl) (eW (Ts:=[Is (.bool false),Is (.slice none 0 0),Is (.bool false),Is (.slice none 0 0),Is (.slice none 0 0)]) O_32 rfl (fun V=>aW zd (aW zd (aW zd (aW zd (aW zd (aG))))))) ?_))
  refine Y.D_putN (Ei:=[(32,_)]) 14 rfl rfl rfl rfl rfl rfl (bQ (bZ 12 rfl rfl) bX) (fun bb=>nM Z_32 (Ht rfl) (Ht rfl) rfl (i:=0) rfl (aK rfl) rfl rfl) (Y.D_done aT rfl (by kernel_rfl) rfl (by simp [Y.okP]) rfl rfl (bU (bU (bU (bU (bU (bU (bU (bU (bU (bU (bU (bU (bU (bU (Y.F_newp (fun B10=>Y.F_putN (Y.F_nil ?_))))))))))))))))))
  refine ra rfl (eX (cK (gW (i:=4) (tt:=10) rfl rfl dB (cC [0,1,2,3] rfl (by decide) (Y.D_start (m:=16) [] (bY (Ei:=[(3,_)]) rfl rfl (bQ (bJ rfl rfl) bX) rfl rfl (dX rfl (eZ gS (Ht rfl) rfl)) (bY (Ei:=[(35,_)]) rfl rfl (bQ (bZ 0 rfl rfl) bX) rfl rfl (dX rfl (eY A_78 Z_78 (Ht rfl) (i:=0) rfl rfl)) (bY (Ei:=[(1,_)]) rfl rfl (bQ (bJ rfl rfl) bX) rfl rfl (dX rfl (cX (Ht rfl))) (bY (Ei:=[(36,_),(37,_)]) rfl rfl (bQ (bZ 1 rfl rfl) (bQ (bZ 2 rfl rfl) bX)) rfl rfl (dX rfl (dZ U_78 Z_54 (Ht rfl) (Ht rfl) rfl (eQ (dY (d:=[]) zo)))) ?_)))))))))
  refine bY (Ei:=[(38,_)]) rfl rfl (bQ (bZ 3 rfl rfl) bX) rfl rfl (dX rfl (dV A_54 Z_54 (Ht rfl))) (bY (Ei:=[(9,_)]) rfl rfl (bQ (bJ rfl rfl) bX) rfl rfl (dX rfl (cX (Ht rfl))) (bY (Ei:=[(39,_),(40,_)]) rfl rfl (bQ (bZ 4 rfl rfl) (bQ (bZ 5 rfl rfl) bX)) rfl rfl (dX rfl (dZ U_54 Z_32 (Ht rfl) (Ht rfl) rfl (eQ (dY (d:=Qi.zero) zo)))) (bY (Ei:=[(41,_)]) rfl rfl (bQ (bZ 6 rfl rfl) bX) rfl rfl (dX rfl (dV A_32 Z_32 (Ht rfl))) ?_)))
  refine bY (Ei:=[(42,_)]) rfl rfl (bQ (bZ 7 rfl rfl) bX) rfl rfl (dX rfl (aN aR (Ht rfl))) (bY (Ei:=[(5,_)]) rfl rfl (bQ (bJ rfl rfl) bX) rfl rfl (dX rfl (eJ A_32 Z_32 (Ht rfl) (i:=1) rfl rfl rfl)) (bY (Ei:=[(43,_),(44,_)]) rfl rfl (bQ (bZ 8 rfl rfl) (bQ (bZ 9 rfl rfl) bX)) rfl rfl (dX rfl (aH iD K_142 (sP (x:=gm s p i) (y:=e) (L:=L) (M:=M) zo) (Ht rfl) ⟨(Ht rfl),trivial⟩)) (bY (Ei:=[(45,_)]) rfl rfl (bQ (bZ 10 rfl rfl) bX) rfl rfl (dX rfl (cX (Ht rfl))) ?_)))
  refine bY (Ei:=[(34,_)]) rfl rfl (bQ (bZ 11 rfl rfl) bX) rfl rfl (dX rfl (dU (Ht rfl) rfl)) (bY (Ei:=[(34,_)]) rfl rfl (bQ (bZ 11 rfl rfl) bX) rfl rfl (dX rfl (dU (Ht rfl) rfl)) (Y.D_newp (Ei:=[]) (fun bb=>box bb 32 (nb (gm s p i / e))) 15 rfl rfl rfl bX rfl rfl (by kernel_rfl) (eW (Ts:=[Is (.bool false),Is (.slice none 0 0),Is (.bool false),Is (.slice none 0 0),Is (.slice none 0 0)]) O_32 rfl (fun V=>aW zd (aW zd (aW zd (aW zd (aW zd (aG))))))) ?_))
  refine Y.D_putN (Ei:=[(46,_)]) 14 rfl rfl rfl rfl rfl rfl (bQ (bZ 12 rfl rfl) bX) (fun bb=>nM Z_32 (Ht rfl) (Ht rfl) rfl (i:=0) rfl (aK rfl) rfl rfl) (Y.D_done aT rfl (by kernel_rfl) rfl (by simp [Y.okP]) rfl rfl (bU (bU (bU (bU (bU (bU (bU (bU (bU (bU (bU (bU (bU (bU (Y.F_newp (fun B12=>Y.F_putN (Y.F_nil ?_))))))))))))))))))
  refine ra rfl (eX (cK (cK (gW (i:=4) (tt:=12) rfl rfl dB (cC [0,1,2,3] rfl (by decide) (cY (rm rfl (ro rfl (fL (Ht rfl) cV) (rm rfl (fQ rfl rfl (eK rfl rfl (Ht rfl) (fun h=>cX (Ht rfl))) (fQ rfl rfl (eK rfl rfl (Ht rfl) (fun h=>fL (fV rfl h) cV)) (ro rfl (iF (Ht rfl) (fun h=>(fV rfl h))) (eX (cL (Ht rfl) (by simp [he]) ?_))))))))))))))
  refine cU (Y.D_startA (m:=7) [] 3 2 rfl rfl (bY (Ei:=[(6,_)]) rfl rfl (bQ (bJ rfl rfl) bX) rfl rfl (dX rfl (cX (Ht rfl))) (bY (Ei:=[(10,_)]) rfl rfl (bQ (bJ rfl rfl) bX) rfl rfl (dX rfl (dV A_32 Z_32 (Ht rfl))) (bY (Ei:=[(55,_)]) rfl rfl (bQ (bZ 1 rfl rfl) bX) rfl rfl (dX rfl (eO (xs:=[.tmp 55]) U_54 Z_32 O_32 (cW (Ht rfl) cG) rfl rfl rfl)) (Y.D_app (Ei:=[(54,_),(56,_)]) rfl rfl rfl rfl (bQ (bZ 0 rfl rfl) (bQ (bZ 2 rfl rfl) bX)) rfl (sE (inf:=Tryz.t32) jW iJ rfl rfl rfl (Ht rfl) (Ht rfl) (by simp) (fun T hT=>by simp at hT; subst hT; exact El.ag rfl) (by show _ * 88 ≤ _; simp only [List.length_map,bC,List.length_cons,List.length_nil]; omega) (by simp only [List.length_map,bC,List.length_cons,List.length_nil]; omega)) ?_)))))
  refine bY (Ei:=[(7,_)]) rfl rfl (bQ (bJ rfl rfl) bX) rfl rfl (dX rfl (cX (Ht rfl))) (bY (Ei:=[(12,_)]) rfl rfl (bQ (bJ rfl rfl) bX) rfl rfl (dX rfl (dV A_32 Z_32 (Ht rfl))) (bY (Ei:=[(59,_)]) rfl rfl (bQ (bZ 5 rfl rfl) bX) rfl rfl (dX rfl (eO (xs:=[.tmp 59]) U_54 Z_32 O_32 (cW (Ht rfl) cG) rfl rfl rfl)) (Y.D_done aT rfl (by kernel_rfl) rfl (by simp [Y.okP]) rfl rfl (bU (bU (bU (Y.F_app (fun v2=>bU (bU (bU (Y.F_nil ?_)))))))))))
  refine nY (inf:=Tryz.t32) jW iJ rfl rfl rfl (Ht rfl) (Ht rfl) (i:=3) rfl (by simp) (fun T hT=>by simp at hT; subst hT; exact El.ag rfl) (by show _ * 88 ≤ _; simp only [List.length_map,bC,List.length_cons,List.length_nil]; omega) (by simp only [List.length_map,bC,List.length_cons,List.length_nil]; omega) rfl (fun v3=>?_)
  refine ra rfl (ra rfl (eX (cF (cY (ro rfl (dW (Ht rfl) (cJ 1) z6) (rm rfl (eX ?_)))))))
  refine cC [0,1,4,3] rfl (by decide) (gQ (i + 1,v2,v3) hin (by dsimp only; omega) (zS rfl) (aU (aP rfl) (aU (aP rfl) (aU (cA (by rw [lZ,List.map_append]; rfl)) (aU (cA (by rw [lZ,List.map_append]; rfl)) aY)))))
 ·obtain rfl : i = z.length := by simp only [decide_eq_false_iff_not] at hd; omega
  refine gG rfl (cK (gW (i:=2) (tt:=6) rfl rfl kN (gW (i:=3) (tt:=7) rfl rfl kN (cY (rm rfl (rm rfl (ra rfl (ra rfl (ro rfl (cQ (cJ 0)) (eX ?_))))))))))
  exact Oc rfl (eU rfl) (eU rfl) (eU rfl)
theorem Pi {z:List Qi} {s:List (List Qi)} {p:Nat} {x:Qi} {F:Nat → Nat → Qi} (hs:cI s z.length z.length) (hp:p < z.length) (hz:z.length ≤ 1000):bA Tryz.prog 155 [fA z s,NT .i64 p,aE x,vP Tryz.prog (Fin z.length × Fin z.length) (fun x=>[NT .i64 x.1.1,NT .i64 x.2.1]) (fun x=>aE (F x.1.1 x.2.1))] (fA (z.set p x) (tab z.length fun i=>tab z.length fun j=>F i j)):=by
 refine bA.intro Tryz.func155 rfl Tryz.ntmps155 rfl (fun cx=>(ts (rn rfl (fK (Ht rfl)) fun B4=>(rn rfl (fK (Ht rfl)) fun B6=>(rn rfl (eW (Ts:=[Is (.slice none 0 0),Is (.slice none 0 0)]) O_80 rfl (fun V=>aW zd (aW zd (aG)))) fun B8=>(eX (cK (fJ (m:=5) (dp 4 rfl (eJ A_80 Z_80 (Ht rfl) (i:=0) rfl rfl rfl) (dp 4 rfl (eJ A_80 Z_80 (Ht rfl) (i:=0) rfl rfl rfl) (dq 11 1 rfl (cZ Tryz.call210 (Um (z:=z) (s:=s) zo) ⟨(Ht rfl),cV,trivial⟩) ?_)))))))))))
 refine C.D_new (Ei:=[(10,_),(12,_)]) rfl rfl rfl (bV (bG 0 rfl rfl) (bV (bG 2 rfl rfl) bW)) (Av Tryz.call211 (iH.pack (Uq (z:=z) (s:=s) (Q:=rL [] z.length) (m:=z.length) hs (fun x h=>Qs h) (Jc _) zo zo)) ⟨(Ht rfl),(Ht rfl),trivial⟩) (C.D_new (Ei:=[]) rfl rfl rfl bW (eW (Ts:=[Is (.slice none 0 0),Is (.slice none 0 0)]) O_80 rfl (fun V=>aW zd (aW zd (aG)))) (fW aT rfl (by kernel_rfl) (aJ (aJ (aJ (C.F_new (fun B13=>C.F_new (fun B9=>aV ?_))))))))
 refine gZ Z_80 (Ht rfl) (Ht rfl) rfl (i:=4) rfl (aK rfl) rfl rfl (eX (cK (cC [3,0,1,2,4] rfl (by decide) ?_)))
 obtain ⟨⟨vZ,bS⟩,hQ⟩:=B13
 refine a04 (X:=[SA.emp,bN 32 5 (.slice (some ⟨vZ,0,none⟩) z.length z.length) ((Nh z (rL [] z.length)).map aE),nL bS 54 32 5 (dD aE (Yc s (rL [] z.length)))]) (Y:=[box B4 80 [bP z,bF s],box B6 32 (nb x),box B8 80 [Is (.slice none 0 0),Is (.slice none 0 0)],box B9 80 [Is (.slice (some ⟨vZ,0,none⟩) z.length z.length),Is (.slice (some ⟨bS,0,none⟩) z.length z.length)]]) (cC [1,3,4,5,6] rfl (by decide) (mB 0 rfl (cA (congrArg (List.map aE) Tw)) (cY (ro rfl (eZ jC (Ht rfl) rfl) (ro rfl (Xa A_54 Z_54 (Ht rfl) (i:=4) rfl rfl) ?_)))))
 refine rm rfl (ro rfl (eJ A_32 Z_32 (Ht rfl) (i:=2) rfl rfl rfl) (ro rfl (iX U_54 Z_32 (Ht rfl) (Ht rfl) rfl (i:=0) rfl (by rw [List.length_map]; omega) rfl) ?_))
 refine rF Z_32 (Ht rfl) (Ht rfl) (El.ag rfl) (i:=0) rfl rfl (by rw [List.length_map]; omega) rfl ?_
 refine eX (ts (ro rfl (eZ jC (Ht rfl) rfl) (ro rfl (eY A_54 Z_54 (Ht rfl) (i:=1) rfl rfl) (ro rfl (dK U_54 (Ht rfl) aC) (rm rfl (ro rfl (cZ Tryz.call144 (Pb (n:=z.length) (f:=F) zo) ⟨(Ht rfl),(Ht rfl),trivial⟩) (ro rfl (eZ gS (Ht rfl) rfl) (jL Z_78 (Ht rfl) (Ht rfl) (i:=4) rfl (aK rfl) rfl (eX (cK (mB 0 rfl (cA (kB aE z p x)) (Ll 4 0 0 rfl rfl rfl (by decide) (cY (ro rfl (eJ A_80 Z_80 (Ht rfl) (i:=4) rfl rfl rfl) ?_))))))))))))))
 refine gZ Z_80 (Ht rfl) (Ht rfl) rfl (i:=3) rfl (aK rfl) rfl rfl (eX ?_)
 exact fG rfl (fU A_80 Z_80 rfl (i:=3) rfl rfl)
end
section
open Go Go.RowKit
theorem Dj {n i:Nat} {f:Nat → Qi} (h:i < n):(tab n f).getD i Qi.zero = f i:=oQ h
theorem Ce {s f:List (List Qi)} {p L:Nat} (hs:aS s L) (hf:aS f L) (hL:1 ≤ L):aI (jS s f p) (2 * L + 3):=by
 haveI:=hs.get hL p p; haveI:=hf.get hL 1 1; haveI:=tA
 exact (inferInstance:aI (Qi.ofInt 1 - gm f 1 1 * gm s p p) (1 + (L + L + 1) + 1)).le zo
theorem Ks {s f:List (List Qi)} {p L:Nat} (hs:aS s L) (hf:aS f L) (hL:1 ≤ L):aI (rO s f p) (5 * L + 5):=by
 haveI:=hs.get hL p p; haveI:=hf.get hL 1 1; haveI:=hf.get hL 0 0; haveI:=hf.get hL 0 1; haveI:=hf.get hL 1 0
 exact (inferInstance:aI (gm f 0 1 * gm f 1 0 + gm f 1 1 * (gm s p p - gm f 0 0)) ((L + L + 1) + (L + (L + L + 1) + 1) + 1)).le zo
theorem Qb {s f:List (List Qi)} {p i j L:Nat} (hs:aS s L) (hf:aS f L) (hL:1 ≤ L) (hd:jS s f p ≠ Qi.zero):aI (oO s f p i j) (20 * L + 20):=by
 haveI e:=Ce (p:=p) hs hf hL
 have q:∀ a b,aI (gm s a b / jS s f p) (7 * L + 11):=fun a b=>(vX (hs.get hL a b) e hd).le zo
 haveI q1:=q p p; haveI q2:=q i p; haveI q3:=q p j
 haveI:=hs.get hL i j; haveI:=hs.get hL p j; haveI:=hf.get hL 1 1; haveI:=hf.get hL 0 0; haveI:=hf.get hL 0 1; haveI:=hf.get hL 1 0
 rw [oO]
 split
 ·exact (inferInstance:aI (_ + _ * (_ * _)) (L + (L + (L + (7 * L + 11) + 1) + 1) + 1)).le zo
 ·split
  ·exact (inferInstance:aI (_ * _) ((7 * L + 11) + L + 1)).le zo
  ·split
   ·exact (inferInstance:aI (_ * _) (L + (7 * L + 11) + 1)).le zo
   ·exact (inferInstance:aI (_ + _ * (_ * _)) (L + ((7 * L + 11) + (L + L + 1) + 1) + 1)).le zo
theorem Em {s f:List (List Qi)} {p n L:Nat} (hs:aS s L) (hf:aS f L) (hL:1 ≤ L) (hd:jS s f p ≠ Qi.zero):aS (eB s f p n) (20 * L + 20):=aS.tab fun i j _ _=>Qb hs hf hL hd
theorem nJ {n i:Nat} {f:Nat → Qi} (h:i < n):((tab n f).map aE)[i]? = some (aE (f i)):=by rw [List.getElem?_map,dC h]; rfl
theorem Oo {z:List Qi} {s f:List (List Qi)} {p i j L:Nat} (hs:cI s z.length z.length) (hp:p < z.length) (hi:i < z.length) (hj:j < z.length) (hz:z.length ≤ 1000) (hfs:aS s L) (hff:aS f L) (hL:1 ≤ L) (hLb:L ≤ 60000) (hd:jS s f p ≠ Qi.zero):bA Tryz.prog 156 [NT .i64 i,NT .i64 j,PT (NT .i64 p),PT (aE (gm f 0 0)),PT (aE (gm f 0 1)),PT (aE (gm f 1 0)),PT (bP (tab z.length fun j=>gm s p j / jS s f p)),PT (bP (tab z.length fun i=>gm s i p / jS s f p)),PT (fA z s),PT (aE (gm f 1 1))] (aE (oO s f p i j)):=by
 have hsl:=hs.1
 have hsi:=hs.row hi
 have hsp:=hs.row hp
 haveI e:=Ce (p:=p) hfs hff hL
 have q:∀ a b,aI (gm s a b / jS s f p) (7 * L + 11):=fun a b=>(vX (hfs.get hL a b) e hd).le zo
 have hU:∀ k,k < z.length → (tab z.length fun i=>gm s i p / jS s f p).getD k Qi.zero = gm s k p / jS s f p:=fun k h=>Dj h
 have hV:∀ k,k < z.length → (tab z.length fun j=>gm s p j / jS s f p).getD k Qi.zero = gm s p k / jS s f p:=fun k h=>Dj h
 haveI:=q p p; haveI:=q i p; haveI:=q p j
 haveI:=hfs.get hL i j; haveI:=hfs.get hL p j; haveI:=hff.get hL 1 1; haveI:=hff.get hL 0 0; haveI:=hff.get hL 0 1; haveI:=hff.get hL 1 0
 refine bA.intro Tryz.func156 rfl Tryz.ntmps156 rfl (fun cx=>(ts (rn rfl (eW (Ts:=[Is (.bool false),Is (.slice none 0 0),Is (.bool false),Is (.slice none 0 0),Is (.slice none 0 0)]) O_32 rfl (fun V=>aW zd (aW zd (aW zd (aW zd (aW zd (aG))))))) fun B12=>(eX (cK (eG (ts (rm rfl (ro rfl (dV A_3 Z_3 (Ht rfl)) (ro rfl (dN (Ht rfl) (Ht rfl)) (rm rfl (fQ rfl rfl (eK rfl rfl (Ht rfl) (fun h=>cX (Ht rfl))) ?_))))))))))))
 refine fQ rfl rfl (eK rfl rfl (Ht rfl) (fun h=>dV A_3 Z_3 (Ht rfl))) (fQ rfl rfl (eK rfl rfl (Ht rfl) (fun h=>dN (fV rfl h) (fV rfl h))) (ro rfl (gA (Ht rfl) (fun h=>(fV rfl h))) (ra rfl (eX (dQ (Ht rfl) (fun hb1=>?_) (fun hb1=>?_))))))
 ·have h2 : i = p ∧ j = p := by simpa using hb1
  refine cK (fJ (m:=12) (dp 3 rfl (dV A_32 Z_32 (Ht rfl)) (dq 22 0 rfl (aN aR (Ht rfl)) (dp 4 rfl (dV A_32 Z_32 (Ht rfl)) (dq 24 2 rfl (aN aR (Ht rfl)) (dp 5 rfl (dV A_32 Z_32 (Ht rfl)) (dq 26 4 rfl (aN aR (Ht rfl)) (dp 6 rfl (dV A_54 Z_54 (Ht rfl)) (dp 2 rfl (dV A_3 Z_3 (Ht rfl)) (eD 28 6 29 7 rfl (dZ U_54 Z_32 (Ht rfl) (Ht rfl) rfl (nJ hp)) (dq 30 8 rfl (dV A_32 Z_32 (Ht rfl)) (eD 27 5 31 9 rfl (aH bE K_29 (iQ (x:=gm f 1 0) (y:=gm s p p / jS s f p) (L:=L) (M:=(7 * L + 11)) zo) (Ht rfl) ⟨(Ht rfl),trivial⟩) ?_))))))))))))
  refine eD 25 3 32 10 rfl (aH bE K_29 (iQ (x:=gm f 0 1) (y:=gm f 1 0 * (gm s p p / jS s f p)) (L:=L) (M:=L + (7 * L + 11) + 1) zo) (Ht rfl) ⟨(Ht rfl),trivial⟩) (fW aT rfl (by kernel_rfl) (zF (zF (zF (aV (ro rfl (aH jG K_33 (vB (x:=gm f 0 0) (y:=gm f 0 1 * (gm f 1 0 * (gm s p p / jS s f p))) (L:=L) (M:=L + (L + (7 * L + 11) + 1) + 1) zo) (Ht rfl) ⟨(Ht rfl),trivial⟩) (gZ Z_32 (Ht rfl) (Ht rfl) rfl (i:=0) rfl (aK rfl) rfl rfl ?_)))))))
  refine eX (fG rfl (fZ (fU A_32 Z_32 rfl (i:=0) rfl rfl) ?_))
  exact (gM (by rw [oO,if_pos h2]))
 ·have h2 : ¬ (i = p ∧ j = p) := by simpa using hb1
  refine ts (rm rfl (ro rfl (dV A_3 Z_3 (Ht rfl)) (ro rfl (dN (Ht rfl) (Ht rfl)) (ra rfl (eX (dQ (Ht rfl) (fun hb2=>?_) (fun hb2=>?_)))))))
  ·have h3 : j = p := by simpa using hb2
   refine cK (fJ (m:=6) (dp 7 rfl (dV A_54 Z_54 (Ht rfl)) (dp 0 rfl (cX (Ht rfl)) (eD 39 0 40 1 rfl (dZ U_54 Z_32 (Ht rfl) (Ht rfl) rfl (nJ hi)) (dq 41 2 rfl (dV A_32 Z_32 (Ht rfl)) (dq 42 3 rfl (aN aR (Ht rfl)) (dp 5 rfl (dV A_32 Z_32 (Ht rfl)) (fW aT rfl (by kernel_rfl) (zF (aJ (aJ (aV (ro rfl (aH bE K_29 (iQ (x:=gm s i p / jS s f p) (y:=gm f 1 0) (L:=(7 * L + 11)) (M:=L) zo) (Ht rfl) ⟨(Ht rfl),trivial⟩) ?_)))))))))))))
   refine gZ Z_32 (Ht rfl) (Ht rfl) rfl (i:=0) rfl (aK rfl) rfl rfl (eX (fG rfl (fZ (fU A_32 Z_32 rfl (i:=0) rfl rfl) ?_)))
   exact (gM (by rw [oO,if_neg h2,if_pos h3]))
  ·have h3 : ¬ j = p := by simpa using hb2
   refine ts (rm rfl (ro rfl (dV A_3 Z_3 (Ht rfl)) (ro rfl (dN (Ht rfl) (Ht rfl)) (ra rfl (eX (dQ (Ht rfl) (fun hb3=>?_) (fun hb3=>?_)))))))
   ·have h4 : i = p := by simpa using hb3
    refine cK (fJ (m:=6) (dp 4 rfl (dV A_32 Z_32 (Ht rfl)) (dq 50 0 rfl (aN aR (Ht rfl)) (dp 6 rfl (dV A_54 Z_54 (Ht rfl)) (dp 1 rfl (cX (Ht rfl)) (eD 52 2 53 3 rfl (dZ U_54 Z_32 (Ht rfl) (Ht rfl) rfl (nJ hj)) (dq 54 4 rfl (dV A_32 Z_32 (Ht rfl)) (fW aT rfl (by kernel_rfl) (zF (aJ (aJ (aV (ro rfl (aH bE K_29 (iQ (x:=gm f 0 1) (y:=gm s p j / jS s f p) (L:=L) (M:=(7 * L + 11)) zo) (Ht rfl) ⟨(Ht rfl),trivial⟩) ?_)))))))))))))
    refine gZ Z_32 (Ht rfl) (Ht rfl) rfl (i:=0) rfl (aK rfl) rfl rfl (eX (fG rfl (fZ (fU A_32 Z_32 rfl (i:=0) rfl rfl) ?_)))
    exact (gM (by rw [oO,if_neg h2,if_neg h3,if_pos h4]))
   ·have h4 : ¬ i = p := by simpa using hb3
    refine cU (cF (cK (fJ (m:=26) (dp 8 rfl (eC gS (Ht rfl) rfl) (dq 57 0 rfl (dV A_78 Z_78 (Ht rfl)) (dp 0 rfl (cX (Ht rfl)) (eD 58 1 59 2 rfl (dZ U_78 Z_54 (Ht rfl) (Ht rfl) rfl (eQ (dY (d:=[]) zo))) (dq 60 3 rfl (dV A_54 Z_54 (Ht rfl)) (dp 1 rfl (cX (Ht rfl)) (eD 61 4 62 5 rfl (dZ U_54 Z_32 (Ht rfl) (Ht rfl) rfl (eQ (dY (d:=Qi.zero) zo))) (dq 63 6 rfl (dV A_32 Z_32 (Ht rfl)) (dq 64 7 rfl (aN aR (Ht rfl)) ?_))))))))))))
    refine dp 7 rfl (dV A_54 Z_54 (Ht rfl)) (dp 0 rfl (cX (Ht rfl)) (eD 66 9 67 10 rfl (dZ U_54 Z_32 (Ht rfl) (Ht rfl) rfl (nJ hi)) (dq 68 11 rfl (dV A_32 Z_32 (Ht rfl)) (dq 69 12 rfl (aN aR (Ht rfl)) (dp 9 rfl (dV A_32 Z_32 (Ht rfl)) (dq 71 14 rfl (aN aR (Ht rfl)) (dp 8 rfl (eC gS (Ht rfl) rfl) (dq 73 16 rfl (dV A_78 Z_78 (Ht rfl)) (dp 2 rfl (dV A_3 Z_3 (Ht rfl)) (eD 74 17 75 18 rfl (dZ U_78 Z_54 (Ht rfl) (Ht rfl) rfl (eQ (dY (d:=[]) zo))) ?_))))))))))
    refine dq 76 19 rfl (dV A_54 Z_54 (Ht rfl)) (dp 1 rfl (cX (Ht rfl)) (eD 77 20 78 21 rfl (dZ U_54 Z_32 (Ht rfl) (Ht rfl) rfl (eQ (dY (d:=Qi.zero) zo))) (dq 79 22 rfl (dV A_32 Z_32 (Ht rfl)) (eD 72 15 80 23 rfl (aH bE K_29 (iQ (x:=gm f 1 1) (y:=gm s p j) (L:=L) (M:=L) zo) (Ht rfl) ⟨(Ht rfl),trivial⟩) (eD 70 13 81 24 rfl (aH bE K_29 (iQ (x:=gm s i p / jS s f p) (y:=gm f 1 1 * gm s p j) (L:=(7 * L + 11)) (M:=L + L + 1) zo) (Ht rfl) ⟨(Ht rfl),trivial⟩) ?_)))))
    refine fW aT rfl (by kernel_rfl) (zF (zF (zF (zF (zF (zF (aJ (aJ (aV (ro rfl (aH jG K_33 (vB (x:=gm s i j) (y:=gm s i p / jS s f p * (gm f 1 1 * gm s p j)) (L:=L) (M:=(7 * L + 11) + (L + L + 1) + 1) zo) (Ht rfl) ⟨(Ht rfl),trivial⟩) (gZ Z_32 (Ht rfl) (Ht rfl) rfl (i:=0) rfl (aK rfl) rfl rfl ?_)))))))))))
    refine eX (fG rfl (fZ (fU A_32 Z_32 rfl (i:=0) rfl rfl) ?_))
    exact (gM (by rw [oO,if_neg h2,if_neg h3,if_neg h4]))
theorem Lr {z:List Qi} {s f:List (List Qi)} {p i j L:Nat} (hs:cI s z.length z.length) (hp:p < z.length) (hi:i < z.length) (hj:j < z.length) (hz:z.length ≤ 1000) (hfs:aS s L) (hff:aS f L) (hL:1 ≤ L) (hLb:L ≤ 60000) (hd:rO s f p ≠ Qi.zero):bA Tryz.prog 171 [NT .i64 i,NT .i64 j,PT (NT .i64 p),PT (aE ((gm s p p - gm f 0 0) / rO s f p)),PT (bP (tab z.length fun i=>gm s i p / rO s f p)),PT (aE (gm f 0 1)),PT (aE (gm f 1 0)),PT (bP (tab z.length fun j=>gm s p j / rO s f p)),PT (fA z s),PT (aE (gm f 1 1))] (aE (Tg s f p i j)):=by
 have hsl:=hs.1
 have hsi:=hs.row hi
 have hsp:=hs.row hp
 haveI e:=Ks (p:=p) hfs hff hL
 have q:∀ a b,aI (gm s a b / rO s f p) (16 * L + 17):=fun a b=>(vX (hfs.get hL a b) e hd).le zo
 have hU:∀ k,k < z.length → (tab z.length fun i=>gm s i p / rO s f p).getD k Qi.zero = gm s k p / rO s f p:=fun k h=>Dj h
 have hV:∀ k,k < z.length → (tab z.length fun j=>gm s p j / rO s f p).getD k Qi.zero = gm s p k / rO s f p:=fun k h=>Dj h
 haveI:=q p p; haveI:=q i p; haveI:=q p j
 haveI:=hfs.get hL i j; haveI:=hfs.get hL p j; haveI:=hff.get hL 1 1; haveI:=hff.get hL 0 0; haveI:=hff.get hL 0 1; haveI:=hff.get hL 1 0
 refine bA.intro Tryz.func171 rfl Tryz.ntmps171 rfl (fun cx=>(ts (rn rfl (eW (Ts:=[Is (.bool false),Is (.slice none 0 0),Is (.bool false),Is (.slice none 0 0),Is (.slice none 0 0)]) O_32 rfl (fun V=>aW zd (aW zd (aW zd (aW zd (aW zd (aG))))))) fun B12=>(eX (cK (eG (ts (rm rfl (ro rfl (dV A_3 Z_3 (Ht rfl)) (ro rfl (dN (Ht rfl) (Ht rfl)) (rm rfl (fQ rfl rfl (eK rfl rfl (Ht rfl) (fun h=>cX (Ht rfl))) ?_))))))))))))
 refine fQ rfl rfl (eK rfl rfl (Ht rfl) (fun h=>dV A_3 Z_3 (Ht rfl))) (fQ rfl rfl (eK rfl rfl (Ht rfl) (fun h=>dN (fV rfl h) (fV rfl h))) (ro rfl (gA (Ht rfl) (fun h=>(fV rfl h))) (ra rfl (eX (dQ (Ht rfl) (fun hb1=>?_) (fun hb1=>?_))))))
 ·have h2 : i = p ∧ j = p := by simpa using hb1
  refine ts (ro rfl (dV A_32 Z_32 (Ht rfl)) (gZ Z_32 (Ht rfl) (Ht rfl) rfl (i:=0) rfl (aK rfl) rfl rfl (eX (fG rfl (fZ (fU A_32 Z_32 rfl (i:=0) rfl rfl) ?_)))))
  exact (gM (by rw [Tg,if_pos h2]))
 ·have h2 : ¬ (i = p ∧ j = p) := by simpa using hb1
  refine ts (rm rfl (ro rfl (dV A_3 Z_3 (Ht rfl)) (ro rfl (dN (Ht rfl) (Ht rfl)) (ra rfl (eX (dQ (Ht rfl) (fun hb2=>?_) (fun hb2=>?_)))))))
  ·have h3 : j = p := by simpa using hb2
   refine cK (fJ (m:=6) (dp 4 rfl (dV A_54 Z_54 (Ht rfl)) (dp 0 rfl (cX (Ht rfl)) (eD 27 0 28 1 rfl (dZ U_54 Z_32 (Ht rfl) (Ht rfl) rfl (nJ hi)) (dq 29 2 rfl (dV A_32 Z_32 (Ht rfl)) (dq 30 3 rfl (aN aR (Ht rfl)) (dp 5 rfl (dV A_32 Z_32 (Ht rfl)) (fW aT rfl (by kernel_rfl) (zF (aJ (aJ (aV (ro rfl (aH bE K_29 (iQ (x:=gm s i p / rO s f p) (y:=gm f 0 1) (L:=(16 * L + 17)) (M:=L) zo) (Ht rfl) ⟨(Ht rfl),trivial⟩) ?_)))))))))))))
   refine gZ Z_32 (Ht rfl) (Ht rfl) rfl (i:=0) rfl (aK rfl) rfl rfl (eX (fG rfl (fZ (fU A_32 Z_32 rfl (i:=0) rfl rfl) ?_)))
   exact (gM (by rw [Tg,if_neg h2,if_pos h3]))
  ·have h3 : ¬ j = p := by simpa using hb2
   refine ts (rm rfl (ro rfl (dV A_3 Z_3 (Ht rfl)) (ro rfl (dN (Ht rfl) (Ht rfl)) (ra rfl (eX (dQ (Ht rfl) (fun hb3=>?_) (fun hb3=>?_)))))))
   ·have h4 : i = p := by simpa using hb3
    refine cK (fJ (m:=6) (dp 6 rfl (dV A_32 Z_32 (Ht rfl)) (dq 38 0 rfl (aN aR (Ht rfl)) (dp 7 rfl (dV A_54 Z_54 (Ht rfl)) (dp 1 rfl (cX (Ht rfl)) (eD 40 2 41 3 rfl (dZ U_54 Z_32 (Ht rfl) (Ht rfl) rfl (nJ hj)) (dq 42 4 rfl (dV A_32 Z_32 (Ht rfl)) (fW aT rfl (by kernel_rfl) (zF (aJ (aJ (aV (ro rfl (aH bE K_29 (iQ (x:=gm f 1 0) (y:=gm s p j / rO s f p) (L:=L) (M:=(16 * L + 17)) zo) (Ht rfl) ⟨(Ht rfl),trivial⟩) ?_)))))))))))))
    refine gZ Z_32 (Ht rfl) (Ht rfl) rfl (i:=0) rfl (aK rfl) rfl rfl (eX (fG rfl (fZ (fU A_32 Z_32 rfl (i:=0) rfl rfl) ?_)))
    exact (gM (by rw [Tg,if_neg h2,if_neg h3,if_pos h4]))
   ·have h4 : ¬ i = p := by simpa using hb3
    refine cU (cF (cK (fJ (m:=26) (dp 8 rfl (eC gS (Ht rfl) rfl) (dq 45 0 rfl (dV A_78 Z_78 (Ht rfl)) (dp 0 rfl (cX (Ht rfl)) (eD 46 1 47 2 rfl (dZ U_78 Z_54 (Ht rfl) (Ht rfl) rfl (eQ (dY (d:=[]) zo))) (dq 48 3 rfl (dV A_54 Z_54 (Ht rfl)) (dp 1 rfl (cX (Ht rfl)) (eD 49 4 50 5 rfl (dZ U_54 Z_32 (Ht rfl) (Ht rfl) rfl (eQ (dY (d:=Qi.zero) zo))) (dq 51 6 rfl (dV A_32 Z_32 (Ht rfl)) (dq 52 7 rfl (aN aR (Ht rfl)) ?_))))))))))))
    refine dp 4 rfl (dV A_54 Z_54 (Ht rfl)) (dp 0 rfl (cX (Ht rfl)) (eD 54 9 55 10 rfl (dZ U_54 Z_32 (Ht rfl) (Ht rfl) rfl (nJ hi)) (dq 56 11 rfl (dV A_32 Z_32 (Ht rfl)) (dq 57 12 rfl (aN aR (Ht rfl)) (dp 9 rfl (dV A_32 Z_32 (Ht rfl)) (dq 59 14 rfl (aN aR (Ht rfl)) (dp 8 rfl (eC gS (Ht rfl) rfl) (dq 61 16 rfl (dV A_78 Z_78 (Ht rfl)) (dp 2 rfl (dV A_3 Z_3 (Ht rfl)) (eD 62 17 63 18 rfl (dZ U_78 Z_54 (Ht rfl) (Ht rfl) rfl (eQ (dY (d:=[]) zo))) ?_))))))))))
    refine dq 64 19 rfl (dV A_54 Z_54 (Ht rfl)) (dp 1 rfl (cX (Ht rfl)) (eD 65 20 66 21 rfl (dZ U_54 Z_32 (Ht rfl) (Ht rfl) rfl (eQ (dY (d:=Qi.zero) zo))) (dq 67 22 rfl (dV A_32 Z_32 (Ht rfl)) (eD 60 15 68 23 rfl (aH bE K_29 (iQ (x:=gm f 1 1) (y:=gm s p j) (L:=L) (M:=L) zo) (Ht rfl) ⟨(Ht rfl),trivial⟩) (eD 58 13 69 24 rfl (aH bE K_29 (iQ (x:=gm s i p / rO s f p) (y:=gm f 1 1 * gm s p j) (L:=(16 * L + 17)) (M:=L + L + 1) zo) (Ht rfl) ⟨(Ht rfl),trivial⟩) ?_)))))
    refine fW aT rfl (by kernel_rfl) (zF (zF (zF (zF (zF (zF (aJ (aJ (aV (ro rfl (aH iE K_32 (sQ (x:=gm s i j) (y:=gm s i p / rO s f p * (gm f 1 1 * gm s p j)) (L:=L) (M:=(16 * L + 17) + (L + L + 1) + 1) zo) (Ht rfl) ⟨(Ht rfl),trivial⟩) (gZ Z_32 (Ht rfl) (Ht rfl) rfl (i:=0) rfl (aK rfl) rfl rfl ?_)))))))))))
    refine eX (fG rfl (fZ (fU A_32 Z_32 rfl (i:=0) rfl rfl) ?_))
    exact (gM (by rw [Tg,if_neg h2,if_neg h3,if_neg h4]))
theorem Om {z fz:List Qi} {s f:List (List Qi)} {port:Int} {L:Nat} (hs:cI s z.length z.length) (hz1:1 ≤ z.length) (hz:z.length ≤ 1000) (hfs:aS s L) (hff:aS f L) (hfz:cD z L) (hfg:cD fz L) (hL:1 ≤ L) (hLb:L ≤ 60000) (h2:fz.length ≠ 2):bA Tryz.prog 66 [fA z s,aF .i64 port,fA fz f] (fB [fA (Vn z s fz f port) (Vm z s fz f port),aF .i64 (Cf z s fz f port)]):=by
 have hfx:rK z fz port 2 = 4:=a1F h2
 have he:Cf z s fz f port = 4:=(Yy (by rw [hfx]; decide)).trans hfx
 have hne:Cf z s fz f port ≠ 0:=by rw [he]; decide
 refine bA.intro Tryz.func66 rfl Tryz.ntmps66 rfl (fun cx=>(ts (rn rfl (fK (Ht rfl)) fun B3=>(rn rfl (fK (Ht rfl)) fun B5=>(rn rfl (eW (Ts:=[Is (.slice none 0 0),Is (.slice none 0 0)]) O_80 rfl (fun V=>aW zd (aW zd (aG)))) fun B6=>(ro rfl (cQ (cJ 0)) (eX (ts (ro rfl (eJ A_80 Z_80 (Ht rfl) (i:=0) rfl rfl rfl) (rm rfl (ro rfl (eJ A_80 Z_80 (Ht rfl) (i:=1) rfl rfl rfl) (ro rfl (cZ Tryz.call152 (Ad (x:=2) h2) ⟨(Ht rfl),(Ht rfl),(Ht rfl),(cJ 2),trivial⟩) ?_))))))))))))
 refine rm rfl (ro rfl (dU (Ht rfl) rfl) (ro rfl (dU (Ht rfl) rfl) (rn rfl (eW (Ts:=[Is (.bool false),Is (.slice none 0 0),Is (.bool false),Is (.slice none 0 0),Is (.slice none 0 0),Is (.bool false),Is (.slice none 0 0),Is (.bool false),Is (.slice none 0 0),Is (.slice none 0 0),Is (.bool false),Is (.slice none 0 0),Is (.bool false),Is (.slice none 0 0),Is (.slice none 0 0),Is (.bool false),Is (.slice none 0 0),Is (.bool false),Is (.slice none 0 0),Is (.slice none 0 0)]) O_240 rfl (fun V=>aW zd (aW zd (aW zd (aW zd (aW zd (aW zd (aW zd (aW zd (aW zd (aW zd (aW zd (aW zd (aW zd (aW zd (aW zd (aW zd (aW zd (aW zd (aW zd (aW zd (aG)))))))))))))))))))))) fun B8=>?_)))
 refine gZ Z_240 (Ht rfl) (Ht rfl) rfl (i:=3) rfl (aK rfl) rfl rfl (ra rfl (eX (cK (ts (rm rfl (ro rfl (fL (Ht rfl) cV) (eX (iS (Ht rfl) (by rfl) ?_))))))))
 refine ts (ro rfl (aM.imp (lH ) lK) (rm rfl (gZ Z_80 (Ht rfl) (Ht rfl) rfl (i:=2) rfl (aK rfl) rfl rfl (ra rfl (eX (cT rfl (fZ (fU A_80 Z_80 rfl (i:=2) rfl rfl) ?_) (fZ (eU rfl) ?_)))))))
 ·exact (fun v V h=>by rw [Vn,Vm,oG,oG,if_neg hne,if_neg hne]; exact h)
 ·exact (bR he.symm)
theorem Oq {z fz:List Qi} {s f:List (List Qi)} {port:Int} {L:Nat} (hs:cI s z.length z.length) (hz1:1 ≤ z.length) (hz:z.length ≤ 1000) (hfs:aS s L) (hff:aS f L) (hfz:cD z L) (hfg:cD fz L) (hL:1 ≤ L) (hLb:L ≤ 60000) (h2:fz.length = 2) (hf:cI f 2 2):bA Tryz.prog 66 [fA z s,aF .i64 port,fA fz f] (fB [fA (Vn z s fz f port) (Vm z s fz f port),aF .i64 (Cf z s fz f port)]):=by
 have hsl:=hs.1
 haveI h1f:=tA
 refine bA.intro Tryz.func66 rfl Tryz.ntmps66 rfl (fun cx=>(ts (rn rfl (fK (Ht rfl)) fun B3=>(rn rfl (fK (Ht rfl)) fun B5=>(rn rfl (eW (Ts:=[Is (.slice none 0 0),Is (.slice none 0 0)]) O_80 rfl (fun V=>aW zd (aW zd (aG)))) fun B6=>(ro rfl (cQ (cJ 0)) (eX (ts (ro rfl (eJ A_80 Z_80 (Ht rfl) (i:=0) rfl rfl rfl) (rm rfl (ro rfl (eJ A_80 Z_80 (Ht rfl) (i:=1) rfl rfl rfl) (ro rfl (cZ Tryz.call152 (Ae (x:=2) (L:=L) h2 hf (by decide) hfz hfg hL zo hz) ⟨(Ht rfl),(Ht rfl),(Ht rfl),(cJ 2),trivial⟩) ?_))))))))))))
 refine rm rfl (ro rfl (dU (Ht rfl) rfl) (ro rfl (dU (Ht rfl) rfl) (rn rfl (eW (Ts:=[Is (.bool false),Is (.slice none 0 0),Is (.bool false),Is (.slice none 0 0),Is (.slice none 0 0),Is (.bool false),Is (.slice none 0 0),Is (.bool false),Is (.slice none 0 0),Is (.slice none 0 0),Is (.bool false),Is (.slice none 0 0),Is (.bool false),Is (.slice none 0 0),Is (.slice none 0 0),Is (.bool false),Is (.slice none 0 0),Is (.bool false),Is (.slice none 0 0),Is (.slice none 0 0)]) O_240 rfl (fun V=>aW zd (aW zd (aW zd (aW zd (aW zd (aW zd (aW zd (aW zd (aW zd (aW zd (aW zd (aW zd (aW zd (aW zd (aW zd (aW zd (aW zd (aW zd (aW zd (aW zd (aG)))))))))))))))))))))) fun B8=>?_)))
 refine gZ Z_240 (Ht rfl) (Ht rfl) rfl (i:=3) rfl (aK rfl) rfl rfl (ra rfl (eX (cK (ts (rm rfl (ro rfl (fL (Ht rfl) cV) (eX (dQ (Ht rfl) (fun hc=>?_) (fun hc=>?_)))))))))
 ·have hfx : rK z fz port 2 ≠ 0 := by simpa using hc
  have he:Cf z s fz f port = rK z fz port 2:=Yy hfx
  have hne:Cf z s fz f port ≠ 0:=by rw [he]; exact hfx
  refine ts (ro rfl (aM.imp (lH ) lK) (rm rfl (gZ Z_80 (Ht rfl) (Ht rfl) rfl (i:=2) rfl (aK rfl) rfl rfl (ra rfl (eX (cT rfl (fZ (fU A_80 Z_80 rfl (i:=2) rfl rfl) ?_) (fZ (eU rfl) ?_)))))))
  ·exact (fun v V h=>by rw [Vn,Vm,oG,oG,if_neg hne,if_neg hne]; exact h)
  ·exact (bR he.symm)
 ·have hfx : rK z fz port 2 = 0 := by simpa using hc
  obtain ⟨_,hb2,hzz⟩:=Za hfx
  obtain ⟨p,hp⟩:∃ p,p = (port - 1).toNat:=⟨_,rfl⟩
  have hpe:port - 1 = (p:Int):=by omega
  have hpl:p < z.length:=by omega
  have hspr:=hs.row hpl
  haveI:=hfs.get hL p p; haveI:=hff.get hL 1 1; haveI:=hff.get hL 0 0; haveI:=hff.get hL 0 1; haveI:=hff.get hL 1 0
  refine cU (cK (Y.D_start (m:=23) [] (bY (Ei:=[(8,_)]) rfl rfl (bQ (bJ rfl rfl) bX) rfl rfl (dX rfl (gK U_240 Z_188 (Ht rfl) (cJ 0) rfl (by decide) rfl)) (bY (Ei:=[(28,_)]) rfl rfl (bQ (bZ 0 rfl rfl) bX) rfl rfl (dX rfl (gK U_188 Z_32 (Ht rfl) (cJ 0) rfl (by decide) rfl)) (bY (Ei:=[(29,_)]) rfl rfl (bQ (bZ 1 rfl rfl) bX) rfl rfl (dX rfl (eJ A_32 Z_32 (Ht rfl) (i:=3) rfl rfl rfl)) ?_)))))
  refine bY (Ei:=[(8,_)]) rfl rfl (bQ (bJ rfl rfl) bX) rfl rfl (dX rfl (gK U_240 Z_188 (Ht rfl) (cJ 0) rfl (by decide) rfl)) (bY (Ei:=[(31,_)]) rfl rfl (bQ (bZ 3 rfl rfl) bX) rfl rfl (dX rfl (gK U_188 Z_32 (Ht rfl) (cJ 1) rfl (by decide) rfl)) (bY (Ei:=[(32,_)]) rfl rfl (bQ (bZ 4 rfl rfl) bX) rfl rfl (dX rfl (eJ A_32 Z_32 (Ht rfl) (i:=3) rfl rfl rfl)) (bY (Ei:=[(8,_)]) rfl rfl (bQ (bJ rfl rfl) bX) rfl rfl (dX rfl (gK U_240 Z_188 (Ht rfl) (cJ 1) rfl (by decide) rfl)) ?_)))
  refine bY (Ei:=[(34,_)]) rfl rfl (bQ (bZ 6 rfl rfl) bX) rfl rfl (dX rfl (gK U_188 Z_32 (Ht rfl) (cJ 0) rfl (by decide) rfl)) (bY (Ei:=[(35,_)]) rfl rfl (bQ (bZ 7 rfl rfl) bX) rfl rfl (dX rfl (eJ A_32 Z_32 (Ht rfl) (i:=3) rfl rfl rfl)) (bY (Ei:=[(8,_)]) rfl rfl (bQ (bJ rfl rfl) bX) rfl rfl (dX rfl (gK U_240 Z_188 (Ht rfl) (cJ 1) rfl (by decide) rfl)) (bY (Ei:=[(37,_)]) rfl rfl (bQ (bZ 9 rfl rfl) bX) rfl rfl (dX rfl (gK U_188 Z_32 (Ht rfl) (cJ 1) rfl (by decide) rfl)) ?_)))
  refine bY (Ei:=[(38,_)]) rfl rfl (bQ (bZ 10 rfl rfl) bX) rfl rfl (dX rfl (eJ A_32 Z_32 (Ht rfl) (i:=3) rfl rfl rfl)) (bY (Ei:=[(1,_)]) rfl rfl (bQ (bJ rfl rfl) bX) rfl rfl (dX rfl (cX (Ht rfl))) (bY (Ei:=[(40,_)]) rfl rfl (bQ (bZ 12 rfl rfl) bX) rfl rfl (dX rfl (jU (Ht rfl) cV (r:=((p:Nat):Int)) ((Ip (z:=port - 1) zo).trans zo))) ?_))
  refine Y.D_newp (Ei:=[]) (fun bb=>box bb 32 (nb (gm f 0 0))) 19 rfl rfl rfl bX rfl rfl (by kernel_rfl) (eW (Ts:=[Is (.bool false),Is (.slice none 0 0),Is (.bool false),Is (.slice none 0 0),Is (.slice none 0 0)]) O_32 rfl (fun V=>aW zd (aW zd (aW zd (aW zd (aW zd (aG))))))) (Y.D_newp (Ei:=[]) (fun bb=>box bb 32 (nb (gm f 0 1))) 20 rfl rfl rfl bX rfl rfl (by kernel_rfl) (eW (Ts:=[Is (.bool false),Is (.slice none 0 0),Is (.bool false),Is (.slice none 0 0),Is (.slice none 0 0)]) O_32 rfl (fun V=>aW zd (aW zd (aW zd (aW zd (aW zd (aG))))))) ?_)
  refine Y.D_newp (Ei:=[]) (fun bb=>box bb 32 (nb (gm f 1 0))) 21 rfl rfl rfl bX rfl rfl (by kernel_rfl) (eW (Ts:=[Is (.bool false),Is (.slice none 0 0),Is (.bool false),Is (.slice none 0 0),Is (.slice none 0 0)]) O_32 rfl (fun V=>aW zd (aW zd (aW zd (aW zd (aW zd (aG))))))) (Y.D_newp (Ei:=[]) (fun bb=>box bb 32 (nb (gm f 1 1))) 22 rfl rfl rfl bX rfl rfl (by kernel_rfl) (eW (Ts:=[Is (.bool false),Is (.slice none 0 0),Is (.bool false),Is (.slice none 0 0),Is (.slice none 0 0)]) O_32 rfl (fun V=>aW zd (aW zd (aW zd (aW zd (aW zd (aG))))))) ?_)
  refine Y.D_new (Ei:=[]) rfl rfl rfl bX rfl rfl (eW (Ts:=[Is (.int .i64 0)]) O_3 rfl (fun V=>aW zd (aG))) (Y.D_putN (Ei:=[(30,_)]) 14 rfl rfl rfl rfl rfl rfl (bQ (bZ 2 rfl rfl) bX) (fun bb=>nM Z_32 (Ht rfl) (Ht rfl) rfl (i:=0) rfl (aK rfl) rfl rfl) (Y.D_putN (Ei:=[(33,_)]) 15 rfl rfl rfl rfl rfl rfl (bQ (bZ 5 rfl rfl) bX) (fun bb=>nM Z_32 (Ht rfl) (Ht rfl) rfl (i:=0) rfl (aK rfl) rfl rfl) (Y.D_putN (Ei:=[(36,_)]) 16 rfl rfl rfl rfl rfl rfl (bQ (bZ 8 rfl rfl) bX) (fun bb=>nM Z_32 (Ht rfl) (Ht rfl) rfl (i:=0) rfl (aK rfl) rfl rfl) ?_)))
  refine Y.D_putN (Ei:=[(39,_)]) 17 rfl rfl rfl rfl rfl rfl (bQ (bZ 11 rfl rfl) bX) (fun bb=>nM Z_32 (Ht rfl) (Ht rfl) rfl (i:=0) rfl (aK rfl) rfl rfl) (Y.D_done aT rfl (by kernel_rfl) rfl (by simp [Y.okP]) rfl rfl (bU (bU (bU (bU (bU (bU (bU (bU (bU (bU (bU (bU (bU (bU (Y.F_newp (fun B10=>Y.F_newp (fun B11=>Y.F_newp (fun B12=>Y.F_newp (fun B13=>Y.F_new (fun B14=>Y.F_putN (Y.F_putN (Y.F_putN (Y.F_putN (Y.F_nil ?_)))))))))))))))))))))))))
  refine jL Z_3 (Ht rfl) (Ht rfl) (i:=8) rfl (aK rfl) rfl (eX (cK (gW (i:=4) (tt:=10) rfl rfl dB (gW (i:=5) (tt:=11) rfl rfl dB (gW (i:=6) (tt:=12) rfl rfl dB (gW (i:=7) (tt:=13) rfl rfl dB (gW (i:=8) (tt:=14) rfl rfl eT (gW (i:=0) (tt:=3) rfl rfl dB (cC [1,2] rfl (by decide) ?_)))))))))
  have hDf:=Ce (p:=p) hfs hff hL
  by_cases hD:jS s f p = Qi.zero
  ·refine Y.D_start (m := 25) [] (bY (Ei := [(3, _)]) rfl rfl (bQ (bJ rfl rfl) bX) rfl rfl (dX rfl (dV A_80 Z_80 (Ht rfl))) (bY (Ei := [(14, _)]) rfl rfl (bQ (bJ rfl rfl) bX) rfl rfl (dX rfl (dV A_3 Z_3 (Ht rfl))) (bY (Ei := []) rfl rfl bX rfl rfl (dX rfl (cZ Tryz.call154 (Jr (n := 1) (by decide) (by decide)) ⟨(cJ 1), trivial⟩)) (bY (Ei := [(45, _)]) rfl rfl (bQ (bZ 2 rfl rfl) bX) rfl rfl (dX rfl (aN aR (Ht rfl))) ?_))))
   refine bY (Ei:=[(13,_)]) rfl rfl (bQ (bJ rfl rfl) bX) rfl rfl (dX rfl (dV A_32 Z_32 (Ht rfl))) (bY (Ei:=[(47,_)]) rfl rfl (bQ (bZ 4 rfl rfl) bX) rfl rfl (dX rfl (aN aR (Ht rfl))) (bY (Ei:=[(3,_)]) rfl rfl (bQ (bJ rfl rfl) bX) rfl rfl (dX rfl (eC gS (Ht rfl) rfl)) (bY (Ei:=[(49,_)]) rfl rfl (bQ (bZ 6 rfl rfl) bX) rfl rfl (dX rfl (dV A_78 Z_78 (Ht rfl))) (bY (Ei:=[(14,_)]) rfl rfl (bQ (bJ rfl rfl) bX) rfl rfl (dX rfl (dV A_3 Z_3 (Ht rfl))) ?_))))
   refine bY (Ei:=[(50,_),(51,_)]) rfl rfl (bQ (bZ 7 rfl rfl) (bQ (bZ 8 rfl rfl) bX)) rfl rfl (dX rfl (dZ U_78 Z_54 (Ht rfl) (Ht rfl) rfl (eQ (dY (d:=[]) zo)))) (bY (Ei:=[(52,_)]) rfl rfl (bQ (bZ 9 rfl rfl) bX) rfl rfl (dX rfl (dV A_54 Z_54 (Ht rfl))) (bY (Ei:=[(14,_)]) rfl rfl (bQ (bJ rfl rfl) bX) rfl rfl (dX rfl (dV A_3 Z_3 (Ht rfl))) (bY (Ei:=[(53,_),(54,_)]) rfl rfl (bQ (bZ 10 rfl rfl) (bQ (bZ 11 rfl rfl) bX)) rfl rfl (dX rfl (dZ U_54 Z_32 (Ht rfl) (Ht rfl) rfl (eQ (dY (d:=Qi.zero) zo)))) ?_)))
   refine bY (Ei:=[(55,_)]) rfl rfl (bQ (bZ 12 rfl rfl) bX) rfl rfl (dX rfl (dV A_32 Z_32 (Ht rfl))) (bY (Ei:=[(48,_),(56,_)]) rfl rfl (bQ (bZ 5 rfl rfl) (bQ (bZ 13 rfl rfl) bX)) rfl rfl (dX rfl (aH bE K_29 (iQ (x:=gm f 1 1) (y:=gm s p p) (L:=L) (M:=L) zo) (Ht rfl) ⟨(Ht rfl),trivial⟩)) (bY (Ei:=[(46,_),(57,_)]) rfl rfl (bQ (bZ 3 rfl rfl) (bQ (bZ 14 rfl rfl) bX)) rfl rfl (dX rfl (aH iE K_32 (sQ (x:=Qi.ofInt 1) (y:=gm f 1 1 * gm s p p) (L:=1) (M:=L + L + 1) zo) (Ht rfl) ⟨(Ht rfl),trivial⟩)) ?_))
   refine bY (Ei:=[(43,_),(44,_),(58,_)]) rfl rfl (bQ (bZ 0 rfl rfl) (bQ (bZ 1 rfl rfl) (bQ (bZ 15 rfl rfl) bX))) rfl rfl (dX rfl (cZ Tryz.call153 (Ah (z:=z) (s:=s) (p:=p) (e:=jS s f p) (L:=L) (M:=2 * L + 3) hs hpl hz hfs hDf hL zo hD) ⟨(Ht rfl),(Ht rfl),(Ht rfl),trivial⟩)) (bY (Ei:=[(59,_)]) rfl rfl (bQ (bZ 16 rfl rfl) bX) rfl rfl (dX rfl (cX (Ht rfl))) (bY (Ei:=[(42,_)]) rfl rfl (bQ (bZ 17 rfl rfl) bX) rfl rfl (dX rfl (dU (Ht rfl) rfl)) ?_))
   refine bY (Ei:=[(42,_)]) rfl rfl (bQ (bZ 17 rfl rfl) bX) rfl rfl (dX rfl (dU (Ht rfl) rfl)) (bY (Ei:=[(42,_)]) rfl rfl (bQ (bZ 17 rfl rfl) bX) rfl rfl (dX rfl (dU (Ht rfl) rfl)) (Y.D_newp (Ei:=[]) (fun bb=>box bb 54 [bP []]) 23 rfl rfl rfl bX rfl rfl (by kernel_rfl) (eW (Ts:=[Is (.slice none 0 0)]) O_54 rfl (fun V=>aW zd (aG))) (Y.D_newp (Ei:=[]) (fun bb=>box bb 54 [bP []]) 24 rfl rfl rfl bX rfl rfl (by kernel_rfl) (eW (Ts:=[Is (.slice none 0 0)]) O_54 rfl (fun V=>aW zd (aG))) ?_)))
   refine Y.D_putN (Ei:=[(60,_)]) 21 rfl rfl rfl rfl rfl rfl (bQ (bZ 18 rfl rfl) bX) (fun bb=>Iw Z_54 (Ht rfl) (Ht rfl) (i:=0) rfl (aK rfl) rfl rfl) (Y.D_putN (Ei:=[(61,_)]) 22 rfl rfl rfl rfl rfl rfl (bQ (bZ 19 rfl rfl) bX) (fun bb=>Iw Z_54 (Ht rfl) (Ht rfl) (i:=0) rfl (aK rfl) rfl rfl) (Y.D_done aT rfl (by kernel_rfl) rfl (by simp [Y.okP]) rfl rfl (bU (bU (bU (bU (bU (bU (bU (bU (bU (bU (bU (bU (bU (bU (bU (bU (bU (bU (bU (bU (bU (Y.F_newp (fun B15=>Y.F_newp (fun B16=>Y.F_putN (Y.F_putN (Y.F_nil ?_))))))))))))))))))))))))))))
   refine ra rfl (eX (cK (cK ?_)))
   have he:Cf z s fz f port = 6:=Yz hfx (by rw [← hp]; exact hD)
   have hne:Cf z s fz f port ≠ 0:=by rw [he]; decide
   refine cY (rm rfl (ro rfl (fL (Ht rfl) cV) (eX (iS (Ht rfl) (by rfl) ?_))))
   refine ts (ro rfl (aM.imp (lH ) lK) (rm rfl (gZ Z_80 (Ht rfl) (Ht rfl) rfl (i:=1) rfl (aK rfl) rfl rfl (ra rfl (eX (cT rfl (fZ (fU A_80 Z_80 rfl (i:=1) rfl rfl) ?_) (fZ (eU rfl) ?_)))))))
   ·exact (fun v V h=>by rw [Vn,Vm,oG,oG,if_neg hne,if_neg hne]; exact h)
   ·exact (bR he.symm)
  ·refine Y.D_start (m := 25) [] (bY (Ei := [(3, _)]) rfl rfl (bQ (bJ rfl rfl) bX) rfl rfl (dX rfl (dV A_80 Z_80 (Ht rfl))) (bY (Ei := [(14, _)]) rfl rfl (bQ (bJ rfl rfl) bX) rfl rfl (dX rfl (dV A_3 Z_3 (Ht rfl))) (bY (Ei := []) rfl rfl bX rfl rfl (dX rfl (cZ Tryz.call154 (Jr (n := 1) (by decide) (by decide)) ⟨(cJ 1), trivial⟩)) (bY (Ei := [(45, _)]) rfl rfl (bQ (bZ 2 rfl rfl) bX) rfl rfl (dX rfl (aN aR (Ht rfl))) ?_))))
   refine bY (Ei:=[(13,_)]) rfl rfl (bQ (bJ rfl rfl) bX) rfl rfl (dX rfl (dV A_32 Z_32 (Ht rfl))) (bY (Ei:=[(47,_)]) rfl rfl (bQ (bZ 4 rfl rfl) bX) rfl rfl (dX rfl (aN aR (Ht rfl))) (bY (Ei:=[(3,_)]) rfl rfl (bQ (bJ rfl rfl) bX) rfl rfl (dX rfl (eC gS (Ht rfl) rfl)) (bY (Ei:=[(49,_)]) rfl rfl (bQ (bZ 6 rfl rfl) bX) rfl rfl (dX rfl (dV A_78 Z_78 (Ht rfl))) (bY (Ei:=[(14,_)]) rfl rfl (bQ (bJ rfl rfl) bX) rfl rfl (dX rfl (dV A_3 Z_3 (Ht rfl))) ?_))))
   refine bY (Ei:=[(50,_),(51,_)]) rfl rfl (bQ (bZ 7 rfl rfl) (bQ (bZ 8 rfl rfl) bX)) rfl rfl (dX rfl (dZ U_78 Z_54 (Ht rfl) (Ht rfl) rfl (eQ (dY (d:=[]) zo)))) (bY (Ei:=[(52,_)]) rfl rfl (bQ (bZ 9 rfl rfl) bX) rfl rfl (dX rfl (dV A_54 Z_54 (Ht rfl))) (bY (Ei:=[(14,_)]) rfl rfl (bQ (bJ rfl rfl) bX) rfl rfl (dX rfl (dV A_3 Z_3 (Ht rfl))) (bY (Ei:=[(53,_),(54,_)]) rfl rfl (bQ (bZ 10 rfl rfl) (bQ (bZ 11 rfl rfl) bX)) rfl rfl (dX rfl (dZ U_54 Z_32 (Ht rfl) (Ht rfl) rfl (eQ (dY (d:=Qi.zero) zo)))) ?_)))
   refine bY (Ei:=[(55,_)]) rfl rfl (bQ (bZ 12 rfl rfl) bX) rfl rfl (dX rfl (dV A_32 Z_32 (Ht rfl))) (bY (Ei:=[(48,_),(56,_)]) rfl rfl (bQ (bZ 5 rfl rfl) (bQ (bZ 13 rfl rfl) bX)) rfl rfl (dX rfl (aH bE K_29 (iQ (x:=gm f 1 1) (y:=gm s p p) (L:=L) (M:=L) zo) (Ht rfl) ⟨(Ht rfl),trivial⟩)) (bY (Ei:=[(46,_),(57,_)]) rfl rfl (bQ (bZ 3 rfl rfl) (bQ (bZ 14 rfl rfl) bX)) rfl rfl (dX rfl (aH iE K_32 (sQ (x:=Qi.ofInt 1) (y:=gm f 1 1 * gm s p p) (L:=1) (M:=L + L + 1) zo) (Ht rfl) ⟨(Ht rfl),trivial⟩)) ?_))
   refine bY (Ei:=[(43,_),(44,_),(58,_)]) rfl rfl (bQ (bZ 0 rfl rfl) (bQ (bZ 1 rfl rfl) (bQ (bZ 15 rfl rfl) bX))) rfl rfl (dX rfl (cZ Tryz.call153 (Ai (z:=z) (s:=s) (p:=p) (e:=jS s f p) (L:=L) (M:=2 * L + 3) hs hpl hz hfs hDf hL zo hD) ⟨(Ht rfl),(Ht rfl),(Ht rfl),trivial⟩)) (bY (Ei:=[(59,_)]) rfl rfl (bQ (bZ 16 rfl rfl) bX) rfl rfl (dX rfl (cX (Ht rfl))) (bY (Ei:=[(42,_)]) rfl rfl (bQ (bZ 17 rfl rfl) bX) rfl rfl (dX rfl (dU (Ht rfl) rfl)) ?_))
   refine bY (Ei:=[(42,_)]) rfl rfl (bQ (bZ 17 rfl rfl) bX) rfl rfl (dX rfl (dU (Ht rfl) rfl)) (bY (Ei:=[(42,_)]) rfl rfl (bQ (bZ 17 rfl rfl) bX) rfl rfl (dX rfl (dU (Ht rfl) rfl)) (Y.D_newp (Ei:=[]) (fun bb=>box bb 54 [bP (tab z.length fun i=>gm s i p / jS s f p)]) 23 rfl rfl rfl bX rfl rfl (by kernel_rfl) (eW (Ts:=[Is (.slice none 0 0)]) O_54 rfl (fun V=>aW zd (aG))) (Y.D_newp (Ei:=[]) (fun bb=>box bb 54 [bP (tab z.length fun j=>gm s p j / jS s f p)]) 24 rfl rfl rfl bX rfl rfl (by kernel_rfl) (eW (Ts:=[Is (.slice none 0 0)]) O_54 rfl (fun V=>aW zd (aG))) ?_)))
   refine Y.D_putN (Ei:=[(60,_)]) 21 rfl rfl rfl rfl rfl rfl (bQ (bZ 18 rfl rfl) bX) (fun bb=>Iw Z_54 (Ht rfl) (Ht rfl) (i:=0) rfl (aK rfl) rfl rfl) (Y.D_putN (Ei:=[(61,_)]) 22 rfl rfl rfl rfl rfl rfl (bQ (bZ 19 rfl rfl) bX) (fun bb=>Iw Z_54 (Ht rfl) (Ht rfl) (i:=0) rfl (aK rfl) rfl rfl) (Y.D_done aT rfl (by kernel_rfl) rfl (by simp [Y.okP]) rfl rfl (bU (bU (bU (bU (bU (bU (bU (bU (bU (bU (bU (bU (bU (bU (bU (bU (bU (bU (bU (bU (bU (Y.F_newp (fun B15=>Y.F_newp (fun B16=>Y.F_putN (Y.F_putN (Y.F_nil ?_))))))))))))))))))))))))))))
   refine ra rfl (eX (cK (cK ?_)))
   have he:Cf z s fz f port = 0:=Qa hfx (by rw [← hp]; exact hD)
   refine gW (i:=2) (tt:=15) rfl rfl eT (gW (i:=3) (tt:=16) rfl rfl eT (cY (rm rfl (ro rfl (fL (Ht rfl) cV) (eX (cL (Ht rfl) (by rfl) ?_))))))
   refine cU (cK (fJ (m:=7) (dp 3 rfl (dV A_80 Z_80 (Ht rfl)) (dp 14 rfl (dV A_3 Z_3 (Ht rfl)) (dp 5 rfl (eZ jC (Ht rfl) rfl) (dq 69 2 rfl (eY A_54 Z_54 (Ht rfl) (i:=0) rfl rfl) (dq 70 3 rfl (dZ U_54 Z_32 (Ht rfl) (cJ 0) rfl (eQ (dY (d:=Qi.zero) zo))) (dq 71 4 rfl (dV A_32 Z_32 (Ht rfl)) (C.D_step (Ei:=[(14,_),(10,_),(11,_),(12,_),(16,_),(15,_),(3,_),(13,_)]) rfl rfl (bV (bK rfl rfl) (bV (bK rfl rfl) (bV (bK rfl rfl) (bV (bK rfl rfl) (bV (bK rfl rfl) (bV (bK rfl rfl) (bV (bK rfl rfl) (bV (bK rfl rfl) bW)))))))) (dX rfl (kP (γ:=Fin z.length × Fin z.length) (Ts:=fun x=>[NT .i64 x.1.1,NT .i64 x.2.1]) (U:=fun x=>aE (oO s f p x.1.1 x.2.1)) Tryz.call156 (fun x=>Oo (z:=z) (s:=s) (f:=f) (p:=p) (L:=L) hs hpl x.1.2 x.2.2 hz hfs hff hL hLb hD) ⟨(Ht rfl),(Ht rfl),(Ht rfl),(Ht rfl),(Ht rfl),(Ht rfl),(Ht rfl),(Ht rfl),trivial⟩)) ?_)))))))))
   refine fW aT rfl (by kernel_rfl) (zF (aJ (aJ (aJ (aV (ro rfl (cZ Tryz.call155 (Pi (z:=z) (s:=s) (p:=p) (x:=gv fz 0) (F:=fun i j=>oO s f p i j) hs hpl hz) ⟨(Ht rfl),(Ht rfl),(Ht rfl),(Ht rfl),trivial⟩) (gZ Z_80 (Ht rfl) (Ht rfl) rfl (i:=1) rfl (aK rfl) rfl rfl (ro rfl (cQ (cJ 0)) (eX (cT rfl (fZ (fU A_80 Z_80 rfl (i:=1) rfl rfl) ?_) (fZ (eU rfl) ?_)))))))))))
   ·exact (fun v V h=>by rw [Vn,Vm,oG,oG,if_pos he,if_pos he,← hp]; exact h)
   ·exact (bR he.symm)
theorem Ji {z fz:List Qi} {s f:List (List Qi)} {port:Int} {L:Nat} (hs:cI s z.length z.length) (hz1:1 ≤ z.length) (hz:z.length ≤ 1000) (hfs:aS s L) (hff:aS f L) (hfz:cD z L) (hfg:cD fz L) (hL:1 ≤ L) (hLb:L ≤ 60000) (hf:fz.length = 2 → cI f 2 2):bA Tryz.prog 66 [fA z s,aF .i64 port,fA fz f] (fB [fA (Vn z s fz f port) (Vm z s fz f port),aF .i64 (Cf z s fz f port)]):=by
 by_cases h2:fz.length = 2
 ·exact Oq hs hz1 hz hfs hff hfz hfg hL hLb h2 (hf h2)
 ·exact Om hs hz1 hz hfs hff hfz hfg hL hLb h2
theorem Lq {z fz:List Qi} {s f:List (List Qi)} {port:Int} {L:Nat} (hs:cI s z.length z.length) (hz1:1 ≤ z.length) (hz:z.length ≤ 1000) (hfs:aS s L) (hff:aS f L) (hfz:cD z L) (hfg:cD fz L) (hL:1 ≤ L) (hLb:L ≤ 60000) (h2:fz.length ≠ 2):bA Tryz.prog 73 [fA z s,aF .i64 port,fA fz f] (fB [fA (Db z s fz f port) (Xq z s fz f port),aF .i64 (Ba z s fz f port)]):=by
 have hfx:rK z fz port 1 = 4:=a1F h2
 have he:Ba z s fz f port = 4:=(Zl (by rw [hfx]; decide)).trans hfx
 have hne:Ba z s fz f port ≠ 0:=by rw [he]; decide
 refine bA.intro Tryz.func73 rfl Tryz.ntmps73 rfl (fun cx=>(ts (rn rfl (fK (Ht rfl)) fun B3=>(rn rfl (fK (Ht rfl)) fun B5=>(rn rfl (eW (Ts:=[Is (.slice none 0 0),Is (.slice none 0 0)]) O_80 rfl (fun V=>aW zd (aW zd (aG)))) fun B6=>(ro rfl (cQ (cJ 0)) (eX (ts (ro rfl (eJ A_80 Z_80 (Ht rfl) (i:=0) rfl rfl rfl) (rm rfl (ro rfl (eJ A_80 Z_80 (Ht rfl) (i:=1) rfl rfl rfl) (ro rfl (cZ Tryz.call152 (Ad (x:=1) h2) ⟨(Ht rfl),(Ht rfl),(Ht rfl),(cJ 1),trivial⟩) ?_))))))))))))
 refine rm rfl (ro rfl (dU (Ht rfl) rfl) (ro rfl (dU (Ht rfl) rfl) (rn rfl (eW (Ts:=[Is (.bool false),Is (.slice none 0 0),Is (.bool false),Is (.slice none 0 0),Is (.slice none 0 0),Is (.bool false),Is (.slice none 0 0),Is (.bool false),Is (.slice none 0 0),Is (.slice none 0 0),Is (.bool false),Is (.slice none 0 0),Is (.bool false),Is (.slice none 0 0),Is (.slice none 0 0),Is (.bool false),Is (.slice none 0 0),Is (.bool false),Is (.slice none 0 0),Is (.slice none 0 0)]) O_240 rfl (fun V=>aW zd (aW zd (aW zd (aW zd (aW zd (aW zd (aW zd (aW zd (aW zd (aW zd (aW zd (aW zd (aW zd (aW zd (aW zd (aW zd (aW zd (aW zd (aW zd (aW zd (aG)))))))))))))))))))))) fun B8=>?_)))
 refine gZ Z_240 (Ht rfl) (Ht rfl) rfl (i:=3) rfl (aK rfl) rfl rfl (ra rfl (eX (cK (ts (rm rfl (ro rfl (fL (Ht rfl) cV) (eX (iS (Ht rfl) (by rfl) ?_))))))))
 refine ts (ro rfl (aM.imp (lH ) lK) (rm rfl (gZ Z_80 (Ht rfl) (Ht rfl) rfl (i:=2) rfl (aK rfl) rfl rfl (ra rfl (eX (cT rfl (fZ (fU A_80 Z_80 rfl (i:=2) rfl rfl) ?_) (fZ (eU rfl) ?_)))))))
 ·exact (fun v V h=>by rw [Db,Xq,oG,oG,if_neg hne,if_neg hne]; exact h)
 ·exact (bR he.symm)
theorem Ls {z fz:List Qi} {s f:List (List Qi)} {port:Int} {L:Nat} (hs:cI s z.length z.length) (hz1:1 ≤ z.length) (hz:z.length ≤ 1000) (hfs:aS s L) (hff:aS f L) (hfz:cD z L) (hfg:cD fz L) (hL:1 ≤ L) (hLb:L ≤ 60000) (h2:fz.length = 2) (hf:cI f 2 2):bA Tryz.prog 73 [fA z s,aF .i64 port,fA fz f] (fB [fA (Db z s fz f port) (Xq z s fz f port),aF .i64 (Ba z s fz f port)]):=by
 have hsl:=hs.1
 haveI h1f:=tA
 refine bA.intro Tryz.func73 rfl Tryz.ntmps73 rfl (fun cx=>(ts (rn rfl (fK (Ht rfl)) fun B3=>(rn rfl (fK (Ht rfl)) fun B5=>(rn rfl (eW (Ts:=[Is (.slice none 0 0),Is (.slice none 0 0)]) O_80 rfl (fun V=>aW zd (aW zd (aG)))) fun B6=>(ro rfl (cQ (cJ 0)) (eX (ts (ro rfl (eJ A_80 Z_80 (Ht rfl) (i:=0) rfl rfl rfl) (rm rfl (ro rfl (eJ A_80 Z_80 (Ht rfl) (i:=1) rfl rfl rfl) (ro rfl (cZ Tryz.call152 (Ae (x:=1) (L:=L) h2 hf (by decide) hfz hfg hL zo hz) ⟨(Ht rfl),(Ht rfl),(Ht rfl),(cJ 1),trivial⟩) ?_))))))))))))
 refine rm rfl (ro rfl (dU (Ht rfl) rfl) (ro rfl (dU (Ht rfl) rfl) (rn rfl (eW (Ts:=[Is (.bool false),Is (.slice none 0 0),Is (.bool false),Is (.slice none 0 0),Is (.slice none 0 0),Is (.bool false),Is (.slice none 0 0),Is (.bool false),Is (.slice none 0 0),Is (.slice none 0 0),Is (.bool false),Is (.slice none 0 0),Is (.bool false),Is (.slice none 0 0),Is (.slice none 0 0),Is (.bool false),Is (.slice none 0 0),Is (.bool false),Is (.slice none 0 0),Is (.slice none 0 0)]) O_240 rfl (fun V=>aW zd (aW zd (aW zd (aW zd (aW zd (aW zd (aW zd (aW zd (aW zd (aW zd (aW zd (aW zd (aW zd (aW zd (aW zd (aW zd (aW zd (aW zd (aW zd (aW zd (aG)))))))))))))))))))))) fun B8=>?_)))
 refine gZ Z_240 (Ht rfl) (Ht rfl) rfl (i:=3) rfl (aK rfl) rfl rfl (ra rfl (eX (cK (ts (rm rfl (ro rfl (fL (Ht rfl) cV) (eX (dQ (Ht rfl) (fun hc=>?_) (fun hc=>?_)))))))))
 ·have hfx : rK z fz port 1 ≠ 0 := by simpa using hc
  have he:Ba z s fz f port = rK z fz port 1:=Zl hfx
  have hne:Ba z s fz f port ≠ 0:=by rw [he]; exact hfx
  refine ts (ro rfl (aM.imp (lH ) lK) (rm rfl (gZ Z_80 (Ht rfl) (Ht rfl) rfl (i:=2) rfl (aK rfl) rfl rfl (ra rfl (eX (cT rfl (fZ (fU A_80 Z_80 rfl (i:=2) rfl rfl) ?_) (fZ (eU rfl) ?_)))))))
  ·exact (fun v V h=>by rw [Db,Xq,oG,oG,if_neg hne,if_neg hne]; exact h)
  ·exact (bR he.symm)
 ·have hfx : rK z fz port 1 = 0 := by simpa using hc
  obtain ⟨_,hb2,hzz⟩:=Za hfx
  obtain ⟨p,hp⟩:∃ p,p = (port - 1).toNat:=⟨_,rfl⟩
  have hpe:port - 1 = (p:Int):=by omega
  have hpl:p < z.length:=by omega
  have hspr:=hs.row hpl
  haveI:=hfs.get hL p p; haveI:=hff.get hL 1 1; haveI:=hff.get hL 0 0; haveI:=hff.get hL 0 1; haveI:=hff.get hL 1 0
  refine cU (cK (Y.D_start (m:=23) [] (bY (Ei:=[(8,_)]) rfl rfl (bQ (bJ rfl rfl) bX) rfl rfl (dX rfl (gK U_240 Z_188 (Ht rfl) (cJ 0) rfl (by decide) rfl)) (bY (Ei:=[(31,_)]) rfl rfl (bQ (bZ 0 rfl rfl) bX) rfl rfl (dX rfl (gK U_188 Z_32 (Ht rfl) (cJ 0) rfl (by decide) rfl)) (bY (Ei:=[(32,_)]) rfl rfl (bQ (bZ 1 rfl rfl) bX) rfl rfl (dX rfl (eJ A_32 Z_32 (Ht rfl) (i:=3) rfl rfl rfl)) ?_)))))
  refine bY (Ei:=[(8,_)]) rfl rfl (bQ (bJ rfl rfl) bX) rfl rfl (dX rfl (gK U_240 Z_188 (Ht rfl) (cJ 0) rfl (by decide) rfl)) (bY (Ei:=[(34,_)]) rfl rfl (bQ (bZ 3 rfl rfl) bX) rfl rfl (dX rfl (gK U_188 Z_32 (Ht rfl) (cJ 1) rfl (by decide) rfl)) (bY (Ei:=[(35,_)]) rfl rfl (bQ (bZ 4 rfl rfl) bX) rfl rfl (dX rfl (eJ A_32 Z_32 (Ht rfl) (i:=3) rfl rfl rfl)) (bY (Ei:=[(8,_)]) rfl rfl (bQ (bJ rfl rfl) bX) rfl rfl (dX rfl (gK U_240 Z_188 (Ht rfl) (cJ 1) rfl (by decide) rfl)) ?_)))
  refine bY (Ei:=[(37,_)]) rfl rfl (bQ (bZ 6 rfl rfl) bX) rfl rfl (dX rfl (gK U_188 Z_32 (Ht rfl) (cJ 0) rfl (by decide) rfl)) (bY (Ei:=[(38,_)]) rfl rfl (bQ (bZ 7 rfl rfl) bX) rfl rfl (dX rfl (eJ A_32 Z_32 (Ht rfl) (i:=3) rfl rfl rfl)) (bY (Ei:=[(8,_)]) rfl rfl (bQ (bJ rfl rfl) bX) rfl rfl (dX rfl (gK U_240 Z_188 (Ht rfl) (cJ 1) rfl (by decide) rfl)) (bY (Ei:=[(40,_)]) rfl rfl (bQ (bZ 9 rfl rfl) bX) rfl rfl (dX rfl (gK U_188 Z_32 (Ht rfl) (cJ 1) rfl (by decide) rfl)) ?_)))
  refine bY (Ei:=[(41,_)]) rfl rfl (bQ (bZ 10 rfl rfl) bX) rfl rfl (dX rfl (eJ A_32 Z_32 (Ht rfl) (i:=3) rfl rfl rfl)) (bY (Ei:=[(1,_)]) rfl rfl (bQ (bJ rfl rfl) bX) rfl rfl (dX rfl (cX (Ht rfl))) (bY (Ei:=[(43,_)]) rfl rfl (bQ (bZ 12 rfl rfl) bX) rfl rfl (dX rfl (jU (Ht rfl) cV (r:=((p:Nat):Int)) ((Ip (z:=port - 1) zo).trans zo))) ?_))
  refine Y.D_newp (Ei:=[]) (fun bb=>box bb 32 (nb (gm f 0 0))) 19 rfl rfl rfl bX rfl rfl (by kernel_rfl) (eW (Ts:=[Is (.bool false),Is (.slice none 0 0),Is (.bool false),Is (.slice none 0 0),Is (.slice none 0 0)]) O_32 rfl (fun V=>aW zd (aW zd (aW zd (aW zd (aW zd (aG))))))) (Y.D_newp (Ei:=[]) (fun bb=>box bb 32 (nb (gm f 0 1))) 20 rfl rfl rfl bX rfl rfl (by kernel_rfl) (eW (Ts:=[Is (.bool false),Is (.slice none 0 0),Is (.bool false),Is (.slice none 0 0),Is (.slice none 0 0)]) O_32 rfl (fun V=>aW zd (aW zd (aW zd (aW zd (aW zd (aG))))))) ?_)
  refine Y.D_newp (Ei:=[]) (fun bb=>box bb 32 (nb (gm f 1 0))) 21 rfl rfl rfl bX rfl rfl (by kernel_rfl) (eW (Ts:=[Is (.bool false),Is (.slice none 0 0),Is (.bool false),Is (.slice none 0 0),Is (.slice none 0 0)]) O_32 rfl (fun V=>aW zd (aW zd (aW zd (aW zd (aW zd (aG))))))) (Y.D_newp (Ei:=[]) (fun bb=>box bb 32 (nb (gm f 1 1))) 22 rfl rfl rfl bX rfl rfl (by kernel_rfl) (eW (Ts:=[Is (.bool false),Is (.slice none 0 0),Is (.bool false),Is (.slice none 0 0),Is (.slice none 0 0)]) O_32 rfl (fun V=>aW zd (aW zd (aW zd (aW zd (aW zd (aG))))))) ?_)
  refine Y.D_new (Ei:=[]) rfl rfl rfl bX rfl rfl (eW (Ts:=[Is (.int .i64 0)]) O_3 rfl (fun V=>aW zd (aG))) (Y.D_putN (Ei:=[(33,_)]) 14 rfl rfl rfl rfl rfl rfl (bQ (bZ 2 rfl rfl) bX) (fun bb=>nM Z_32 (Ht rfl) (Ht rfl) rfl (i:=0) rfl (aK rfl) rfl rfl) (Y.D_putN (Ei:=[(36,_)]) 15 rfl rfl rfl rfl rfl rfl (bQ (bZ 5 rfl rfl) bX) (fun bb=>nM Z_32 (Ht rfl) (Ht rfl) rfl (i:=0) rfl (aK rfl) rfl rfl) (Y.D_putN (Ei:=[(39,_)]) 16 rfl rfl rfl rfl rfl rfl (bQ (bZ 8 rfl rfl) bX) (fun bb=>nM Z_32 (Ht rfl) (Ht rfl) rfl (i:=0) rfl (aK rfl) rfl rfl) ?_)))
  refine Y.D_putN (Ei:=[(42,_)]) 17 rfl rfl rfl rfl rfl rfl (bQ (bZ 11 rfl rfl) bX) (fun bb=>nM Z_32 (Ht rfl) (Ht rfl) rfl (i:=0) rfl (aK rfl) rfl rfl) (Y.D_done aT rfl (by kernel_rfl) rfl (by simp [Y.okP]) rfl rfl (bU (bU (bU (bU (bU (bU (bU (bU (bU (bU (bU (bU (bU (bU (Y.F_newp (fun B10=>Y.F_newp (fun B11=>Y.F_newp (fun B12=>Y.F_newp (fun B13=>Y.F_new (fun B14=>Y.F_putN (Y.F_putN (Y.F_putN (Y.F_putN (Y.F_nil ?_)))))))))))))))))))))))))
  refine jL Z_3 (Ht rfl) (Ht rfl) (i:=8) rfl (aK rfl) rfl (eX (cK (cK (gW (i:=4) (tt:=10) rfl rfl dB (gW (i:=5) (tt:=11) rfl rfl dB (gW (i:=6) (tt:=12) rfl rfl dB (gW (i:=7) (tt:=13) rfl rfl dB (gW (i:=8) (tt:=14) rfl rfl eT (gW (i:=0) (tt:=3) rfl rfl dB (cC [1,2] rfl (by decide) (cY (ro rfl (dV A_32 Z_32 (Ht rfl)) (ro rfl (aN aR (Ht rfl)) (ro rfl (aH lJ K_34 (jN (x:=gm f 0 1) (L:=L) zo) (Ht rfl) trivial) ?_))))))))))))))
  refine ro rfl (dE (Ht rfl)) (rm rfl (fQ rfl rfl (eK rfl rfl (Ht rfl) (fun h=>dV A_32 Z_32 (Ht rfl))) (fQ rfl rfl (eK rfl rfl (Ht rfl) (fun h=>aN aR (fV rfl h))) (fQ rfl rfl (eK rfl rfl (Ht rfl) (fun h=>aH lJ K_34 (jN (x:=gm f 1 0) (L:=L) zo) (fV rfl h) trivial)) (fQ rfl rfl (eK rfl rfl (Ht rfl) (fun h=>dE (fV rfl h))) (ro rfl (iF (Ht rfl) (fun h=>(fV rfl h))) (eX (dQ (Ht rfl) (fun hcl=>?_) (fun hcl=>?_)))))))))
  ·have h3 : gm f 0 1 = Qi.zero ∨ gm f 1 0 = Qi.zero := by simpa using hcl
   have he:Ba z s fz f port = 6:=Zm hfx (h3.elim .inl (fun k=>.inr (.inl k)))
   have hne:Ba z s fz f port ≠ 0:=by rw [he]; decide
   refine ts (ro rfl (aM.imp (lH ) lK) (gZ Z_80 (Ht rfl) (Ht rfl) rfl (i:=1) rfl (aK rfl) rfl rfl (ro rfl (cQ (cJ 6)) (eX (cT rfl (fZ (fU A_80 Z_80 rfl (i:=1) rfl rfl) ?_) (fZ (eU rfl) ?_))))))
   ·exact (fun v V h=>by rw [Db,Xq,oG,oG,if_neg hne,if_neg hne]; exact h)
   ·exact (bR he.symm)
  ·have h3 : ¬ (gm f 0 1 = Qi.zero ∨ gm f 1 0 = Qi.zero) := by simpa using hcl
   refine cU (cK (fJ (m:=12) (dp 3 rfl (eC gS (Ht rfl) rfl) (dq 56 0 rfl (dV A_78 Z_78 (Ht rfl)) (dp 14 rfl (dV A_3 Z_3 (Ht rfl)) (eD 57 1 58 2 rfl (dZ U_78 Z_54 (Ht rfl) (Ht rfl) rfl (eQ (dY (d:=[]) zo))) (dq 59 3 rfl (dV A_54 Z_54 (Ht rfl)) (dp 14 rfl (dV A_3 Z_3 (Ht rfl)) (eD 60 4 61 5 rfl (dZ U_54 Z_32 (Ht rfl) (Ht rfl) rfl (eQ (dY (d:=Qi.zero) zo))) (dq 62 6 rfl (dV A_32 Z_32 (Ht rfl)) ?_))))))))))
   refine dq 63 7 rfl (aN aR (Ht rfl)) (dp 10 rfl (dV A_32 Z_32 (Ht rfl)) (eD 64 8 65 9 rfl (aH iE K_32 (sQ (x:=gm s p p) (y:=gm f 0 0) (L:=L) (M:=L) zo) (Ht rfl) ⟨(Ht rfl),trivial⟩) (C.D_new (Ei:=[]) rfl rfl rfl bW (eW (Ts:=[Is (.bool false),Is (.slice none 0 0),Is (.bool false),Is (.slice none 0 0),Is (.slice none 0 0)]) O_32 rfl (fun V=>aW zd (aW zd (aW zd (aW zd (aW zd (aG))))))) ?_)))
   refine fW aT rfl (by kernel_rfl) (zF (zF (aJ (aJ (aJ (C.F_new (fun B15=>aV (gZ Z_32 (Ht rfl) (Ht rfl) rfl (i:=2) rfl (aK rfl) rfl rfl (eX (cK (gW (i:=2) (tt:=15) rfl rfl dB (cC [0,1] rfl (by decide) (fJ (m:=11) (dp 11 rfl (dV A_32 Z_32 (Ht rfl)) (dq 67 0 rfl (aN aR (Ht rfl)) (dp 12 rfl (dV A_32 Z_32 (Ht rfl)) (eD 68 1 69 2 rfl (aH bE K_29 (iQ (x:=gm f 0 1) (y:=gm f 1 0) (L:=L) (M:=L) zo) (Ht rfl) ⟨(Ht rfl),trivial⟩) ?_)))))))))))))))))
   refine dq 70 3 rfl (aN aR (Ht rfl)) (dp 13 rfl (dV A_32 Z_32 (Ht rfl)) (dq 72 5 rfl (aN aR (Ht rfl)) (dp 15 rfl (dV A_32 Z_32 (Ht rfl)) (eD 73 6 74 7 rfl (aH bE K_29 (iQ (x:=gm f 1 1) (y:=(gm s p p - gm f 0 0)) (L:=L) (M:=L + L + 1) zo) (Ht rfl) ⟨(Ht rfl),trivial⟩) (eD 71 4 75 8 rfl (aH jG K_33 (vB (x:=gm f 0 1 * gm f 1 0) (y:=gm f 1 1 * (gm s p p - gm f 0 0)) (L:=L + L + 1) (M:=L + (L + L + 1) + 1) zo) (Ht rfl) ⟨(Ht rfl),trivial⟩) (C.D_new (Ei:=[]) rfl rfl rfl bW (eW (Ts:=[Is (.bool false),Is (.slice none 0 0),Is (.bool false),Is (.slice none 0 0),Is (.slice none 0 0)]) O_32 rfl (fun V=>aW zd (aW zd (aW zd (aW zd (aW zd (aG))))))) ?_))))))
   refine fW aT rfl (by kernel_rfl) (zF (zF (aJ (aJ (C.F_new (fun B16=>aV (gZ Z_32 (Ht rfl) (Ht rfl) rfl (i:=2) rfl (aK rfl) rfl rfl (eX (cK (gW (i:=2) (tt:=16) rfl rfl dB (cC [0,1] rfl (by decide) ?_)))))))))))
   have hDf:=Ks (p:=p) hfs hff hL
   haveI:=hDf
   haveI:aI (gm s p p - gm f 0 0) (L + L + 1):=inferInstance
   by_cases hD:rO s f p = Qi.zero
   ·refine cY (ro rfl (dV A_80 Z_80 (Ht rfl)) (ro rfl (dV A_3 Z_3 (Ht rfl)) (ro rfl (dV A_32 Z_32 (Ht rfl)) (ro rfl (cZ Tryz.call153 (Ah (z := z) (s := s) (p := p) (e := rO s f p) (L := L) (M := 5 * L + 5) hs hpl hz hfs hDf hL zo hD) ⟨(Ht rfl), (Ht rfl), (Ht rfl), trivial⟩) (rm rfl (ro rfl (dU (Ht rfl) rfl) (ro rfl (dU (Ht rfl) rfl) (ro rfl (dU (Ht rfl) rfl) (rn rfl (eW (Ts := [Is (.slice none 0 0)]) O_54 rfl (fun V => aW zd (aG))) fun B17 => ?_)))))))))
    refine rn rfl (eW (Ts:=[Is (.slice none 0 0)]) O_54 rfl (fun V=>aW zd (aG))) fun B18=>jL Z_54 (Ht rfl) (Ht rfl) (i:=2) rfl (aK rfl) rfl (jL Z_54 (Ht rfl) (Ht rfl) (i:=3) rfl (aK rfl) rfl (ra rfl (eX (cK (cK ?_)))))
    have he:Ba z s fz f port = 6:=Zm hfx (.inr (.inr (by rw [← hp]; exact hD)))
    have hne:Ba z s fz f port ≠ 0:=by rw [he]; decide
    refine cY (rm rfl (ro rfl (fL (Ht rfl) cV) (eX (iS (Ht rfl) (by rfl) ?_))))
    refine ts (ro rfl (aM.imp (lH ) lK) (rm rfl (gZ Z_80 (Ht rfl) (Ht rfl) rfl (i:=1) rfl (aK rfl) rfl rfl (ra rfl (eX (cT rfl (fZ (fU A_80 Z_80 rfl (i:=1) rfl rfl) ?_) (fZ (eU rfl) ?_)))))))
    ·exact (fun v V h=>by rw [Db,Xq,oG,oG,if_neg hne,if_neg hne]; exact h)
    ·exact (bR he.symm)
   ·refine cY (ro rfl (dV A_80 Z_80 (Ht rfl)) (ro rfl (dV A_3 Z_3 (Ht rfl)) (ro rfl (dV A_32 Z_32 (Ht rfl)) (ro rfl (cZ Tryz.call153 (Ai (z := z) (s := s) (p := p) (e := rO s f p) (L := L) (M := 5 * L + 5) hs hpl hz hfs hDf hL zo hD) ⟨(Ht rfl), (Ht rfl), (Ht rfl), trivial⟩) (rm rfl (ro rfl (dU (Ht rfl) rfl) (ro rfl (dU (Ht rfl) rfl) (ro rfl (dU (Ht rfl) rfl) (rn rfl (eW (Ts := [Is (.slice none 0 0)]) O_54 rfl (fun V => aW zd (aG))) fun B17 => ?_)))))))))
    refine rn rfl (eW (Ts:=[Is (.slice none 0 0)]) O_54 rfl (fun V=>aW zd (aG))) fun B18=>jL Z_54 (Ht rfl) (Ht rfl) (i:=2) rfl (aK rfl) rfl (jL Z_54 (Ht rfl) (Ht rfl) (i:=3) rfl (aK rfl) rfl (ra rfl (eX (cK (cK ?_)))))
    have he:Ba z s fz f port = 0:=Sa hfx (by rw [← hp]; exact fun k=>k.elim (fun k=>h3 (.inl k)) (fun k=>k.elim (fun k=>h3 (.inr k)) hD))
    refine gW (i:=2) (tt:=17) rfl rfl eT (gW (i:=3) (tt:=18) rfl rfl eT (cY (rm rfl (ro rfl (fL (Ht rfl) cV) (eX (cL (Ht rfl) (by rfl) ?_))))))
    refine cC [0,1] rfl (by decide) (cU (ts (ro rfl (dV A_32 Z_32 (Ht rfl)) (ro rfl (aN aR (Ht rfl)) (ro rfl (dV A_32 Z_32 (Ht rfl)) (ro rfl (aH iD K_142 (sP (x:=gm s p p - gm f 0 0) (y:=rO s f p) (L:=L + L + 1) (M:=5 * L + 5) zo) (Ht rfl) ⟨(Ht rfl),trivial⟩) (rm rfl (ro rfl (dU (Ht rfl) rfl) (ro rfl (dU (Ht rfl) rfl) (rn rfl (eW (Ts:=[Is (.bool false),Is (.slice none 0 0),Is (.bool false),Is (.slice none 0 0),Is (.slice none 0 0)]) O_32 rfl (fun V=>aW zd (aW zd (aW zd (aW zd (aW zd (aG))))))) fun B19=>?_))))))))))
    refine gZ Z_32 (Ht rfl) (Ht rfl) rfl (i:=2) rfl (aK rfl) rfl rfl (ra rfl (eX (cK (cK (gW (i:=2) (tt:=19) rfl rfl dB (cY (rm rfl (ro rfl (fL (Ht rfl) cV) (eX (cL (Ht rfl) (by simp [hD]) ?_))))))))))
    refine cC [0,1] rfl (by decide) (cU (cK (fJ (m:=7) (dp 3 rfl (dV A_80 Z_80 (Ht rfl)) (dp 14 rfl (dV A_3 Z_3 (Ht rfl)) (dp 5 rfl (eZ jC (Ht rfl) rfl) (dq 101 2 rfl (eY A_54 Z_54 (Ht rfl) (i:=0) rfl rfl) (dq 102 3 rfl (dZ U_54 Z_32 (Ht rfl) (cJ 1) rfl (eQ (dY (d:=Qi.zero) zo))) (dq 103 4 rfl (dV A_32 Z_32 (Ht rfl)) (C.D_step (Ei:=[(14,_),(19,_),(17,_),(11,_),(12,_),(18,_),(3,_),(13,_)]) rfl rfl (bV (bK rfl rfl) (bV (bK rfl rfl) (bV (bK rfl rfl) (bV (bK rfl rfl) (bV (bK rfl rfl) (bV (bK rfl rfl) (bV (bK rfl rfl) (bV (bK rfl rfl) bW)))))))) (dX rfl (kP (γ:=Fin z.length × Fin z.length) (Ts:=fun x=>[NT .i64 x.1.1,NT .i64 x.2.1]) (U:=fun x=>aE (Tg s f p x.1.1 x.2.1)) Tryz.call171 (fun x=>Lr (z:=z) (s:=s) (f:=f) (p:=p) (L:=L) hs hpl x.1.2 x.2.2 hz hfs hff hL hLb hD) ⟨(Ht rfl),(Ht rfl),(Ht rfl),(Ht rfl),(Ht rfl),(Ht rfl),(Ht rfl),(Ht rfl),trivial⟩)) ?_))))))))))
    refine fW aT rfl (by kernel_rfl) (zF (aJ (aJ (aJ (aV (ro rfl (cZ Tryz.call155 (Pi (z:=z) (s:=s) (p:=p) (x:=gv fz 1) (F:=fun i j=>Tg s f p i j) hs hpl hz) ⟨(Ht rfl),(Ht rfl),(Ht rfl),(Ht rfl),trivial⟩) (gZ Z_80 (Ht rfl) (Ht rfl) rfl (i:=1) rfl (aK rfl) rfl rfl (ro rfl (cQ (cJ 0)) (eX (cT rfl (fZ (fU A_80 Z_80 rfl (i:=1) rfl rfl) ?_) (fZ (eU rfl) ?_)))))))))))
    ·exact (fun v V h=>by rw [Db,Xq,oG,oG,if_pos he,if_pos he,← hp]; exact h)
    ·exact (bR he.symm)
theorem Oy {z fz:List Qi} {s f:List (List Qi)} {port:Int} {L:Nat} (hs:cI s z.length z.length) (hz1:1 ≤ z.length) (hz:z.length ≤ 1000) (hfs:aS s L) (hff:aS f L) (hfz:cD z L) (hfg:cD fz L) (hL:1 ≤ L) (hLb:L ≤ 60000) (hf:fz.length = 2 → cI f 2 2):bA Tryz.prog 73 [fA z s,aF .i64 port,fA fz f] (fB [fA (Db z s fz f port) (Xq z s fz f port),aF .i64 (Ba z s fz f port)]):=by
 by_cases h2:fz.length = 2
 ·exact Ls hs hz1 hz hfs hff hfz hfg hL hLb h2 (hf h2)
 ·exact Lq hs hz1 hz hfs hff hfz hfg hL hLb h2
end
section
open Go Go.RowKit
theorem rI {n : Nat} {E : cB} {H : Hp} {d : Option Tmp} {t : TypeId} {pos : String} {af : Array Edge} {g : Option (Nat × Bool)} {x0 x1 x2 : Operand} {T0 T1 T2 T3 T4 T5 T6 T7 T8 T9 T10 T11 T12 T13 T14 : Ty} (h0 : aA E x0 (dL [T0, T1, T2, T3, T4])) (h1 : aA E x1 (dL [T5, T6, T7, T8, T9])) (h2 : aA E x2 (dL [T10, T11, T12, T13, T14])) :
  aM Tryz.prog n E H ⟨d,.build 140 #[(0,x0),(1,x1),(2,x2)],t,pos,af,g⟩ (dL [T0,T1,T2,T3,T4,T5,T6,T7,T8,T9,T10,T11,T12,T13,T14]) :=
 iY (parts := [(0, x0), (1, x1), (2, x2)]) fun a V w hs => by
  obtain ⟨v0,e0,c0⟩:=h0 n V a hs
  obtain ⟨c0_0,c0_1,c0_2,c0_3,c0_4,rfl⟩:∃ c0_0 c0_1 c0_2 c0_3 c0_4,v0 = [c0_0,c0_1,c0_2,c0_3,c0_4]:=yC (by simpa using c0.length)
  obtain ⟨v1,e1,c1⟩:=h1 n V a hs
  obtain ⟨c1_0,c1_1,c1_2,c1_3,c1_4,rfl⟩:∃ c1_0 c1_1 c1_2 c1_3 c1_4,v1 = [c1_0,c1_1,c1_2,c1_3,c1_4]:=yC (by simpa using c1.length)
  obtain ⟨v2,e2,c2⟩:=h2 n V a hs
  obtain ⟨c2_0,c2_1,c2_2,c2_3,c2_4,rfl⟩:∃ c2_0 c2_1 c2_2 c2_3 c2_4,v2 = [c2_0,c2_1,c2_2,c2_3,c2_4]:=yC (by simpa using c2.length)
  refine ⟨.agg #[c0_0,c0_1,c0_2,c0_3,c0_4,c1_0,c1_1,c1_2,c1_3,c1_4,c2_0,c2_1,c2_2,c2_3,c2_4],?_,[c0_0,c0_1,c0_2,c0_3,c0_4,c1_0,c1_1,c1_2,c1_3,c1_4,c2_0,c2_1,c2_2,c2_3,c2_4],rfl,aW (c0.at (i:=0) rfl rfl) (aW (c0.at (i:=1) rfl rfl) (aW (c0.at (i:=2) rfl rfl) (aW (c0.at (i:=3) rfl rfl) (aW (c0.at (i:=4) rfl rfl) (aW (c1.at (i:=0) rfl rfl) (aW (c1.at (i:=1) rfl rfl) (aW (c1.at (i:=2) rfl rfl) (aW (c1.at (i:=3) rfl rfl) (aW (c1.at (i:=4) rfl rfl) (aW (c2.at (i:=0) rfl rfl) (aW (c2.at (i:=1) rfl rfl) (aW (c2.at (i:=2) rfl rfl) (aW (c2.at (i:=3) rfl rfl) (aW (c2.at (i:=4) rfl rfl) (aG)))))))))))))))⟩
  simp [e0,e1,e2,Instr.build,Instr.fill,Sem.run_bind,Result.andThen,iB,O_140,U_140,Z_32]
end
end Go.Proofs.YthcmlodgnfekeaaGreat
