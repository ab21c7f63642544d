/- What functions of the program compute, proved by walks over their code, and the plain mathematics of it; a part of the proof in the last text. -/
import Derived.Test.YtdlciihkiefckaaGreatP03
set_option linter.unusedVariables false
set_option linter.unusedSimpArgs false
set_option maxRecDepth 100000
set_option maxHeartbeats 4000000
namespace Go.Proofs.YtdlciihkiefckaaGreat
section
open Go Go.RowKit
theorem a2W {M:List (List Qi)} {n m G B:Nat} (hs:cB M n m) (hstg:∀ c,c ≤ n → bE (cI M c).1 G) (hG1:1 ≤ G) (hg:6 * G + 4 ≤ 17592186044415) (hnm:n ≤ m) (hm:m ≤ 1000):jM Tryz.prog 221 [Is (.slice (some ⟨B,0,none⟩) n n)] [qC B 25 60 5 (dO aI M)] (Unit) (fun _=>eH [NT .i64 (cI M n).2.1,aL .i64 (cI M n).2.2]) (fun _=>[qC B 25 60 5 (dO aI (cI M n).1)]) (fun _=>True):=by
 have hs1:=hs.1
 refine jM.intro Tryz.func221 rfl Tryz.ntmps221 rfl (fun cx Z=>(ts (ro rfl (cX (cV 0)) (ro rfl (cX (cV 0)) (eW (ts (ro rfl (cX (cV 0)) (eW (cU (ts (rm rfl (ro rfl (iV U_26 (Ht rfl)) (ro rfl (cZ (cV 0)) (eW (eY (Io 1 rfl (fun vs hvs=>?_)))))))))))))))))
 have hvs2:Hds vs n:=by have h:=hvs; rw [List.length_map,hs1] at h; exact h
 refine xN (fun (c : Nat) (sw : Nat) (vs : List Value) (A : List (List Qi)) => (c ≤ n ∧ sw ≤ c) ∧ cI M c = (A, sw, -1) ∧ Hds vs n) (fun (c : Nat) (sw : Nat) (vs : List Value) (A : List (List Qi)) => n - c) (fun (c : Nat) (sw : Nat) (vs : List Value) (A : List (List Qi)) => [(0, Is (.slice (some ⟨B, 0, none⟩) n n)), (4, NT .i64 sw), (12, NT .i64 n), (13, NT .i64 c)]) (fun (c : Nat) (sw : Nat) (vs : List Value) (A : List (List Qi)) => [Z, kD B 25 60 5 vs vs (dO aI A)]) 0 0 vs M ⟨⟨Nat.zero_le _, Nat.le_refl _⟩, rfl, hvs2⟩
  (zS rfl) (dI.refl _) (fun c sw vs A ⟨⟨hc,hsw⟩,hA,hvs⟩=>?_)
 refine ts (ro rfl (gV (Ht rfl) (Ht rfl)) (eW (cU (dX (Ht rfl) (fun hcn=>?_) (fun hcn=>?_)))))
 ·simp only [decide_eq_true_eq] at hcn
  have hvl:=hvs.len
  have hAs:cB A n m:=by have h:=qP hs hc; rw [hA] at h; exact h
  have hAf:bE A G:=by have h:=hstg c hc; rw [hA] at h; exact h
  have hAl:=hAs.1
  refine cY (cU (eY (ts (rm rfl (ra rfl (eW (ts (rm rfl (ra rfl (eW (cU (eY ?_))))))))))))
  refine cP (fun (p : Nat) => (c ≤ p ∧ p ≤ n) ∧ ∀ r, c ≤ r → r < p → gm A r c = Qi.zero) (fun (p : Nat) => n - p) (fun (p : Nat) => [(0, Is (.slice (some ⟨B, 0, none⟩) n n)), (4, NT .i64 sw), (5, NT .i64 c), (6, NT .i64 p), (12, NT .i64 n), (13, NT .i64 c)]) (fun (p : Nat) => [Z, kD B 25 60 5 vs vs (dO aI A)]) c ⟨⟨Nat.le_refl _, hc⟩, fun r h1 h2 => by omega⟩
   (zS rfl) (dI.refl _) (fun p ⟨⟨hcp,hpn⟩,hz⟩=>?_)
  haveI fp:aF (gm A p c) G:=hAf.get hG1 p c
  refine cU (ts (rm rfl (rm rfl (ro rfl (iV U_26 (Ht rfl)) (ro rfl (gV (Ht rfl) (Ht rfl)) (rm rfl (fJ rfl rfl (fQ rfl rfl (Ht rfl) (fun h=>cZ (Ht rfl))) (fJ rfl rfl (fQ rfl rfl (Ht rfl) (fun h=>cZ (Ht rfl))) (fJ rfl rfl (fQ rfl rfl (Ht rfl) (fun h=>gZ U_26 Z_25 (fG rfl h) (fG rfl h) rfl (by first | omega | (simp at h; omega)) (by rw [Nat.mul_one,Nat.zero_add]))) ?_)))))))))
  refine fJ rfl rfl (fQ rfl rfl (Ht rfl) (fun h=>gD A_25 Z_25 (fG rfl h) (j:=1) rfl (by simp at h; omega))) ?_
  refine fJ rfl rfl (fQ rfl rfl (Ht rfl) (fun h=>cZ (Ht rfl))) (fJ rfl rfl (fQ rfl rfl (Ht rfl) (fun h=>iG U_25 Z_60 (fG rfl h) (fG rfl h) rfl (j:=1) rfl zo (by simp at h; omega) (by simp at h; rw [hAs.row h]; omega))) ?_)
  refine fJ rfl rfl (fQ rfl rfl (Ht rfl) (fun h=>kP A_60 Z_60 (fG rfl h) (j:=1) rfl zo (by simp at h; omega) (by simp at h; rw [hAs.row h]; omega))) ?_
  refine fJ rfl rfl (fQ rfl rfl (Ht rfl) (fun h=>bT cD (fG rfl h))) (fJ rfl rfl (fQ rfl rfl (Ht rfl) (fun h=>bF Gp Tryz.call82 (xO (x:=gm A p c) (L:=G) zo) (fG rfl h) trivial)) (fJ rfl rfl (fQ rfl rfl (Ht rfl) (fun h=>eS (fG rfl h))) (ro rfl (fC (Ht rfl) (fun h=>(fG rfl h))) (eW (dX (Ht rfl) (fun he=>?_) (fun he=>?_))))))
  ·have he2 : p < n ∧ gm A p c = Qi.zero := by simpa using he
   refine cY (eY (dQ (rm rfl (ro rfl (dK (Ht rfl) (cV 1) z6) (ra rfl (eW (bM ?_)))))))
   refine gX (p + 1) ⟨⟨by omega, by omega⟩, fun r h1 h2 => by
     by_cases e:r = p
     ·rw [e]; exact he2.2
     ·exact hz r h1 zo⟩ zo (zS rfl) (dI.refl _)
  ·have hpv : pv A c n = p := a8g hcp hpn hz (fun h => by simp at he; exact he h)
   refine gK rfl (cU (ts (rm rfl (rm rfl (ro rfl (iV U_26 (Ht rfl)) (ro rfl (cL (Ht rfl) (Ht rfl)) (eW (dX (Ht rfl) (fun hp=>?_) (fun hp=>?_)))))))))
   ·have hp2 : p = n := by simpa using hp
    have hend:=a0E hs1 hA (by rw [hpv]; exact hp2) hcn
    refine ts (rm rfl (rm rfl (ra rfl (ra rfl (eW ?_)))))
    exact lJ () trivial [0,1] ⟨⟨_,rfl,fun _ _ _ h=>h⟩,⟨_,rfl,(fun S w V h=>fT (by rw [hend]) S w V (Ez (by rw [List.length_map]; omega) S w V h))⟩,trivial⟩ (by decide) (a4F rfl (fV (fX rfl) (mK (by rw [hend]))) (fV (fX rfl) (aR (by rw [hend]))))
   ·have hp2 : p < n := by simp at hp; omega
    have hpz:=(pD (M:=A) (c:=c) (n:=n) hc).2.2.2 (by rw [hpv]; exact hp2)
    rw [hpv] at hpz
    have hnx:=Xl hs1 hA hpv hp2
    refine cY (cU (a2z (fun (q:Nat) (us:List Value) (D:List (List Qi))=>(q = sw + (if p = c then 0 else 1) ∧ D = (if p = c then A else swp [] A p c)) ∧ Hds us n) (fun (q:Nat) (us:List Value) (D:List (List Qi))=>[(0,Is (.slice (some ⟨B,0,none⟩) n n)),(4,NT .i64 q),(5,NT .i64 c),(12,NT .i64 n),(13,NT .i64 c)]) (fun (q:Nat) (us:List Value) (D:List (List Qi))=>[Z,kD B 25 60 5 us us (dO aI D)]) ?_ (fun q us D ⟨⟨hq,hD⟩,hus⟩=>?_)))
    ·refine ts (rm rfl (rm rfl (ro rfl (jR (Ht rfl) (Ht rfl)) (eW (dX (Ht rfl) (fun hpc => ?_) (fun hpc => ?_))))))
     ·have hpc2 : ¬ p = c := by simpa using hpc
      refine cU (Y.D_start (m:=14) [(13,1,kD B 25 60 5 (vs.set p (hd vs c)) vs (dO aI A))] (Y.D_step (Ei:=[(0,_)]) rfl rfl (bQ (bJ rfl rfl) bX) rfl rfl (by kernel_rfl) (dZ rfl (cZ (Ht rfl))) (Y.D_step (Ei:=[(6,_)]) rfl rfl (bQ (bJ rfl rfl) bX) rfl rfl (by kernel_rfl) (dZ rfl (cZ (Ht rfl))) (cQ (Ei:=[(0,_)]) rfl rfl (bQ (bJ rfl rfl) bX) rfl rfl (dZ rfl (cZ (Ht rfl))) (cQ (Ei:=[(5,_)]) rfl rfl (bQ (bJ rfl rfl) bX) rfl rfl (dZ rfl (cZ (Ht rfl))) ?_)))))
      refine Y.D_step (Ei:=[(0,_)]) rfl rfl (bQ (bJ rfl rfl) bX) rfl rfl (by kernel_rfl) (dZ rfl (cZ (Ht rfl))) (Y.D_step (Ei:=[(5,_)]) rfl rfl (bQ (bJ rfl rfl) bX) rfl rfl (by kernel_rfl) (dZ rfl (cZ (Ht rfl))) (Y.D_step (Ei:=[(48,_),(49,_)]) rfl rfl (bQ (bZ 4 rfl rfl) (bQ (bZ 5 rfl rfl) bX)) rfl rfl (by kernel_rfl) (dZ rfl (gZ U_26 Z_25 (Ht rfl) (Ht rfl) rfl zo (by rw [Nat.mul_one,Nat.zero_add]))) ?_))
      refine Y.D_step (Ei:=[(50,_)]) rfl rfl (bQ (bZ 6 rfl rfl) bX) rfl rfl (by kernel_rfl) (dZ rfl (gD A_25 Z_25 (Ht rfl) (j:=1) rfl zo)) (Y.D_step (Ei:=[(0,_)]) rfl rfl (bQ (bJ rfl rfl) bX) rfl rfl (by kernel_rfl) (dZ rfl (cZ (Ht rfl))) (Y.D_step (Ei:=[(6,_)]) rfl rfl (bQ (bJ rfl rfl) bX) rfl rfl (by kernel_rfl) (dZ rfl (cZ (Ht rfl))) (Y.D_step (Ei:=[(52,_),(53,_)]) rfl rfl (bQ (bZ 8 rfl rfl) (bQ (bZ 9 rfl rfl) bX)) rfl rfl (by kernel_rfl) (dZ rfl (gZ U_26 Z_25 (Ht rfl) (Ht rfl) rfl zo (by rw [Nat.mul_one,Nat.zero_add]))) ?_)))
      refine Y.D_step (Ei:=[(54,_)]) rfl rfl (bQ (bZ 10 rfl rfl) bX) rfl rfl (by kernel_rfl) (dZ rfl (gD A_25 Z_25 (Ht rfl) (j:=1) rfl zo)) (Y.D_step (Ei:=[(44,_),(45,_)]) rfl rfl (bQ (bZ 0 rfl rfl) (bQ (bZ 1 rfl rfl) bX)) rfl rfl (by kernel_rfl) (dZ rfl (gZ U_26 Z_25 (Ht rfl) (Ht rfl) rfl zo (by rw [Nat.mul_one,Nat.zero_add]))) ?_)
      refine Y.D_putI (Ei:=[(56,_),(51,_)]) 1 rfl rfl rfl (bQ (bZ 12 rfl rfl) (bQ (bZ 7 rfl rfl) bX)) (.head _) rfl (Zi Z_25 (Ht rfl) (Ht rfl) (hvs.pl c zo) (i:=p) (hs:=vs) zo) (Y.D_done aS rfl (by kernel_rfl) rfl (by simp [Y.okP]) rfl rfl (bU (bU (bU (bU (bU (bU (bU (bU (bU (bU (bU (bU (bU (Y.F_putI (Y.F_nil ?_))))))))))))))))
      refine ro rfl (gZ U_26 Z_25 (Ht rfl) (Ht rfl) rfl zo (by rw [Nat.mul_one,Nat.zero_add])) ?_
      refine a5B Z_25 (Ht rfl) (Ht rfl) (j:=1) rfl (hvs.pl p zo) (by rw [List.length_set]; omega) rfl ?_
      refine eW (tC 1 rfl (Xz (hs:=swp Ke vs p c) (p:=p) (c:=c) zo zo zo) (dQ (rm rfl (ro rfl (dK (Ht rfl) (cV 1) z6) (ra rfl (eW (aT (sw + 1,swp Ke vs p c,swp [] A p c) ⟨⟨by rw [if_neg hpc2],by rw [if_neg hpc2]⟩,hvs.swp hp2 hcn⟩ (zS rfl) (dI.refl _))))))))
     ·have hpc2 : p = c := by simpa using hpc
      refine cY (aT (sw,vs,A) ⟨⟨by rw [if_pos hpc2]; rfl,by rw [if_pos hpc2]⟩,hvs⟩ (zS rfl) (dI.refl _))
    ·have hul := hus.len
     rw [← hq,← hD] at hnx
     have hDs:cB D n m:=by rw [hD]; split; exact hAs; exact Db hAs hp2 hcn
     have hDf:bE D G:=by rw [hD]; split; exact hAf; exact Kx hAf
     have hDl:=hDs.1
     have hDz : gm D c c ≠ Qi.zero := by
      rw [hD]; split
      ·rename_i e; rw [e] at hpz; exact hpz
      ·show gv (eC (swp [] A p c) c) c ≠ _
       rw [Au zo]; exact hpz
     refine ts (rm rfl (ro rfl (dK (Ht rfl) (cV 1) z6) (ra rfl (eW (eY ?_)))))
     refine cP (fun (r : Nat) => c < r ∧ r ≤ n) (fun (r : Nat) => n - r) (fun (r : Nat) => [(0, Is (.slice (some ⟨B, 0, none⟩) n n)), (4, NT .i64 q), (5, NT .i64 c), (7, NT .i64 r), (12, NT .i64 n), (13, NT .i64 c)]) (fun (r : Nat) => [Z, kD B 25 60 5 us us (dO aI (redM D c r))]) (c + 1) ⟨Nat.lt_succ_self _, hcn⟩
      (zS rfl) (aU (fun _ _ _ h=>h) (aU (qD (congrArg _ Rn)) aY)) (fun r ⟨hcr,hrn⟩=>?_)
     refine cU (ts (rm rfl (rm rfl (ro rfl (iV U_26 (Ht rfl)) (ro rfl (gV (Ht rfl) (Ht rfl)) (eW (dX (Ht rfl) (fun hr=>?_) (fun hr=>?_))))))))
     ·simp only [decide_eq_true_eq] at hr
      obtain ⟨X,hX⟩:∃ X,X = redM D c r:=⟨_,rfl⟩
      have hXr:eC X r = eC D r:=by rw [hX]; exact zE zo zo
      have hXc:eC X c = eC D c:=by rw [hX]; exact zE zo zo
      have hXl:X.length = n:=by rw [hX,uR]; exact hDl
      have hXrl:(eC X r).length = m:=by rw [hXr]; exact hDs.row hr
      have hXcl:(eC X c).length = m:=by rw [hXc]; exact hDs.row hcn
      have hXrg:(X.getD r []).length = m:=hXrl
      have hXcg:(X.getD c []).length = m:=hXcl
      have hXfr:bI (eC X r) G:=by rw [hXr]; exact hDf.row r
      have hXfc:bI (eC X c) G:=by rw [hXc]; exact hDf.row c
      haveI g1:aF (gm X r c) G:=hXfr.get hG1 c
      haveI g2:aF (gm X c c) G:=hXfc.get hG1 c
      have hXz:gm X c c ≠ Qi.zero:=by show gv (eC X c) c ≠ _; rw [hXc]; exact hDz
      haveI g3:aF (gm X r c / gm X c c) (G + 3 * G + 2):=⟨g1.fit.div g2.fit hXz⟩
      have hend:=a2b (D:=D) (r:=r) (c:=c) zo hcr
      rw [← hX] at hend ⊢
      refine cY (cU (eY (cU (Y.D_start (m:=21) [] (cQ (Ei:=[(0,_)]) rfl rfl (bQ (bJ rfl rfl) bX) rfl rfl (dZ rfl (cZ (Ht rfl))) (cQ (Ei:=[(7,_)]) rfl rfl (bQ (bJ rfl rfl) bX) rfl rfl (dZ rfl (cZ (Ht rfl))) (cQ (Ei:=[(69,_),(70,_)]) rfl rfl (bQ (bZ 0 rfl rfl) (bQ (bZ 1 rfl rfl) bX)) rfl rfl (dZ rfl (gZ U_26 Z_25 (Ht rfl) (Ht rfl) rfl zo (by rw [Nat.mul_one,Nat.zero_add]))) ?_)))))))
      refine cQ (Ei:=[(71,_)]) rfl rfl (bQ (bZ 2 rfl rfl) bX) rfl rfl (dZ rfl (gD A_25 Z_25 (Ht rfl) (j:=1) rfl zo)) (cQ (Ei:=[(5,_)]) rfl rfl (bQ (bJ rfl rfl) bX) rfl rfl (dZ rfl (cZ (Ht rfl))) (cQ (Ei:=[(72,_),(73,_)]) rfl rfl (bQ (bZ 3 rfl rfl) (bQ (bZ 4 rfl rfl) bX)) rfl rfl (dZ rfl (iG U_25 Z_60 (Ht rfl) (Ht rfl) rfl (j:=1) rfl zo zo zo)) (cQ (Ei:=[(74,_)]) rfl rfl (bQ (bZ 5 rfl rfl) bX) rfl rfl (dZ rfl (kP A_60 Z_60 (Ht rfl) (j:=1) rfl zo zo zo)) ?_)))
      refine cQ (Ei:=[(75,_)]) rfl rfl (bQ (bZ 6 rfl rfl) bX) rfl rfl (dZ rfl (bT cD (Ht rfl))) (cQ (Ei:=[(0,_)]) rfl rfl (bQ (bJ rfl rfl) bX) rfl rfl (dZ rfl (cZ (Ht rfl))) (cQ (Ei:=[(5,_)]) rfl rfl (bQ (bJ rfl rfl) bX) rfl rfl (dZ rfl (cZ (Ht rfl))) (cQ (Ei:=[(77,_),(78,_)]) rfl rfl (bQ (bZ 8 rfl rfl) (bQ (bZ 9 rfl rfl) bX)) rfl rfl (dZ rfl (gZ U_26 Z_25 (Ht rfl) (Ht rfl) rfl zo (by rw [Nat.mul_one,Nat.zero_add]))) ?_)))
      refine cQ (Ei:=[(79,_)]) rfl rfl (bQ (bZ 10 rfl rfl) bX) rfl rfl (dZ rfl (gD A_25 Z_25 (Ht rfl) (j:=1) rfl zo)) (cQ (Ei:=[(5,_)]) rfl rfl (bQ (bJ rfl rfl) bX) rfl rfl (dZ rfl (cZ (Ht rfl))) (cQ (Ei:=[(80,_),(81,_)]) rfl rfl (bQ (bZ 11 rfl rfl) (bQ (bZ 12 rfl rfl) bX)) rfl rfl (dZ rfl (iG U_25 Z_60 (Ht rfl) (Ht rfl) rfl (j:=1) rfl zo zo zo)) (cQ (Ei:=[(82,_)]) rfl rfl (bQ (bZ 13 rfl rfl) bX) rfl rfl (dZ rfl (kP A_60 Z_60 (Ht rfl) (j:=1) rfl zo zo zo)) ?_)))
      refine cQ (Ei:=[(76,_),(83,_)]) rfl rfl (bQ (bZ 7 rfl rfl) (bQ (bZ 14 rfl rfl) bX)) rfl rfl (dZ rfl (bF lV K_64 (tX (x:=gm X r c) (y:=gm X c c) (L:=G) (M:=G) zo) (Ht rfl) ⟨(Ht rfl),trivial⟩)) (cQ (Ei:=[(84,_)]) rfl rfl (bQ (bZ 15 rfl rfl) bX) rfl rfl (dZ rfl (cZ (Ht rfl))) (cQ (Ei:=[(68,_)]) rfl rfl (bQ (bZ 16 rfl rfl) bX) rfl rfl (dZ rfl (eQ (Ht rfl) rfl)) (cQ (Ei:=[(68,_)]) rfl rfl (bQ (bZ 16 rfl rfl) bX) rfl rfl (dZ rfl (eQ (Ht rfl) rfl)) ?_)))
      refine Y.D_newp (Ei:=[]) (fun bb=>box bb 60 [aH (decide ((gm X r c / gm X c c).a < 0)),aN (gm X r c / gm X c c).a.natAbs,aH (decide ((gm X r c / gm X c c).b < 0)),aN (gm X r c / gm X c c).b.natAbs,aN (du (gm X r c / gm X c c))]) 20 rfl rfl rfl bX rfl rfl (by kernel_rfl) (eU (Ts:=[Is (.bool false),Is (.slice none 0 0),Is (.bool false),Is (.slice none 0 0),Is (.slice none 0 0)]) O_60 rfl (fun V=>aW zd (aW zd (aW zd (aW zd (aW zd (aG))))))) ?_
      refine Y.D_putN (Ei:=[(85,_)]) 19 rfl rfl rfl rfl rfl rfl (bQ (bZ 17 rfl rfl) bX) (fun bb=>mO Z_60 (Ht rfl) (Ht rfl) rfl (i:=0) rfl (aK rfl) rfl rfl) (Y.D_done aS rfl (by kernel_rfl) rfl (by simp [Y.okP]) rfl rfl (bU (bU (bU (bU (bU (bU (bU (bU (bU (bU (bU (bU (bU (bU (bU (bU (bU (bU (bU (Y.F_newp (fun B8=>Y.F_putN (Y.F_nil ?_)))))))))))))))))))))))
      refine ra rfl (eW (ts (rm rfl (ro rfl (dK (Ht rfl) (cV 1) z6) (ra rfl (eW (eY ?_)))))))
      refine cP (fun (k : Nat) => c < k ∧ k ≤ m) (fun (k : Nat) => m - k) (fun (k : Nat) => [(0, Is (.slice (some ⟨B, 0, none⟩) n n)), (4, NT .i64 q), (5, NT .i64 c), (7, NT .i64 r), (8, cC B8 0), (10, NT .i64 k), (12, NT .i64 n), (13, NT .i64 c)]) (fun (k : Nat) => [Z, kD B 25 60 5 us us (dO aI (X.set r (mM (eC X r) (eC X c) c k))), box B8 60 [aH (decide ((gm X r c / gm X c c).a < 0)), aN (gm X r c / gm X c c).a.natAbs, aH (decide ((gm X r c / gm X c c).b < 0)), aN (gm X r c / gm X c c).b.natAbs, aN (du (gm X r c / gm X c c))]]) (c + 1) ⟨Nat.lt_succ_self _, by omega⟩
       (zS rfl) (aU (fun _ _ _ h=>h) (aU (qD (by rw [← Ro,a76 zo])) (aU (aD rfl) aY))) (fun k ⟨hck,hkm⟩=>?_)
      obtain ⟨Y,hY⟩:∃ Y,Y = (X.set r (mM (eC X r) (eC X c) c k)):=⟨_,rfl⟩
      have hYl:Y.length = n:=by rw [hY,List.length_set]; exact hXl
      have hYrl:(eC Y r).length = m:=by rw [hY,Fl zo,zG]; exact hXrl
      have hYcl:(eC Y c).length = m:=by rw [hY,vT zo]; exact hXcl
      have hYrg:(Y.getD r []).length = m:=hYrl
      have hYcg:(Y.getD c []).length = m:=hYcl
      rw [← hY]
      refine cU (ts (rm rfl (rm rfl (rm rfl (ro rfl (gZ U_26 Z_25 (Ht rfl) (Ht rfl) rfl zo (by rw [Nat.mul_one,Nat.zero_add])) ?_)))))
      refine ro rfl (gD A_25 Z_25 (Ht rfl) (j:=1) rfl zo) (ro rfl (a49 U_25 (Ht rfl) (j:=1) rfl zo zo) (ro rfl (gV (Ht rfl) (Ht rfl)) (eW (dX (Ht rfl) (fun hk=>?_) (fun hk=>?_)))))
      ·have hk2 : k < m := by simp only [decide_eq_true_eq] at hk; omega
       have e1:gm Y r k = gv (eC X r) k:=by rw [hY]; exact a7W zo zo hck
       have e2:gm Y c k = gv (eC X c) k:=by rw [hY]; exact a7V zo
       haveI y1:aF (gm Y r k) G:=by rw [e1]; exact hXfr.get hG1 k
       haveI y2:aF (gm Y c k) G:=by rw [e2]; exact hXfc.get hG1 k
       have hst:=a2a (X:=X) (r:=r) (c:=c) (k:=k) zo zo zo hck
       rw [← hY] at hst
       refine cY (cU (eY (fW (m:=24) (dp 0 rfl (cZ (Ht rfl)) (dp 7 rfl (cZ (Ht rfl)) (dE 98 0 99 1 rfl (gZ U_26 Z_25 (Ht rfl) (Ht rfl) rfl zo (by rw [Nat.mul_one,Nat.zero_add])) ?_))))))
       refine dq 100 2 rfl (gD A_25 Z_25 (Ht rfl) (j:=1) rfl zo) (dp 10 rfl (cZ (Ht rfl)) (dp 0 rfl (cZ (Ht rfl)) (dp 7 rfl (cZ (Ht rfl)) (dE 103 5 104 6 rfl (gZ U_26 Z_25 (Ht rfl) (Ht rfl) rfl zo (by rw [Nat.mul_one,Nat.zero_add])) ?_))))
       refine dq 105 7 rfl (gD A_25 Z_25 (Ht rfl) (j:=1) rfl zo) (dp 10 rfl (cZ (Ht rfl)) (dE 106 8 107 9 rfl (iG U_25 Z_60 (Ht rfl) (Ht rfl) rfl (j:=1) rfl zo zo zo) (dq 108 10 rfl (kP A_60 Z_60 (Ht rfl) (j:=1) rfl zo zo zo) (dq 109 11 rfl (bT cD (Ht rfl)) (dp 8 rfl (eK A_60 Z_60 (Ht rfl) (i:=2) rfl rfl rfl) (dq 111 13 rfl (bT cD (Ht rfl)) (dp 0 rfl (cZ (Ht rfl)) (dp 5 rfl (cZ (Ht rfl)) (dE 113 15 114 16 rfl (gZ U_26 Z_25 (Ht rfl) (Ht rfl) rfl zo (by rw [Nat.mul_one,Nat.zero_add])) ?_)))))))))
       refine dq 115 17 rfl (gD A_25 Z_25 (Ht rfl) (j:=1) rfl zo) (dp 10 rfl (cZ (Ht rfl)) (dE 116 18 117 19 rfl (iG U_25 Z_60 (Ht rfl) (Ht rfl) rfl (j:=1) rfl zo zo zo) (dq 118 20 rfl (kP A_60 Z_60 (Ht rfl) (j:=1) rfl zo zo zo) (dE 112 14 119 21 rfl (bF eM K_70 (lS (x:=gm X r c / gm X c c) (y:=gm Y c k) (L:=G + 3 * G + 2) (M:=G) zo) (Ht rfl) ⟨(Ht rfl),trivial⟩) (dE 110 12 120 22 rfl (bF lW K_69 (wI (x:=gm Y r k) (y:=gm X r c / gm X c c * gm Y c k) (L:=G) (M:=G + 3 * G + 2 + G + 1) zo) (Ht rfl) ⟨(Ht rfl),trivial⟩) ?_)))))
       refine fK aS rfl (by kernel_rfl) (zF (zF (zF (zF (zF (zF (aV (ro rfl (iG U_25 Z_60 (Ht rfl) (Ht rfl) rfl (j:=1) rfl zo zo zo) (a4Y Z_60 (Ht rfl) (Ht rfl) (j:=1) rfl (El.ag rfl) (F:=aI) (z:=gm Y r k - gm X r c / gm X c c * gm Y c k) zo zo zo rfl (eW (bM (dQ ?_))))))))))))
       refine rm rfl (ro rfl (dK (Ht rfl) (cV 1) z6) (ra rfl (eW (gX (k + 1) ⟨by omega,hk2⟩ zo (zS rfl) (aU (fun _ _ _ h=>h) (aU (qD (congrArg _ hst)) (aU (aD rfl) aY)))))))
      ·have hk3 : k = m := by simp only [decide_eq_false_iff_not] at hk; omega
       subst hk3
       refine gK rfl (bM (dQ (rm rfl (ro rfl (dK (Ht rfl) (cV 1) z6) (ra rfl (eW (cM [0,1] rfl (by decide) (gX (r + 1) ⟨by omega,hr⟩ zo (zS rfl) (aU (fun _ _ _ h=>h) (aU (qD (by rw [hY,← hend,hDs.row hr])) aY))))))))))
     ·simp only [decide_eq_false_iff_not] at hr
      obtain rfl:r = n:=Nat.le_antisymm hrn zo
      refine gK rfl (bM (dQ (ro rfl (dK (Ht rfl) (cV 1) z6) (rm rfl (eW (gX (c + 1,q,us,redM D c r) ⟨⟨hcn,by show q ≤ c + 1; rw [hq]; split <;> omega⟩,hnx,hus⟩ (by dsimp only; omega) (zS rfl) (dI.refl _)))))))
 ·simp only [decide_eq_false_iff_not] at hcn
  obtain rfl:c = n:=Nat.le_antisymm hc zo
  have hvl:=hvs.len
  have hAs:cB A c m:=by have h:=qP hs hc; rw [hA] at h; exact h
  refine gK rfl (ts (rm rfl (ra rfl (ro rfl (cX cW) (eW ?_)))))
  exact lJ () trivial [0,1] ⟨⟨_,rfl,fun _ _ _ h=>h⟩,⟨_,rfl,(fun S w V h=>fT (by rw [hA]) S w V (Ez (by rw [List.length_map,hAs.1]; exact hvl) S w V h))⟩,trivial⟩ (by decide) (a4F rfl (fV (fX rfl) (mK (by rw [hA]))) (fV (fX rfl) (aR (by rw [hA]))))
end
section
open Go Go.RowKit
abbrev Mb (M bs:List (List Qi)) (i:Nat):List Qi:=eC M i ++ bs.map fun b=>gv b i
def kX (M bs:List (List Qi)) (n:Nat):List (List Qi):=tab n (Mb M bs)
theorem a3f {r:List Qi} {bs:List (List Qi)} {i j:Nat} (h:j < bs.length):(r ++ (bs.take j).map fun b=>gv b i) ++ [gv (bs.getD j []) i] = r ++ (bs.take (j + 1)).map fun b=>gv b i:=by
 rw [List.append_assoc,List.take_add_one,List.map_append]
 simp [List.getD,h]
theorem mG {M bs:List (List Qi)} {n m:Nat} (h:cB M n m):cB (kX M bs n) n (m + bs.length):=by
 refine ⟨aE _ _,fun r hr=>?_⟩
 obtain ⟨i,hi,rfl⟩:=dR.1 hr
 rw [List.length_append,List.length_map,h.row hi]
theorem vC {M bs : List (List Qi)} {n L : Nat} (h : bE M L) (hb : bE bs L) (hL : 1 ≤ L) : bE (kX M bs n) L := fun r hr x hx => by
 obtain ⟨i,hi,rfl⟩:=dR.1 hr
 rcases List.mem_append.1 hx with h1 | h1
 ·exact h.row i x h1
 ·obtain ⟨b, hb1, rfl⟩ := List.mem_map.1 h1
  exact bI.get (hb b hb1) hL i
theorem Xf {M:List (List Qi)} {n m:Nat} (h:cB M n m):kX M [] n = M:=by
 have:kX M [] n = tab n (eC M):=bR fun i _=>by simp [Mb]
 rw [this]; exact (Ky (h:=h.1)).symm
def pU (U : List (List Qi)) (x : List Qi) (n c : Nat) : Nat → Qi
 | 0=>gm U c n
 | k + 1=>pU U x n c k - gm U c (c + 1 + k) * gv x (c + 1 + k)
def oT (U : List (List Qi)) (n : Nat) : Nat → List Qi
 | 0=>tab n fun _=>Qi.zero
 | j + 1=>(oT U n j).set (n - (j + 1)) (pU U (oT U n j) n (n - (j + 1)) j / gm U (n - (j + 1)) (n - (j + 1)))
theorem uY (U : List (List Qi)) (n : Nat) : ∀ j, (oT U n j).length = n
 | 0=>aE _ _
 | j + 1=>by rw [oT,List.length_set,uY U n j]
def sC (M:List (List Qi)) (b:List Qi) (n:Nat):List (List Qi) × Nat × Int:=cI (kX M [b] n) n
def jO (M:List (List Qi)) (b:List Qi) (n:Nat):Int:=if 0 ≤ (sC M b n).2.2 then 6 else 0
def iK (M:List (List Qi)) (b:List Qi) (n:Nat):List Qi:=oT (sC M b n).1 n n
def wN (G : Nat) : Nat → Nat
 | 0=>G
 | j + 1=>j * (wN G j + G + 2) + 4 * G + 2
theorem zO (G j:Nat):wN G j ≤ wN G (j + 1):=by
 cases j with
 | zero=>simp only [wN]; omega
 | succ j =>
  have:wN G (j + 1) + G + 2 ≤ (j + 1) * (wN G (j + 1) + G + 2):=Nat.le_mul_of_pos_left _ zo
  rw [show wN G (j + 1 + 1) = (j + 1) * (wN G (j + 1) + G + 2) + 4 * G + 2 from rfl]
  omega
theorem Fy (G : Nat) : ∀ j, G ≤ wN G j
 | 0=>Nat.le_refl _
 | j + 1=>Nat.le_trans (Fy G j) (zO G j)
theorem Fz (G : Nat) : ∀ {i j : Nat}, i ≤ j → wN G i ≤ wN G j
 | i,0,h=>by rw [show i = 0 by omega]; exact Nat.le_refl _
 | i, j + 1, h => by
  by_cases e:i = j + 1
  ·rw [e]; exact Nat.le_refl _
  ·exact Nat.le_trans (Fz G (show i ≤ j by omega)) (zO G j)
theorem qI {M : List (List Qi)} {n m : Nat} (hs : cB M n m) : ∀ {c : Nat}, c ≤ n → (cI M c).2.2 < 0 → ∀ i, i < c → gm (cI M c).1 i i ≠ Qi.zero
 | 0,_,_,i,hi=>by omega
 | c + 1, hc, hst, i, hi => by
  have sh:=qP hs (c:=c) zo
  obtain ⟨_,i2,i3,i4⟩:=pD (M:=(cI M c).1) (c:=c) (n:=M.length) (by rw [hs.1]; omega)
  simp only [cI] at hst ⊢
  split at hst
  ·rename_i h0; omega
  ·rename_i h0
   rw [if_neg h0]
   split at hst
   ·simp at hst; omega
   ·rename_i h1
    rw [if_neg h1]
    have ih:=qI hs (c:=c) zo zo
    have hl : ∀ X : List (List Qi), X.length = n → gm (redM X c M.length) i i = gm X i i := fun X hX => by
     show gv (eC (redM X c M.length) i) i = _
     rw [zE zo zo]
    by_cases e:pv (cI M c).1 c M.length = c
    ·rw [if_pos e, hl _ sh.1]
     by_cases e2:i = c
     ·rw [e2]; have:=i4 (by have:=hs.1; omega); rw [e] at this; exact this
     ·exact ih i zo
    ·have hpl : pv (cI M c).1 c M.length < n := by rw [← hs.1]; omega
     rw [if_neg e,hl _ ((Da _ _ _ _).trans sh.1)]
     by_cases e2:i = c
     ·rw [e2]
      show gv (eC (swp [] _ _ c) c) c ≠ _
      rw [Au (by rw [sh.1]; omega)]
      exact i4 (by have:=hs.1; omega)
     ·have : eC (swp [] (cI M c).1 (pv (cI M c).1 c M.length) c) i = eC (cI M c).1 i := by
       simp only [eC,swp,List.getD]
       rw [List.getElem?_set_ne (Ne.symm e2),List.getElem?_set_ne zo]
      show gv (eC (swp [] _ _ c) i) i ≠ _
      rw [this]; exact ih i zo
theorem Cz {U : List (List Qi)} {x : List Qi} {n c G X : Nat} (hU : bE U G) (hx : bI x X) (hG : 1 ≤ G) (hX : 1 ≤ X) : ∀ k, aF (pU U x n c k) (G + k * (G + X + 2))
 | 0=>(hU.get hG c n).le zo
 | k + 1 => by
  haveI f1:=Cz (n:=n) (c:=c) hU hx hG hX k
  haveI f2:=hU.get hG c (c + 1 + k)
  haveI f3:=hx.get hX (c + 1 + k)
  have:aF (pU U x n c (k + 1)) (G + k * (G + X + 2) + (G + X + 1) + 1):=by unfold pU; infer_instance
  exact this.le (by rw [Nat.add_mul]; omega)
theorem a5L {U:List (List Qi)} {x:List Qi} {n c G X j:Nat} (hU:bE U G) (hx:bI x X) (hG:1 ≤ G) (hX:1 ≤ X) (hz:gm U c c ≠ Qi.zero):aF (pU U x n c j / gm U c c) (j * (X + G + 2) + 4 * G + 2):=by
 have f1:=Cz (n:=n) (c:=c) hU hx hG hX j
 have f2:=hU.get hG c c
 have:aF (pU U x n c j / gm U c c) (G + j * (G + X + 2) + 3 * G + 2):=⟨f1.fit.div f2.fit hz⟩
 exact this.le (by rw [Nat.add_comm X G]; omega)
theorem Pn {U : List (List Qi)} {n G : Nat} (hU : bE U G) (hG : 1 ≤ G) (hz : ∀ i, i < n → gm U i i ≠ Qi.zero) : ∀ j, j ≤ n → bI (oT U n j) (wN G j)
 | 0,_=>bI.tab fun _ _=>aF.zero hG
 | j + 1, hj => fun y hy => by
  have ih:=Pn hU hG hz j zo
  rcases List.mem_or_eq_of_mem_set hy with h1 | h1
  ·exact (ih y h1).le (zO G j)
  ·rw [h1]; exact a5L hU ih hG (Nat.le_trans hG (Fy G j)) (hz _ zo)
theorem a25 {M:List (List Qi)} {b:List Qi} {n:Nat} (h:cB M n n):cB (sC M b n).1 n (n + 1):=qP (mG h) (Nat.le_refl n)
theorem Ok {M:List (List Qi)} {b:List Qi} {n L:Nat} (h:cB M n n) (hM:bE M L) (hb:bI b L) (hL:1 ≤ L):bE (sC M b n).1 (lG L n):=Ee (mG h) (vC hM (fun r hr=>by simp at hr; subst hr; exact hb) hL) hL (Nat.le_refl n)
theorem a26 {M : List (List Qi)} {b : List Qi} {n L : Nat} (h : cB M n n) (hM : bE M L) (hb : bI b L) (hL : 1 ≤ L) (hE : (sC M b n).2.2 < 0) : bI (iK M b n) (wN (lG L n) n) :=
 Pn (Ok h hM hb hL) (Nat.le_trans hL (rP L n)) (qI (mG h) (Nat.le_refl n) hE) n (Nat.le_refl n)
def Fw (n i:Nat):List Qi:=(tab n fun _=>Qi.zero).set i (Qi.ofInt 1)
def rQ (n:Nat):List (List Qi):=tab n (Fw n)
theorem nQ (n:Nat):cB (rQ n) n n:=⟨aE _ _,fun r hr=>by obtain ⟨i,_,rfl⟩:=dR.1 hr; rw [Fw,List.length_set,aE]⟩
theorem lA:aF (Qi.ofInt 1) 1:=⟨Qi.Fit.int (L:=1) (by decide) (by decide)⟩
theorem Yx {n i L : Nat} (h : 1 ≤ L) : bI (Fw n i) L := fun x hx => by
 rcases List.mem_or_eq_of_mem_set hx with h1 | h1
 ·obtain ⟨_,_,rfl⟩:=dR.1 h1; exact aF.zero h
 ·rw [h1]; exact lA.le h
theorem Ch {n L:Nat} (h:1 ≤ L):bE (rQ n) L:=fun r hr=>by obtain ⟨i,_,rfl⟩:=dR.1 hr; exact Yx h
theorem Vz {M:List (List Qi)} {b:List Qi} {n:Nat} (h:¬ 0 ≤ (sC M b n).2.2):(sC M b n).2.2 < 0:=by omega
theorem rU (F:Qi → Ty) (n:Nat):List.replicate n (F Qi.zero) = (tab n fun _=>Qi.zero).map F:=by rw [pF,zI]
theorem a7D {n j:Nat} (h:(0:Int) ≤ (n:Int) - 1 - (j:Int)):j < n:=by omega
theorem a7E {n j:Nat} (h:(n:Int) - 1 - (j:Int) < 0):n ≤ j:=by omega
end
section
open Go Go.RowKit
theorem Xb  : bB Tryz.prog 172 [dF []] (aH true):=by
 refine bB.intro Tryz.func172 rfl Tryz.ntmps172 rfl (fun cx=>(ts (ro rfl (cX cW) (eW (ts (rm rfl (ro rfl (cJ Tryz.call226 Ds ⟨(Ht rfl),trivial⟩) (rm rfl (ro rfl (eQ (Ht rfl) rfl) (ro rfl (eQ (Ht rfl) rfl) (ra rfl (ra rfl (eW (ts (rm rfl (rm rfl (fJ rfl rfl (fQ rfl rfl (Ht rfl) (fun h=>cZ (Ht rfl))) (fJ rfl rfl (fQ rfl rfl (Ht rfl) (fun h=>cZ (Ht rfl))) (fJ rfl rfl (fQ rfl rfl (Ht rfl) (fun h=>dY U_26 (fG rfl h) aB)) (fJ rfl rfl (fQ rfl rfl (Ht rfl) (fun h=>cL (fG rfl h) (fG rfl h))) ?_))))))))))))))))))))
 refine ro rfl (fC (Ht rfl) (fun h=>(fG rfl h))) (ra rfl (eW (fU rfl (fV (fX rfl) ?_))))
 exact (fA (by simp))
theorem Lv {M:List (List Qi)} {n:Nat} (h:cB M n n) (h1:1 ≤ n) (hn:n ≤ 32):bB Tryz.prog 172 [dF M] (aH true):=by
 have hl:=h.1
 refine bB.intro Tryz.func172 rfl Tryz.ntmps172 rfl (fun cx=>(ts (ro rfl (cX cW) (eW (ts (rm rfl (ro rfl (cJ Tryz.call226 (Gu h h1 hn hn) ⟨(Ht rfl),trivial⟩) (rm rfl (ro rfl (eQ (Ht rfl) rfl) (ro rfl (eQ (Ht rfl) rfl) (ra rfl (ra rfl (eW (ts (rm rfl (rm rfl (fJ rfl rfl (fQ rfl rfl (Ht rfl) (fun h=>cZ (Ht rfl))) (fJ rfl rfl (fQ rfl rfl (Ht rfl) (fun h=>cZ (Ht rfl))) (fJ rfl rfl (fQ rfl rfl (Ht rfl) (fun h=>dY U_26 (fG rfl h) aB)) (fJ rfl rfl (fQ rfl rfl (Ht rfl) (fun h=>cL (fG rfl h) (fG rfl h))) ?_))))))))))))))))))))
 refine ro rfl (fC (Ht rfl) (fun h=>(fG rfl h))) (ra rfl (eW (fU rfl (fV (fX rfl) ?_))))
 exact (fA (by simp [hl]))
theorem Hb {M:List (List Qi)} {n:Nat} (h:cB M n n) (hn:n ≤ 32):bB Tryz.prog 172 [dF M] (aH true):=by
 by_cases e:n = 0
 ·subst e
  obtain rfl:=List.length_eq_zero_iff.1 h.1
  exact Xb
 ·exact Lv h zo hn
theorem Gw {M bs:List (List Qi)} {n m:Nat} (hM:cB M n m) (hb:∀ b,b ∈ bs → n ≤ b.length) (hn:n ≤ 1000) (hm:m ≤ 1000) (hbl:bs.length ≤ 1000):jM Tryz.prog 195 [dF M,dF bs] [] (Nat) (fun B=>Is (.slice (some ⟨B,0,none⟩) n n)) (fun B=>[qC B 25 60 5 (dO aI (kX M bs n))]) (fun _=>True):=by
 have hMl:=hM.1
 refine jM.intro Tryz.func195 rfl Tryz.ntmps195 rfl (fun cx Z=>(ts (ro rfl (cX cW) (eW (ts (rm rfl (ro rfl (dY U_26 (Ht rfl) aB) (rn rfl (iI (T:=Is (.slice none 0 0)) (i:=Tryz.t25) V_26 yC rfl rfl (Ht rfl) rfl (fun _=>rfl) trivial (by show 24 * _ ≤ _; omega) zo) fun B12=>(ra rfl (eW (cU (ts (rm rfl (ro rfl (dY U_26 (Ht rfl) aB) (ro rfl (cZ (cV 0)) (eW (eY (tC 1 rfl (Ck (e:=60) (s:=5)) ?_))))))))))))))))))
 refine cP (fun (i : Nat) => i ≤ M.length) (fun (i : Nat) => M.length - i) (fun (i : Nat) => [(0, dF M), (1, dF bs), (5, Is (.slice (some ⟨B12, 0, none⟩) M.length M.length)), (13, dF M), (14, NT .i64 M.length), (15, NT .i64 i)]) (fun (i : Nat) => [Z, qC B12 25 60 5 (dO aI (nA (Mb M bs) [] M.length i))]) 0 (Nat.zero_le _)
  (zS rfl) (aU (fun _ _ _ h=>h) (aU (fT (by rw [← kF,wA]; exact zH aI M.length)) aY)) (fun i hi=>?_)
 refine ts (ro rfl (gV (Ht rfl) (Ht rfl)) (eW (cU (dX (Ht rfl) (fun hd0=>?_) (fun hd0=>?_)))))
 ·simp only [decide_eq_true_eq] at hd0
  have hrl:(eC M i).length = m:=hM.row zo
  have hrl2:(M.getD i []).length = m:=hrl
  refine tD 1 (i) rfl (Ek hd0) (fun v0=>(cY (cU (eY (ts (rm rfl (ro rfl (dJ U_26 Z_25 (Ht rfl) (Ht rfl) rfl (eZ (eX (d:=[]) hd0))) (ro rfl (dW A_25 Z_25 (Ht rfl)) (ra rfl (ra rfl (eW (ts (rm rfl (rm rfl (rm rfl (oS Tryz.call109 (Ln (l:=M.getD i []) zo) ⟨(Ht rfl),trivial⟩ rfl (fun v1 _=>(ro rfl (gZ U_26 Z_25 (Ht rfl) (Ht rfl) rfl zo (by rw [Nat.mul_one,Nat.zero_add])) ?_))))))))))))))))))
  refine Gt Z_25 (Ht rfl) (Ht rfl) (by simp only [dO,List.length_map,eR]; omega) (j:=1) (l:=3) rfl rfl rfl ?_
  refine eW (ts (rm rfl (ro rfl (dY U_26 (Ht rfl) aB) (ro rfl (cZ (cV 0)) (eW (eY (cM [0,1,3] rfl (by decide) ?_)))))))
  refine fP (fun (j : Nat) (v : Value) => j ≤ bs.length) (fun (j : Nat) (v : Value) => bs.length - j) (fun (j : Nat) (v : Value) => [(0, dF M), (1, dF bs), (5, Is (.slice (some ⟨B12, 0, none⟩) M.length M.length)), (6, NT .i64 i), (13, dF M), (14, NT .i64 M.length), (15, NT .i64 i), (25, dF bs), (26, NT .i64 bs.length), (27, NT .i64 j)]) (fun (j : Nat) (v : Value) => [Z, Xy B12 25 60 5 (dO aI (nA (Mb M bs) [] M.length i)) i v, bP 60 5 v ((eC M i ++ (bs.take j).map fun b => gv b i).map aI)]) 0 v1 (Nat.zero_le _)
   (zS rfl) (aU (fun _ _ _ h=>h) (aU (fun _ _ _ h=>h) (aU (bD (by simp)) aY))) (fun j v hj=>?_)
  refine ts (ro rfl (gV (Ht rfl) (Ht rfl)) (eW (cU (dX (Ht rfl) (fun he=>?_) (fun he=>?_)))))
  ·simp only [decide_eq_true_eq] at he
   have hbj:i < (bs.getD j []).length:=by have h1:=hb (bs.getD j []) (by rw [a3u he]; exact List.getElem_mem _); omega
   refine cY (cU (eY (ts (ro rfl (dJ U_26 Z_25 (Ht rfl) (Ht rfl) rfl (eZ (eX (d:=[]) he))) (ro rfl (dW A_25 Z_25 (Ht rfl)) (ra rfl (eW (Y.D_startA (m:=12) [] 11 2 rfl rfl (cQ (Ei:=[(5,_)]) rfl rfl (bQ (bJ rfl rfl) bX) rfl rfl (dZ rfl (cZ (Ht rfl))) (cQ (Ei:=[(6,_)]) rfl rfl (bQ (bJ rfl rfl) bX) rfl rfl (dZ rfl (cZ (Ht rfl))) (cQ (Ei:=[(5,_)]) rfl rfl (bQ (bJ rfl rfl) bX) rfl rfl (dZ rfl (cZ (Ht rfl))) ?_)))))))))))
   refine cQ (Ei:=[(6,_)]) rfl rfl (bQ (bJ rfl rfl) bX) rfl rfl (dZ rfl (cZ (Ht rfl))) (cQ (Ei:=[(33,_),(34,_)]) rfl rfl (bQ (bZ 2 rfl rfl) (bQ (bZ 3 rfl rfl) bX)) rfl rfl (dZ rfl (gZ U_26 Z_25 (Ht rfl) (Ht rfl) rfl zo (by rw [Nat.mul_one,Nat.zero_add]))) ?_)
   refine cQ (Ei:=[(35,_)]) rfl rfl (bQ (bZ 4 rfl rfl) bX) rfl rfl (dZ rfl (pR A_25 Z_25 (Ht rfl) (j:=1) rfl)) (cQ (Ei:=[(9,_)]) rfl rfl (bQ (bJ rfl rfl) bX) rfl rfl (dZ rfl (cZ (Ht rfl))) (cQ (Ei:=[(6,_)]) rfl rfl (bQ (bJ rfl rfl) bX) rfl rfl (dZ rfl (cZ (Ht rfl))) (cQ (Ei:=[(37,_),(38,_)]) rfl rfl (bQ (bZ 6 rfl rfl) (bQ (bZ 7 rfl rfl) bX)) rfl rfl (dZ rfl (dJ U_25 Z_60 (Ht rfl) (Ht rfl) rfl (eZ (eX (d:=Qi.zero) hbj)))) ?_)))
   refine cQ (Ei:=[(39,_)]) rfl rfl (bQ (bZ 8 rfl rfl) bX) rfl rfl (dZ rfl (dW A_60 Z_60 (Ht rfl))) (cQ (Ei:=[(40,_)]) rfl rfl (bQ (bZ 9 rfl rfl) bX) rfl rfl (dZ rfl (eB (xs:=[.tmp 40]) U_25 Z_60 O_60 (cG (Ht rfl) cK) rfl rfl rfl)) (Y.D_app (Ei:=[(36,_),(41,_)]) rfl rfl rfl rfl (bQ (bZ 5 rfl rfl) (bQ (bZ 10 rfl rfl) bX)) rfl (De (inf:=Tryz.t60) lE jH rfl rfl rfl (Ht rfl) (Ht rfl) (by simp) (fun T hT=>by simp at hT; subst hT; exact El.ag rfl) (by show _ * 88 ≤ _; simp only [List.length_map,List.length_append,List.length_take,List.length_cons,List.length_nil]; omega) (by simp only [List.length_map,List.length_append,List.length_take,List.length_cons,List.length_nil]; omega)) ?_))
   refine Y.D_done aS rfl (by kernel_rfl) rfl (by simp [Y.okP]) rfl rfl (bU (bU (bU (bU (bU (bU (bU (bU (bU (bU (bU (Y.F_app (fun v2=>Y.F_nil ?_)))))))))))))
   refine ro rfl (gZ U_26 Z_25 (Ht rfl) (Ht rfl) rfl zo (by rw [Nat.mul_one,Nat.zero_add])) ?_
   refine Gt Z_25 (Ht rfl) (Ht rfl) (by simp only [dO,List.length_map,eR]; omega) (j:=1) (l:=3) rfl rfl rfl ?_
   refine eW (bM (dQ (ro rfl (dK (Ht rfl) (cV 1) z6) (rm rfl (eW (cM [0,1,3] rfl (by decide) (gX (j + 1,v2) he (by dsimp only; omega) (zS rfl) (aU (fun _ _ _ h=>h) (aU (fun _ _ _ h=>h) (aU (bD ((Ll aI _ (gv (bs.getD j []) i)).trans (congrArg _ (a3f he)))) aY))))))))))
  ·simp only [decide_eq_false_iff_not] at he
   obtain rfl:bs.length = j:=Nat.le_antisymm zo hj
   refine gK rfl (bM (nB 1 2 rfl rfl (by decide) (by simp only [dO,List.length_map,eR]; omega) ?_))
   refine dQ (ro rfl (dK (Ht rfl) (cV 1) z6) (rm rfl (eW (cM [0,1] rfl (by decide) (gX (i + 1) hd0 zo (zS rfl) (aU (fun _ _ _ h=>h) (aU (fT (by rw [List.take_length,oA,← lN (f:=Mb M bs)])) aY)))))))
 ·simp only [decide_eq_false_iff_not] at hd0
  obtain rfl:i = M.length:=Nat.le_antisymm hi zo
  subst hMl
  refine gK rfl (ts (rm rfl (ra rfl (eW ?_))))
  exact lJ B12 trivial [0,1] ⟨⟨_,rfl,fun _ _ _ h=>h⟩,⟨_,rfl,(fT (by rw [lM]; rfl))⟩,trivial⟩ (by decide) (zJ rfl (fX rfl))
end
section
open Go Go.RowKit
abbrev ek (n k:Nat):List Qi:=(rQ n).getD k []
theorem a6b {n k:Nat} (h:k < n):(ek n k).length = n:=(nQ n).row h
theorem Qj {n k L:Nat} (h:1 ≤ L):bI (ek n k) L:=(Ch h).row k
def pY (M:List (List Qi)) (n:Nat):Int:=kK (fun k=>jO M (ek n k) n) n
def rF (M:List (List Qi)) (n:Nat):List (List Qi):=tab n fun r=>tab n fun j=>gv (iK M (ek n j) n) r
theorem kT {α:Type} {n i:Nat} {f:Nat → α} {d:α} (h:i < n):(tab n f).getD i d = f i:=by simp [List.getD,cH h]
def uM (M:List (List Qi)) (n k i:Nat):List (List Qi):=tab n fun r=>tab n fun j=>if j < k ∨ j = k ∧ r < i then gv (iK M (ek n j) n) r else gm M r j
theorem sP (M:List (List Qi)) (n k i:Nat):cB (uM M n k i) n n:=cB.tab
theorem Xu {M:List (List Qi)} {n:Nat} (h:cB M n n):M = uM M n 0 0:=by
 rw [uM]
 conv=>lhs; rw [vK h]
 exact bR fun r _=>bR fun j _=>by rw [if_neg zo]
theorem a11 (M : List (List Qi)) (n k : Nat) : uM M n k n = uM M n (k + 1) 0 := bR fun r hr => bR fun j _ => by
 by_cases h:j < k ∨ j = k ∧ r < n
 ·rw [if_pos h,if_pos zo]
 ·rw [if_neg h,if_neg zo]
theorem a12 (M:List (List Qi)) (n:Nat):uM M n n 0 = rF M n:=bR fun r _=>bR fun j hj=>by rw [if_pos zo]
theorem Xt {M:List (List Qi)} {n k i:Nat} (hi:i < n) (hk:k < n):(uM M n k i).set i (((uM M n k i).getD i []).set k (gv (iK M (ek n k) n) i)) = uM M n k (i + 1):=by
 apply List.ext_getElem?
 intro r
 by_cases hr:r < n
 ·by_cases e : r = i
  ·subst e
   rw [List.getElem?_set_self (by rw [(sP _ _ _ _).1]; exact hr),uM,uM,cH (f:=fun r=>tab n fun j=>if j < k ∨ j = k ∧ r < _ + 1 then gv (iK M (ek n j) n) r else gm M r j) hr]
   congr 1
   have:(tab n fun x=>tab n fun j=>if j < k ∨ j = k ∧ x < r then gv (iK M (ek n j) n) x else gm M x j).getD r [] = tab n fun j=>if j < k ∨ j = k ∧ r < r then gv (iK M (ek n j) n) r else gm M r j:=kT hr
   rw [this]
   apply List.ext_getElem?
   intro j
   by_cases hj:j < n
   ·by_cases e2 : j = k
    ·subst e2
     rw [List.getElem?_set_self (by rw [aE]; exact hj),cH hj,if_pos zo]
    ·rw [List.getElem?_set_ne (Ne.symm e2), cH hj, cH hj]
     by_cases e3:j < k
     ·rw [if_pos (.inl e3),if_pos (.inl e3)]
     ·rw [if_neg zo,if_neg zo]
   ·rw [List.getElem?_eq_none (by rw [List.length_set,aE]; omega),List.getElem?_eq_none (by rw [aE]; omega)]
  ·rw [List.getElem?_set_ne (Ne.symm e), uM, uM, cH hr, cH hr]
   congr 1
   refine bR fun j _=>?_
   by_cases e3:j < k ∨ j = k ∧ r < i
   ·rw [if_pos e3,if_pos zo]
   ·rw [if_neg e3,if_neg zo]
 ·rw [List.getElem?_eq_none (by rw [List.length_set,(sP _ _ _ _).1]; omega),List.getElem?_eq_none (by rw [(sP _ _ _ _).1]; omega)]
theorem a3z {M:List (List Qi)} {n k:Nat} (h:∀ i,i < k → jO M (ek n i) n = 0) (hk:k < n) (hx:jO M (ek n k) n ≠ 0):pY M n = jO M (ek n k) n:=vH h hx hk
theorem Xs {M:List (List Qi)} {n:Nat} (h:∀ i,i < n → jO M (ek n i) n = 0):pY M n = 0:=iB h
def pmM (m:Bool) (a b:List (List Qi)) (n:Nat):List (List Qi):=tab n fun i=>tab n fun j=>if m = true then gm a i j - gm b i j else gm a i j + gm b i j
theorem a4n {m:Bool} {a b:List (List Qi)} {n:Nat}:cB (pmM m a b n) n n:=cB.tab
theorem a4m {m : Bool} {a b : List (List Qi)} {n L M : Nat} (ha : bE a L) (hb : bE b M) (h1 : 1 ≤ L) (h2 : 1 ≤ M) : bE (pmM m a b n) (L + M + 1) := bE.tab fun i j _ _ => by
 haveI:=ha.get h1 i j; haveI:=hb.get h2 i j
 split
 ·infer_instance
 ·infer_instance
theorem Zs {T : Ty} {s : Nat} : ∀ vs V, gO [T, Is (.slice none 0 0)] vs V → gO [T, kU s []] vs V
 | [_,_],_,⟨h1,h2,h3⟩=>⟨h1,iP _ _ h2,h3⟩
 | [],_,h=>h.elim
 | [_],_,h=>h.2.elim
 | _ :: _ :: _ :: _,_,h=>h.2.2.elim
theorem jM.arg {P : Program} {f : FuncId} {Ts Ts' : List Ty} {As : Hp} {γ : Type} {U : γ → Ty} {As' : γ → Hp} {Q : γ → Prop} (h : jM P f Ts As γ U As' Q) (i : ∀ vs V, gO Ts' vs V → gO Ts vs V) : jM P f Ts' As γ U As' Q :=
 fun cx Z vs V w h1 h2=>h cx Z vs V w h1 (i _ _ h2)
end
section
open Go Go.RowKit
section
variable {P:Program} {R:iS} {cx:Cx} {n:Nat} {k:List It} {E:cT} {H:Hp}
theorem Dm (i l off : Nat) {B : Nat} {BT : TypeId} {Us : List Ty} {v : Value} {A : SA} {T : Ty} (hB : H[i]? = some (box B BT Us)) (hU : Us[off]? = some (Is v)) (hL : H[l]? = some A) (hne : i ≠ l) (hT : ∀ S V, A.h S V V → T.p v V)
  (h:Tr P R cx n k E ((H.set l SA.emp).set i (box B BT (Us.set off T)))):Tr P R cx n k E H:=fun a w ⟨V,hi,hs⟩=>by
 obtain ⟨V',S,hle,hi',hA⟩:=hi.freeze hL
 have hT:=hT S V' hA
 refine h a w ⟨V',hi'.withHH ?_,hs.mono hle⟩
 obtain ⟨F,h1,h2⟩:=hi'.hp
 have hB':(H.set l SA.emp)[i]? = some (box B BT Us):=by rw [List.getElem?_set_ne (Ne.symm hne)]; exact hB
 have hil:=(List.getElem?_eq_some_iff.1 hB').1
 refine ⟨F,fun q A hq=>?_,fun q r b hq hr=>h2 q r b (by simpa using hq) (by simpa using hr)⟩
 by_cases c:i = q
 ·subst c
  rw [List.getElem?_set_self hil] at hq
  obtain rfl:=Option.some.inj hq
  obtain ⟨⟨k1,cs,k2,k3⟩,k4⟩:=h1 i _ hB'
  obtain ⟨u,u1,u2⟩:=k3.get hU
  obtain rfl:u = v:=u2
  have hset : cs.set off u = cs := by
   apply List.ext_getElem?
   intro j
   by_cases cj:off = j
   ·subst cj; rw [List.getElem?_set_self (List.getElem?_eq_some_iff.1 u1).1,u1]
   ·rw [List.getElem?_set_ne cj]
  refine ⟨⟨k1,cs,k2,?_⟩,k4⟩
  have:=k3.set off (v:=u) hT (k3.pl u (List.mem_of_getElem? u1))
  rwa [hset] at this
 ·rw [List.getElem?_set_ne c] at hq
  exact h1 q A hq
theorem a7X {B e l : Nat} {BT : TypeId} {F : Qi → Ty} {q : Value → Prop} {M : List (List Qi)} (hl : l = M.length) : ∀ S V, (tQ q B BT e 5 (dO F M)).h S V V → (kU 1 (M.map fun r => kU 5 (r.map F))).p (.slice (some ⟨B, 0, none⟩) l l) V := fun S V h =>
 xY (s:=5) (M:=M) hl _ S V rfl h
end
def lI (p i:Nat):Nat:=if i < p then i else i + 1
abbrev jC (l:List Nat):Ty:=kU 1 (l.map (NT .i64))
def Ex (p n:Nat):List Nat:=tab n fun j=>lI p j + 1
def Xe (p i:Nat):Nat:=if i ≤ p then i else i - 1
theorem tI {p n:Nat} (h:p < n):Xe p n = n - 1:=by unfold Xe; split <;> omega
theorem xC {p i n:Nat} (h:i < n - 1) (hp:p < n):lI p i < n:=by unfold lI; split <;> omega
theorem Uv {p n j:Nat} (h:j < n):(Ex p n)[j]? = some (lI p j + 1):=cH h
def zA (z:List Qi) (p m:Nat):List Qi:=tab m fun i=>gv z (lI p i)
def a8f (s:List (List Qi)) (p m:Nat):List (List Qi):=tab m fun i=>tab m fun j=>gm s (lI p i) (lI p j)
def La (s:List (List Qi)) (p:Nat) (f:Qi) (i j:Nat):Qi:=gm s (lI p i) (lI p j) + gm s (lI p i) p * (f * gm s p (lI p j))
def Ox (s:List (List Qi)) (p m:Nat) (f:Qi):List (List Qi):=tab m fun i=>tab m fun j=>La s p f i j
def kW (s:List (List Qi)) (p:Nat) (g:Qi):Qi:=g / (Qi.ofInt 1 - gm s p p * g)
def oQ (z : List Qi) (s : List (List Qi)) (port : Int) (g : Qi) : Int :=
 if ¬ (1 ≤ port ∧ port ≤ z.length) then 1 else if z.length = 1 then 4 else if Qi.ofInt 1 - gm s (port - 1).toNat (port - 1).toNat * g = Qi.zero then 6 else 0
def nG (z:List Qi) (s:List (List Qi)) (port:Int) (g:Qi):List Qi:=iD (oQ z s port g) (zA z (port - 1).toNat (z.length - 1))
def pO (z:List Qi) (s:List (List Qi)) (port:Int) (g:Qi):List (List Qi):=iD (oQ z s port g) (Ox s (port - 1).toNat (z.length - 1) (kW s (port - 1).toNat g))
theorem Lb {z:List Qi} {s:List (List Qi)} {port:Int} {g:Qi} {e:Int} (h:oQ z s port g = e) (he:e ≠ 0):∀ v V,(cO [] []).p v V → (cO (nG z s port g) (pO z s port g)).p v V:=by
 rw [nG,pO,iD,iD,h,if_neg he,if_neg he]; exact fun _ _ k=>k
theorem a5u (p:Nat):((p:Int) + 1 - 1).toNat = p:=by omega
theorem a2m {z:List Qi} {s:List (List Qi)} {p:Nat} {g:Qi} (h:oQ z s ((p:Int) + 1) g = 0):∀ v V,(cO (zA z p (z.length - 1)) (Ox s p (z.length - 1) (kW s p g))).p v V → (cO (nG z s ((p:Int) + 1) g) (pO z s ((p:Int) + 1) g)).p v V:=by
 rw [nG,pO,iD,iD,h,if_pos rfl,if_pos rfl,a5u]; exact fun _ _ k=>k
theorem a7m {z:List Qi} {s:List (List Qi)} {port:Int} {g:Qi} (h:¬ (1 ≤ port ∧ port ≤ z.length)):oQ z s port g = 1:=by rw [oQ,if_pos h]
theorem a7n {z:List Qi} {s:List (List Qi)} {port:Int} {g:Qi} (h:1 ≤ port ∧ port ≤ z.length) (h1:z.length = 1):oQ z s port g = 4:=by rw [oQ,if_neg (fun k=>k h),if_pos h1]
theorem a7o {z:List Qi} {s:List (List Qi)} {p:Nat} {g:Qi} (h:p < z.length) (h1:¬ z.length = 1):oQ z s ((p:Int) + 1) g = if Qi.ofInt 1 - gm s p p * g = Qi.zero then 6 else 0:=by
 rw [oQ,if_neg (fun k=>k zo),if_neg h1,a5u]
theorem Ow {s:List (List Qi)} {p L:Nat} {g:Qi} (hs:bE s L) (hg:aF g L) (hL:1 ≤ L) (hd:Qi.ofInt 1 - gm s p p * g ≠ Qi.zero):aF (kW s p g) (7 * L + 11):=by
 haveI f0:=lA
 haveI f1:=hs.get hL p p
 haveI f2:=hg
 have f3:aF (Qi.ofInt 1 - gm s p p * g) (1 + (L + L + 1) + 1):=@fitSub _ _ _ _ f0 inferInstance
 have:aF (kW s p g) (L + 3 * (1 + (L + L + 1) + 1) + 2):=⟨f2.fit.div f3.fit hd⟩
 exact this.le zo
end
section
open Go Go.RowKit
def Em:List Qi:=[r50,r50].map Rt.q
def Hn:List (List Qi):=rq [[Bh,Bh],[Bh,Bh]]
def Jq:List Qi:=nG Em Hn 2 (Qi.ofInt 1)
def Xp:List (List Qi):=pO Em Hn 2 (Qi.ofInt 1)
theorem a0N:dM Em Hn = 0:=by decide +kernel
theorem a0O:cB Hn Em.length Em.length:=(sQ a0N).2.2.1
theorem a6g:oQ Em Hn 2 (Qi.ofInt 1) = 0:=by decide +kernel
theorem a0P:Jq.length = 1:=by decide +kernel
theorem a5i:Xp = [[Qi.ofInt 1]]:=by decide +kernel
theorem a6d:pY (pmM true (rQ Em.length) Hn Em.length) Em.length ≠ 0:=by decide +kernel
theorem a7Z:bI Em 2:=bI.rt
theorem a5h:bE Hn 2:=bE.rt
theorem a5g:aF (Qi.ofInt 1) 2:=lA.le (by decide)
theorem a6e:∀ v V,(eH [cO (iD (dM Em Hn) Em) (iD (dM Em Hn) Hn),aL .i64 (dM Em Hn)]).p v V → (eH [cO Em Hn,aL .i64 0]).p v V:=by rw [a0N]; exact fun _ _ h=>h
theorem a6f:∀ v V,(eH [cO (nG Em Hn ((2:Nat):Int) (Qi.ofInt 1)) (pO Em Hn ((2:Nat):Int) (Qi.ofInt 1)),aL .i64 (oQ Em Hn ((2:Nat):Int) (Qi.ofInt 1))]).p v V → (eH [cO Jq Xp,aL .i64 0]).p v V:=by
 rw [show oQ Em Hn ((2:Nat):Int) (Qi.ofInt 1) = 0 from a6g]; exact fun _ _ h=>h
theorem a6h:cB Xp Jq.length Jq.length:=by rw [a0P,a5i]; exact ⟨rfl,by simp⟩
theorem a7Y:∀ v V,(eH [aI (pkm Jq.length Xp ((1:Nat):Int) ((1:Nat):Int)),aL .i64 (if (1 ≤ ((1:Nat):Int) ∧ ((1:Nat):Int) ≤ Jq.length) ∧ 1 ≤ ((1:Nat):Int) ∧ ((1:Nat):Int) ≤ Jq.length then 0 else 1)]).p v V → (eH [aI (Qi.ofInt 1),aL .i64 0]).p v V:=by
 rw [a0P,a5i,if_pos (by decide)]
 rw [show pkm 1 [[Qi.ofInt 1]] ((1:Nat):Int) ((1:Nat):Int) = Qi.ofInt 1 from rfl]
 exact fun _ _ h=>h
theorem a8y:Ze (Qi.ofInt 1) = [49]:=by decide +kernel
end
section
open Go Go.RowKit
theorem lH (x:Int) {b:Int} (h:0 < b):-b < x.tmod b ∧ x.tmod b < b:=by
 by_cases hx:0 ≤ x
 ·rw [Int.tmod_eq_emod_of_nonneg hx]
  have h1:=Int.emod_nonneg x (by omega:b ≠ 0)
  have h2:=Int.emod_lt_of_pos x h
  omega
 ·have e : x.tmod b = -((-x).tmod b) := by rw [Int.neg_tmod, Int.neg_neg]
  rw [e,Int.tmod_eq_emod_of_nonneg (by omega:0 ≤ -x)]
  have h1:=Int.emod_nonneg (-x) (by omega:b ≠ 0)
  have h2:=Int.emod_lt_of_pos (-x) h
  omega
def sH (x:Int):Int:=if x < 0 then -x else x
theorem uC {x:Int} {b:Int} (h:-b < x ∧ x < b):0 ≤ sH x ∧ sH x < b:=by unfold sH; split <;> omega
def Gf (r:Rt):Rt where
 re:=r.re.tmod 9
 im:=r.im.tmod 9
 den:=sH (r.den.tmod 4) + 1
 h1:=by have:=lH r.re (b:=9) (by decide); omega
 h2:=by have:=lH r.re (b:=9) (by decide); omega
 h3:=by have:=lH r.im (b:=9) (by decide); omega
 h4:=by have:=lH r.im (b:=9) (by decide); omega
 h5:=by have:=uC (lH r.den (b:=4) (by decide)); omega
 h6:=by have:=uC (lH r.den (b:=4) (by decide)); omega
def Pc (r:Rt):Rt where
 re:=sH (Gf r).re + 1
 im:=0
 den:=(Gf r).den
 h1:=by have:=uC (lH r.re (b:=9) (by decide)); show _ ≤ sH (r.re.tmod 9) + 1; omega
 h2:=by have:=uC (lH r.re (b:=9) (by decide)); show sH (r.re.tmod 9) + 1 ≤ _; omega
 h3:=by decide
 h4:=by decide
 h5:=(Gf r).h5
 h6:=(Gf r).h6
def Pd (l:List Rt) (i:Nat):Rt:=if l.length = 0 then default else l.getD (i % l.length) default
def mN (a:Nat):Nat:=a % 4 + 1
def qK (a:Nat) (zl:List Rt):List Rt:=tab (mN a) fun i=>Pc (Pd zl i)
def rZ (a:Nat) (sl:List Rt):List (List Rt):=tab (mN a) fun i=>tab (mN a) fun j=>Gf (Pd sl (mN a * i + j))
theorem Ui (r:Rt):eA (Pc r).q = true:=by
 have h1:=uC (lH r.re (b:=9) (by decide))
 have h2:=uC (lH r.den (b:=4) (by decide))
 have hd : (Pc r).d = sH (r.den.tmod 4) + 1 := by
  show (if sH (r.den.tmod 4) + 1 = 0 then 1 else sH (r.den.tmod 4) + 1) = _
  rw [if_neg zo]
 have hq:(Pc r).q = Qi.frac (sH (r.re.tmod 9) + 1) 0 (sH (r.den.tmod 4) + 1):=by rw [Rt.q,hd]; rfl
 have hb:(Pc r).q.b = 0:=Qi.b_zero.2 (by rw [hq]; show ((0:Int):Rat) / _ = 0; rw [Rat.div_def]; exact Rat.zero_mul _)
 have ha : 0 < (Pc r).q.a := by
  rw [Qi.a_pos,hq]
  show (0:Rat) < ((sH (r.re.tmod 9) + 1:Int):Rat) / ((sH (r.den.tmod 4) + 1:Int):Rat)
  rw [Rat.div_def]
  refine Rat.mul_pos (Rat.intCast_pos.2 zo) (Rat.inv_pos.2 (Rat.intCast_pos.2 zo))
 simp only [eA,hb,ha,and_self,decide_true]
theorem Rl (a:Nat) (zl sl:List Rt):dM ((qK a zl).map Rt.q) (rq (rZ a sl)) = 0:=by
 have hz:((qK a zl).map Rt.q).length = mN a:=by rw [List.length_map,qK,aE]
 have hs:(rq (rZ a sl)).length = mN a:=by rw [List.length_map,rZ,aE]
 have hn:mN a ≤ 4:=by unfold mN; omega
 have hn1:1 ≤ mN a:=by unfold mN; omega
 rw [dM,if_neg,if_pos]
 ·rw [List.all_eq_true]
  intro x hx
  obtain ⟨r,hr,rfl⟩:=List.mem_map.1 hx
  obtain ⟨i,_,rfl⟩:=dR.1 hr
  exact Ui _
 ·rw [hz, hs]
  rintro (h | h | h | h)
  ·omega
  ·omega
  ·exact h rfl
  ·obtain ⟨r, hr, h2⟩ := List.any_eq_true.1 h
   obtain ⟨y,hy,rfl⟩:=List.mem_map.1 hr
   obtain ⟨i,_,rfl⟩:=dR.1 hy
   simp [aE] at h2
def wD (x : Qi) (l m : List Qi) : Nat → Qi
 | 0=>x
 | k + 1=>wD x l m k + gv l k * gv m k
theorem Ed {x : Qi} {l m : List Qi} {L M : Nat} (hx : aF x M) (hl : bI l L) (hm : bI m L) (hL : 1 ≤ L) : ∀ k, aF (wD x l m k) (M + k * (2 * L + 2))
 | 0=>hx.le zo
 | k + 1 => by
  haveI f1:=Ed hx hl hm hL k
  haveI f2:=hl.get hL k
  haveI f3:=hm.get hL k
  have:aF (wD x l m (k + 1)) (M + k * (2 * L + 2) + (L + L + 1) + 1):=by unfold wD; infer_instance
  exact this.le (by rw [Nat.add_mul]; omega)
end
section
open Go Go.RowKit
namespace Qi
def npow' (x : Qi) : Nat → Qi
 | 0=>Qi.ofInt 1
 | k + 1=>npow' x k * x
theorem one_mul2 (x:Qi):Qi.ofInt 1 * x = x:=ext' (by show ((1:Int):Rat) * x.re - 0 * x.im = x.re; grind) (by show ((1:Int):Rat) * x.im + 0 * x.re = x.im; grind)
theorem mul_one2 (x:Qi):x * Qi.ofInt 1 = x:=by rw [mul_comm',one_mul2]
end Qi
instance qiField:Lean.Grind.CommRing Qi where
 natCast:=⟨fun n=>Qi.ofInt n⟩
 ofNat n:=⟨Qi.ofInt n⟩
 nsmul:=⟨fun n x=>Qi.ofInt n * x⟩
 npow:=⟨Qi.npow'⟩
 add_zero:=Qi.add_zero'
 add_comm:=Qi.add_comm'
 add_assoc:=Qi.add_assoc'
 mul_assoc:=Qi.mul_assoc'
 mul_comm:=Qi.mul_comm'
 mul_one:=Qi.mul_one2
 one_mul:=Qi.one_mul2
 left_distrib:=Qi.mul_add'
 right_distrib:=Qi.add_mul'
 zero_mul:=Qi.zero_mul'
 mul_zero:=Qi.mul_zero'
 pow_zero _:=rfl
 pow_succ _ _:=rfl
 ofNat_succ n:=Qi.ext' (by show (((n + 1:Nat):Int):Rat) = ((n:Int):Rat) + ((1:Int):Rat); rw [Int.natCast_add,Rat.intCast_add]; rfl) (by show (0:Rat) = 0 + 0; grind)
 intCast:=⟨Qi.ofInt⟩
 zsmul:=⟨fun n x=>Qi.ofInt n * x⟩
 neg_add_cancel x:=Qi.ext' (by show -x.re + x.re = ((0:Int):Rat); grind) (by show -x.im + x.im = 0; grind)
 sub_eq_add_neg:=Qi.sub_def
 neg_zsmul i x:=Qi.ext' (by show ((-i:Int):Rat) * x.re - 0 * x.im = -((i:Rat) * x.re - 0 * x.im); rw [Rat.intCast_neg]; grind) (by show ((-i:Int):Rat) * x.im + 0 * x.re = -((i:Rat) * x.im + 0 * x.re); rw [Rat.intCast_neg]; grind)
 intCast_neg i:=Qi.ext' (Rat.intCast_neg i) (by show (0:Rat) = -0; grind)
theorem q0:Qi.zero = 0:=rfl
theorem q1:Qi.ofInt 1 = 1:=rfl
theorem kN {x:Qi} (h:x ≠ 0):x * Qi.inv x = 1:=by
 have hn:x.nrm ≠ 0:=fun e=>h (Qi.nrm_zero.1 e)
 have e:x.re * x.re + x.im * x.im = x.nrm:=rfl
 refine Qi.ext' ?_ ?_
 ·show x.re * (x.re / x.nrm) - x.im * (-x.im / x.nrm) = ((1 : Int) : Rat)
  grind
 ·show x.re * (-x.im / x.nrm) + x.im * (x.re / x.nrm) = 0
  grind
theorem rY {x y:Qi} (h:y ≠ 0):x / y * y = x:=by
 rw [Qi.div_def]
 have:=kN h
 grind
theorem Ej {x y z:Qi} (h:y ≠ 0) (e:x = z * y):x / y = z:=by
 have h1:=rY (x:=x) h
 have h2:=kN h
 grind
theorem gL {x y:Qi} (h:x * y = 0):x = 0 ∨ y = 0:=by
 by_cases e:x = 0
 ·exact .inl e
 ·right; have:=kN e; grind
end
section
open Go Go.RowKit
theorem pN (m:Nat) (f:Qi) (a b:Nat → Qi):aC m (fun k=>a k - f * b k) = aC m a - f * aC m b:=by
 induction m with
 | zero=>simp only [aC,q0]; grind
 | succ m ih=>simp only [aC,ih]; grind
theorem bO {m i:Nat} (hi:i < m) {f:Nat → Qi} (h:∀ k,k < m → k ≠ i → f k = 0):aC m f = f i:=by
 induction m with
 | zero=>omega
 | succ m ih =>
  by_cases e:i = m
  ·subst e
   have : aC i f = 0 := by
    rw [← q0,← At i]
    exact aA fun k hk=>h k zo zo
   simp only [aC,this]; grind
  ·have h1 := ih zo (fun k hk => h k zo)
   have h2:=h m zo zo
   simp only [aC,h1,h2]; grind
theorem cE {m:Nat} {f:Nat → Qi} (h:∀ k,k < m → f k = 0):aC m f = 0:=by
 rw [← q0,← At m]; exact aA h
def Ker (M:List (List Qi)) (n m:Nat) (x:Nat → Qi):Prop:=∀ i,i < n → aC m (fun k=>gm M i k * x k) = 0
def Bi (rr rc:List Qi) (c k:Nat):List Qi:=tab rr.length fun j=>if c ≤ j ∧ j < k then gv rr j - gv rr c / gv rc c * gv rc j else gv rr j
def redJ (M:List (List Qi)) (c r:Nat):List (List Qi):=tab M.length fun i=>if i ≠ c ∧ i < r then Bi (eC M i) (eC M c) c (eC M i).length else eC M i
def Xq (M : List (List Qi)) : Nat → Option (List (List Qi))
 | 0=>some M
 | c + 1=>(Xq M c).bind fun A=>if pv A c M.length = M.length then none else some (redJ (swp [] A (pv A c M.length) c) c M.length)
theorem a1Q (M:List (List Qi)) (c r:Nat):(redJ M c r).length = M.length:=aE _ _
theorem Yj (rr rc:List Qi) (c k:Nat):(Bi rr rc c k).length = rr.length:=aE _ _
theorem a1R {M:List (List Qi)} {c r i:Nat} (hi:i < M.length):eC (redJ M c r) i = if i ≠ c ∧ i < r then Bi (eC M i) (eC M c) c (eC M i).length else eC M i:=by
 simp only [eC,redJ,List.getD]; rw [cH hi]; rfl
theorem a1S {M:List (List Qi)} {n m c r:Nat} (h:cB M n m):cB (redJ M c r) n m:=by
 refine ⟨(a1Q _ _ _).trans h.1,fun x hx=>?_⟩
 obtain ⟨i,hi,rfl⟩:=dR.1 hx
 have hr:=h.row (i:=i) (by rw [← h.1]; exact hi)
 show (if i ≠ c ∧ i < r then Bi (eC M i) (eC M c) c (eC M i).length else eC M i).length = m
 split
 ·rw [Yj]; exact hr
 ·exact hr
theorem Ct {M:List (List Qi)} {n m c i j:Nat} (h:cB M n m) (hi:i < n) (hj:j < m):gm (redJ M c n) i j = if i ≠ c ∧ c ≤ j then gm M i j - gm M i c / gm M c c * gm M c j else gm M i j:=by
 have hr:(eC M i).length = m:=h.row hi
 show gv (eC (redJ M c n) i) j = _
 rw [a1R (by rw [h.1]; exact hi)]
 by_cases e:i = c
 ·rw [if_neg (fun k=>k.1 e),if_neg (fun k=>k.1 e)]
 ·rw [if_pos ⟨e, hi⟩, Bi, gF zo]
  by_cases e2:c ≤ j
  ·rw [if_pos ⟨e2,by omega⟩,if_pos ⟨e,e2⟩]
  ·rw [if_neg (fun k=>e2 k.1),if_neg (fun k=>e2 k.2)]
theorem Ry {M:List (List Qi)} {p c i:Nat} (hp:p < M.length) (hc:c < M.length):eC (swp [] M p c) i = eC M (if i = c then p else if i = p then c else i):=by
 simp only [eC,swp,List.getD]
 by_cases e:i = c
 ·subst e; rw [List.getElem?_set_self (by simpa using hc),if_pos rfl]; rfl
 ·rw [List.getElem?_set_ne (Ne.symm e), if_neg e]
  by_cases e2:i = p
  ·subst e2; rw [List.getElem?_set_self hp,if_pos rfl]; rfl
  ·rw [List.getElem?_set_ne (Ne.symm e2),if_neg e2]
theorem a3K {M:List (List Qi)} {n m p c:Nat} {x:Nat → Qi} (hl:M.length = n) (hp:p < n) (hc:c < n):Ker (swp [] M p c) n m x ↔ Ker M n m x:=by
 have key : ∀ i, gm (swp [] M p c) i = gm M (if i = c then p else if i = p then c else i) := fun i => by
  funext j; exact congrArg (fun r=>gv r j) (Ry zo zo)
 constructor
 ·intro h i hi
  have h1:=h (if i = c then p else if i = p then c else i) (by split <;> (try split) <;> omega)
  rw [key] at h1
  have e : (if (if i = c then p else if i = p then c else i) = c then p else if (if i = c then p else if i = p then c else i) = p then c else (if i = c then p else if i = p then c else i)) = i := by
   by_cases e1:i = c
   ·subst e1; rw [if_pos rfl]
    by_cases e2:p = i
    ·rw [if_pos e2]; exact e2
    ·rw [if_neg e2,if_pos rfl]
   ·rw [if_neg e1]
    by_cases e2:i = p
    ·subst e2; rw [if_pos rfl,if_pos rfl]
    ·rw [if_neg e2,if_neg e1,if_neg e2]
  rw [e] at h1; exact h1
 ·intro h i hi
  rw [key]; exact h _ (by split <;> (try split) <;> omega)
theorem a3J {M:List (List Qi)} {n m c:Nat} {x:Nat → Qi} (hs:cB M n m) (hc:c < n) (hz:∀ j,j < c → gm M c j = 0):Ker (redJ M c n) n m x ↔ Ker M n m x:=by
 have key : ∀ i, i < n → i ≠ c → aC m (fun k => gm (redJ M c n) i k * x k) = aC m (fun k => gm M i k * x k) - gm M i c / gm M c c * aC m (fun k => gm M c k * x k) := fun i hi e => by
  rw [← pN]
  refine aA fun k hk=>?_
  rw [Ct hs hi hk]
  by_cases e2:c ≤ k
  ·rw [if_pos ⟨e,e2⟩]; grind
  ·rw [if_neg (fun h=>e2 h.2),hz k zo]; grind
 have keyc:aC m (fun k=>gm (redJ M c n) c k * x k) = aC m (fun k=>gm M c k * x k):=aA fun k hk=>by rw [Ct hs hc hk,if_neg (fun h=>h.1 rfl)]
 constructor
 ·intro h i hi
  have h0:=h c hc
  rw [keyc] at h0
  by_cases e:i = c
  ·rw [e]; exact h0
  ·have h1 := h i hi
   rw [key i hi e,h0] at h1
   grind
 ·intro h i hi
  have h0:=h c hc
  by_cases e:i = c
  ·rw [e,keyc]; exact h0
  ·rw [key i hi e,h0,h i hi]; grind
structure GJ (M A:List (List Qi)) (n m c:Nat):Prop where
 sh:cB A n m
 ker:∀ x,Ker A n m x ↔ Ker M n m x
 off:∀ j,j < c → ∀ i,i < n → i ≠ j → gm A i j = 0
 dg:∀ j,j < c → gm A j j ≠ 0
theorem GJ.next {M A:List (List Qi)} {n m c p:Nat} (h:GJ M A n m c) (hc:c < n) (hnm:n ≤ m) (hcp:c ≤ p) (hp:p < n) (hz:gm A p c ≠ 0):GJ M (redJ (swp [] A p c) c n) n m (c + 1):=by
 have hs:cB (swp [] A p c) n m:=Db h.sh hp hc
 have hl:=h.sh.1
 have key : ∀ i, gm (swp [] A p c) i = gm A (if i = c then p else if i = p then c else i) := fun i => by
  funext j; exact congrArg (fun r=>gv r j) (Ry zo zo)
 have hcc:gm (swp [] A p c) c c ≠ 0:=by rw [key,if_pos rfl]; exact hz
 have hoff : ∀ j, j < c → ∀ i, i < n → i ≠ j → gm (swp [] A p c) i j = 0 := fun j hj i hi hij => by
  rw [key]
  by_cases e1:i = c
  ·rw [if_pos e1]; exact h.off j hj p hp zo
  ·rw [if_neg e1]
   by_cases e2:i = p
   ·rw [if_pos e2]; exact h.off j hj c hc zo
   ·rw [if_neg e2]; exact h.off j hj i hi hij
 refine ⟨a1S hs,fun x=>(a3J hs hc (fun j hj=>hoff j hj c hc zo)).trans ((a3K hl hp hc).trans (h.ker x)),fun j hj i hi hij=>?_,fun j hj=>?_⟩
 ·rw [Ct hs hi zo]
  by_cases e:j = c
  ·subst e
   rw [if_pos ⟨hij,Nat.le_refl _⟩]
   have:=rY (x:=gm (swp [] A p j) i j) hcc
   grind
  ·rw [if_neg (fun k=>by omega)]; exact hoff j zo i hi hij
 ·rw [Ct hs zo zo]
  by_cases e:j = c
  ·subst e; rw [if_neg (fun k=>k.1 rfl)]; exact hcc
  ·rw [if_neg (fun k=>by omega),key,if_neg zo,if_neg zo]; exact h.dg j zo
theorem a0S {M : List (List Qi)} {n m : Nat} (hs : cB M n m) (hnm : n ≤ m) : ∀ {c : Nat} {A : List (List Qi)}, c ≤ n → Xq M c = some A → GJ M A n m c
 | 0, A, _, h => by
  obtain rfl:=Option.some.inj h
  exact ⟨hs,fun _=>Iff.rfl,fun j hj=>by omega,fun j hj=>by omega⟩
 | c + 1, A, hc, h => by
  simp only [Xq] at h
  obtain ⟨B,h1,h2⟩:=Option.bind_eq_some_iff.1 h
  split at h2
  ·cases h2
  ·rename_i e
   obtain rfl:=Option.some.inj h2
   have ih:=a0S hs hnm (c:=c) zo h1
   rw [hs.1] at e ⊢
   obtain ⟨_,i2,i3,i4⟩:=pD (M:=B) (c:=c) (n:=n) zo
   exact ih.next zo hnm i2 zo (i4 zo)
theorem a6l {l:List Qi} {z:Qi} {k:Nat} (h:k < l.length):gv (l ++ [z]) k = gv l k:=by
 simp only [gv,List.getD]; rw [List.getElem?_append_left h]
theorem a6m {l:List Qi} {z:Qi}:gv (l ++ [z]) l.length = z:=by
 simp [gv,List.getD]
theorem a7P {M:List (List Qi)} {b:List Qi} {n i:Nat} (h:cB M n n) (hi:i < n):(∀ k,k < n → gm (kX M [b] n) i k = gm M i k) ∧ gm (kX M [b] n) i n = gv b i:=by
 obtain ⟨r,hr⟩:∃ r,r = eC M i:=⟨_,rfl⟩
 have hl:r.length = n:=by rw [hr]; exact h.row hi
 have e : eC (kX M [b] n) i = r ++ [gv b i] := by
  rw [hr]; simp only [eC,kX,List.getD]; rw [cH hi]; rfl
 refine ⟨fun k hk=>?_,?_⟩
 ·show gv (eC (kX M [b] n) i) k = gv (eC M i) k
  rw [e,← hr,a6l zo]
 ·show gv (eC (kX M [b] n) i) n = gv b i
  rw [e,← hl,a6m]
theorem Qe {M:List (List Qi)} {b:List Qi} {n i:Nat} (h:cB M n n) (hi:i < n) (x:Nat → Qi):aC (n + 1) (fun k=>gm (kX M [b] n) i k * x k) = aC n (fun k=>gm M i k * x k) + gv b i * x n:=by
 obtain ⟨h1,h2⟩:=a7P (b:=b) h hi
 simp only [aC,h2]
 rw [aA (fun k hk=>by rw [h1 k hk])]
theorem Yi {rr rc : List Qi} {L c k : Nat} (h1 : bI rr L) (h2 : bI rc L) (hL : 1 ≤ L) (hp : gv rc c ≠ Qi.zero) : bI (Bi rr rc c k) (6 * L + 4) := bI.tab fun j _ => by
 split
 ·exact Tx h1 h2 hL hp
 ·exact (h1.get hL j).le zo
theorem a1P {M : List (List Qi)} {L c r : Nat} (h : bE M L) (hL : 1 ≤ L) (hp : gm M c c ≠ Qi.zero) : bE (redJ M c r) (6 * L + 4) := fun x hx => by
 obtain ⟨i,hi,rfl⟩:=dR.1 hx
 show bI (if i ≠ c ∧ i < r then Bi (eC M i) (eC M c) c (eC M i).length else eC M i) _
 split
 ·exact Yi (h.row i) (h.row c) hL hp
 ·exact (h.row i).le zo
theorem a0R {M : List (List Qi)} {n m L : Nat} (hs : cB M n m) (hnm : n ≤ m) (h : bE M L) (hL : 1 ≤ L) : ∀ {c : Nat} {A : List (List Qi)}, c ≤ n → Xq M c = some A → bE A (lG L c)
 | 0,A,_,e=>by obtain rfl:=Option.some.inj e; exact h
 | c + 1, A, hc, e => by
  simp only [Xq] at e
  obtain ⟨B,h1,h2⟩:=Option.bind_eq_some_iff.1 e
  split at h2
  ·cases h2
  ·rename_i e3
   obtain rfl:=Option.some.inj h2
   have ih:=a0R hs hnm h hL (c:=c) zo h1
   have hsB:=(a0S hs hnm (c:=c) zo h1).sh
   rw [hs.1] at e3 ⊢
   obtain ⟨_,i2,i3,i4⟩:=pD (M:=B) (c:=c) (n:=n) zo
   refine a1P (Kx ih) (Nat.le_trans hL (rP L c)) ?_
   show gv (eC (swp [] _ _ c) c) c ≠ _
   rw [Au (by rw [hsB.1]; omega)]
   exact i4 zo
end
section
open Go Go.RowKit
def a7c (a b:List (List Qi)) (x y i:Nat):List Qi:=tab (x + y) fun j=>if i < x then (if j < x then gm a i j else Qi.zero) else (if x ≤ j then gm b (i - x) (j - x) else Qi.zero)
def nI (a b:List (List Qi)) (x y:Nat):List (List Qi):=tab (x + y) (a7c a b x y)
theorem mV (a b:List (List Qi)) (x y:Nat):cB (nI a b x y) (x + y) (x + y):=⟨aE _ _,fun r hr=>by obtain ⟨i,_,rfl⟩:=dR.1 hr; exact aE _ _⟩
theorem a22 {a b : List (List Qi)} {x y L : Nat} (ha : bE a L) (hb : bE b L) (hL : 1 ≤ L) : bE (nI a b x y) L := fun r hr => by
 obtain ⟨i,_,rfl⟩:=dR.1 hr
 refine bI.tab fun j _=>?_
 split
 ·split
  ·exact ha.get hL _ _
  ·exact aF.zero hL
 ·split
  ·exact hb.get hL _ _
  ·exact aF.zero hL
theorem dP {a b:List (List Qi)} {x y i j:Nat} (hi:i < x + y) (hj:j < x + y):gm (nI a b x y) i j = if i < x then (if j < x then gm a i j else Qi.zero) else (if x ≤ j then gm b (i - x) (j - x) else Qi.zero):=by
 have e:(nI a b x y).getD i [] = a7c a b x y i:=by rw [nI,List.getD,cH hi]; rfl
 show gv ((nI a b x y).getD i []) j = _
 rw [e,a7c,gF hj]
end
section
open Go Go.RowKit
abbrev pA (ps:List (Nat × Nat)) (k:Nat):Nat:=(ps.getD k (0,0)).1
abbrev pB (ps:List (Nat × Nat)) (k:Nat):Nat:=(ps.getD k (0,0)).2
end
section
open Go Go.RowKit
theorem tN {l:List Qi} {t k:Nat} {v:Qi} (ht:t < l.length):gv (l.set t v) k = if k = t then v else gv l k:=by
 simp only [gv,List.getD]
 by_cases e:k = t
 ·subst e; rw [if_pos rfl,List.getElem?_set_self ht]; rfl
 ·rw [if_neg e,List.getElem?_set_ne (Ne.symm e)]
end
section
open Go Go.RowKit
def xH (A:List (List Qi)) (c i j:Nat):Qi:=if j < c ∧ j < i then 0 else gm A i j
def xL (F:Nat → Nat → Qi) (n m:Nat) (x:Nat → Qi):Prop:=∀ i,i < n → aC m (fun k=>F i k * x k) = 0
theorem Ev {F G:Nat → Nat → Qi} {n m:Nat} {x:Nat → Qi} (h:∀ i,i < n → ∀ j,j < m → F i j = G i j):xL F n m x ↔ xL G n m x:=by
 have e:∀ i,i < n → aC m (fun k=>F i k * x k) = aC m (fun k=>G i k * x k):=fun i hi=>aA fun k hk=>by rw [h i hi k hk]
 exact ⟨fun k i hi=>by rw [← e i hi]; exact k i hi,fun k i hi=>by rw [e i hi]; exact k i hi⟩
def We (p c i:Nat):Nat:=if i = c then p else if i = p then c else i
theorem Kz {p c i n:Nat} (hp:p < n) (hc:c < n) (hi:i < n):We p c i < n:=by unfold We; split <;> (try split) <;> omega
theorem Wf (p c i:Nat):We p c (We p c i) = i:=by
 unfold We
 by_cases e1:i = c
 ·subst e1
  rw [if_pos rfl]
  by_cases e2:p = i
  ·rw [if_pos e2]; exact e2
  ·rw [if_neg e2,if_pos rfl]
 ·rw [if_neg e1]
  by_cases e2:i = p
  ·subst e2; rw [if_pos rfl,if_pos rfl]
  ·rw [if_neg e2,if_neg e1,if_neg e2]
theorem Mv {F : Nat → Nat → Qi} {n m p c : Nat} {x : Nat → Qi} (hp : p < n) (hc : c < n) : xL (fun i => F (We p c i)) n m x ↔ xL F n m x :=
 ⟨fun h i hi=>by have:=h _ (Kz hp hc hi); simp only [Wf] at this; exact this,fun h i hi=>h _ (Kz hp hc hi)⟩
theorem a1a {F G:Nat → Nat → Qi} {n m c:Nat} {x f:Nat → Qi} (hc:c < n) (hG:∀ i,i < n → ∀ j,j < m → G i j = if c < i then F i j - f i * F c j else F i j):xL G n m x ↔ xL F n m x:=by
 have key : ∀ i, i < n → aC m (fun k => G i k * x k) = if c < i then aC m (fun k => F i k * x k) - f i * aC m (fun k => F c k * x k) else aC m (fun k => F i k * x k) := fun i hi => by
  by_cases e:c < i
  ·rw [if_pos e, ← pN]
   exact aA fun k hk=>by rw [hG i hi k hk,if_pos e]; grind
  ·rw [if_neg e]
   exact aA fun k hk=>by rw [hG i hi k hk,if_neg e]
 have kc:=key c hc
 rw [if_neg zo] at kc
 constructor
 ·intro h i hi
  have h0:=h c hc
  rw [kc] at h0
  have h1:=h i hi
  rw [key i hi] at h1
  by_cases e:c < i
  ·rw [if_pos e,h0] at h1; grind
  ·rw [if_neg e] at h1; exact h1
 ·intro h i hi
  rw [key i hi]
  by_cases e:c < i
  ·rw [if_pos e,h i hi,h c hc]; grind
  ·rw [if_neg e]; exact h i hi
theorem a4w {M:List (List Qi)} {n m c i j:Nat} (h:cB M n m) (hi:i < n) (hj:j < m):gm (redM M c n) i j = if c < i ∧ c < j then gm M i j - gm M i c / gm M c c * gm M c j else gm M i j:=by
 have hr:(eC M i).length = m:=h.row hi
 have e0 : eC (redM M c n) i = if c < i ∧ i < n then mM (eC M i) (eC M c) c (eC M i).length else eC M i := by
  simp only [eC,redM,List.getD]; rw [cH (by rw [h.1]; exact hi)]; rfl
 show gv (eC (redM M c n) i) j = _
 rw [e0]
 by_cases e:c < i
 ·rw [if_pos ⟨e, hi⟩, mM, gF zo]
  by_cases e2:c < j
  ·rw [if_pos ⟨e2,by omega⟩,if_pos ⟨e,e2⟩]
  ·rw [if_neg (fun k=>e2 k.1),if_neg (fun k=>e2 k.2)]
 ·rw [if_neg (fun k=>e k.1),if_neg (fun k=>e k.1)]
theorem a3a {A:List (List Qi)} {p c i j:Nat} (hc:c < A.length) (hp:p < A.length) (hcp:c ≤ p):xH (swp [] A p c) c i j = xH A c (We p c i) j:=by
 have key:gm (swp [] A p c) i j = gm A (We p c i) j:=congrArg (fun r=>gv r j) (Ry zo zo)
 unfold xH
 rw [key]
 have e:(j < c ∧ j < i) ↔ (j < c ∧ j < We p c i):=by unfold We; split <;> (try split) <;> omega
 by_cases h:j < c ∧ j < i
 ·rw [if_pos h,if_pos (e.1 h)]
 ·rw [if_neg h,if_neg (fun k=>h (e.2 k))]
structure EL (M A:List (List Qi)) (n m c:Nat):Prop where
 sh:cB A n m
 ker:∀ x,xL (xH A c) n m x ↔ xL (gm M) n m x
theorem EL.next {M A:List (List Qi)} {n m c p:Nat} (h:EL M A n m c) (hc:c < n) (hcm:c < m) (hcp:c ≤ p) (hp:p < n) (hz:gm A p c ≠ 0):EL M (redM (if p = c then A else swp [] A p c) c n) n m (c + 1):=by
 have hl:=h.sh.1
 obtain ⟨B,hB⟩:∃ B,B = if p = c then A else swp [] A p c:=⟨_,rfl⟩
 have hs : cB B n m := by
  rw [hB]; split
  ·exact h.sh
  ·exact Db h.sh hp hc
 have hBk : ∀ x, xL (xH B c) n m x ↔ xL (gm M) n m x := fun x => by
  rw [hB]; split
  ·exact h.ker x
  ·exact (Ev (G:=fun i=>xH A c (We p c i)) fun i hi j hj=>a3a zo zo hcp).trans ((Mv hp hc).trans (h.ker x))
 have hBz : gm B c c ≠ 0 := by
  rw [hB]; split
  ·rename_i e; rw [← e] at hz ⊢; exact hz
  ·show gv (eC (swp [] A p c) c) c ≠ 0
   rw [Au zo]; exact hz
 rw [← hB]
 refine ⟨Nv hs,fun x=>(a1a (f:=fun i=>gm B i c / gm B c c) hc fun i hi j hj=>?_).trans (hBk x)⟩
 have hd:=rY (x:=gm B i c) hBz
 unfold xH
 rw [a4w hs hi hj]
 by_cases e:c < i
 ·rw [if_pos e]
  by_cases e1:j < c
  ·rw [if_pos zo,if_pos zo,if_pos zo]; grind
  ·by_cases e2 : j = c
   ·subst e2
    rw [if_pos zo,if_neg zo,if_neg zo]; grind
   ·rw [if_neg zo,if_pos zo,if_neg zo,if_neg zo]
 ·rw [if_neg e, if_neg (show ¬ (c < i ∧ c < j) from fun k => e k.1)]
  by_cases e1:j < i
  ·rw [if_pos (show j < c + 1 ∧ j < i by omega),if_pos (show j < c ∧ j < i by omega)]
  ·rw [if_neg (show ¬ (j < c + 1 ∧ j < i) by omega),if_neg (show ¬ (j < c ∧ j < i) by omega)]
theorem Ji {M : List (List Qi)} {n m : Nat} (hs : cB M n m) (hnm : n ≤ m) : ∀ {c : Nat}, c ≤ n → (cI M c).2.2 < 0 → EL M (cI M c).1 n m c
 | 0,_,_=>⟨hs,fun x=>Ev fun i _ j _=>by unfold xH; rw [if_neg zo]; rfl⟩
 | c + 1, hc, h => by
  obtain ⟨i1,i2,i3,i4⟩:=pD (M:=(cI M c).1) (c:=c) (n:=M.length) (by rw [hs.1]; omega)
  simp only [cI] at h ⊢
  by_cases e:0 ≤ (cI M c).2.2
  ·rw [if_pos e] at h; omega
  ·rw [if_neg e] at h ⊢
   have ih:=Ji hs hnm (c:=c) zo zo
   by_cases e2:pv (cI M c).1 c M.length = M.length
   ·rw [if_pos e2] at h; simp only at h; omega
   ·rw [if_neg e2]
    rw [hs.1] at i3 i4 e2 ⊢
    exact ih.next zo zo (by rw [hs.1] at i2; exact i2) zo (i4 zo)
theorem Hh {M : List (List Qi)} : ∀ {n : Nat}, 0 ≤ (cI M n).2.2 → ∃ c, c < n ∧ (cI M c).2.2 < 0 ∧ pv (cI M c).1 c M.length = M.length
 | 0,h=>absurd h (by show ¬ (0:Int) ≤ -1; omega)
 | c + 1, h => by
  by_cases e:0 ≤ (cI M c).2.2
  ·obtain ⟨d, h1, h2⟩ := Hh e
   exact ⟨d,by omega,h2⟩
  ·simp only [cI] at h
   rw [if_neg e] at h
   by_cases e2:pv (cI M c).1 c M.length = M.length
   ·exact ⟨c,by omega,by omega,e2⟩
   ·rw [if_neg e2] at h; simp only at h; omega
theorem xD {U : List (List Qi)} {x y : List Qi} {n c : Nat} : ∀ {K : Nat}, (∀ k, k < K → gv x (c + 1 + k) = gv y (c + 1 + k)) → pU U x n c K = pU U y n c K
 | 0,_=>rfl
 | K + 1,h=>by rw [pU,pU,xD (fun k hk=>h k zo),h K zo]
theorem On (U : List (List Qi)) (x : List Qi) (n c : Nat) : ∀ K, pU U x n c K = gm U c n - aC K (fun k => gm U c (c + 1 + k) * gv x (c + 1 + k))
 | 0=>by simp only [pU,aC,q0]; grind
 | K + 1=>by simp only [pU,aC,On U x n c K]; grind
theorem Zx {U : List (List Qi)} {n : Nat} : ∀ {j : Nat}, j ≤ n → ∀ c, n - j ≤ c → c < n → gv (oT U n j) c = pU U (oT U n j) n c (n - 1 - c) / gm U c c
 | 0,_,c,h1,h2=>by omega
 | j + 1, hj, c, h1, h2 => by
  have hl:=uY U n j
  rw [oT]
  by_cases e:c = n - (j + 1)
  ·subst e
   rw [tN zo,if_pos rfl,show n - 1 - (n - (j + 1)) = j by omega]
   rw [xD (x:=(oT U n j).set _ _) (y:=oT U n j) fun k hk=>by rw [tN zo,if_neg zo]]
  ·rw [tN zo, if_neg e, Zx (j := j) zo c zo h2]
   rw [xD (x:=(oT U n j).set _ _) (y:=oT U n j) fun k hk=>by rw [tN zo,if_neg zo]]
theorem oB (a : Nat) (f : Nat → Qi) : ∀ b, aC (a + b) f = aC a f + aC b fun k => f (a + k)
 | 0=>by simp only [aC,q0,Nat.add_zero]; grind
 | b + 1=>by rw [← Nat.add_assoc]; simp only [aC,oB a f b]; grind
theorem Wh {U:List (List Qi)} {n i:Nat} (hi:i < n) (y:Nat → Qi):aC n (fun k=>xH U n i k * y k) = gm U i i * y i + aC (n - 1 - i) fun k=>gm U i (i + 1 + k) * y (i + 1 + k):=by
 have e:n = i + 1 + (n - 1 - i):=by omega
 have h1:aC i (fun k=>xH U n i k * y k) = 0:=cE fun k hk=>by unfold xH; rw [if_pos zo]; grind
 have h2:xH U n i i = gm U i i:=by unfold xH; rw [if_neg zo]
 have h3:aC (n - 1 - i) (fun k=>xH U n i (i + 1 + k) * y (i + 1 + k)) = aC (n - 1 - i) fun k=>gm U i (i + 1 + k) * y (i + 1 + k):=aA fun k hk=>by unfold xH; rw [if_neg zo]
 have h4:=oB (i + 1) (fun k=>xH U n i k * y k) (n - 1 - i)
 rw [← e] at h4
 rw [h4,h3]
 simp only [aC,h1,h2]; grind
theorem Wg {U:List (List Qi)} {n i:Nat} (hd:∀ j,j < n → gm U j j ≠ 0) (hi:i < n):aC n (fun k=>xH U n i k * gv (oT U n n) k) = gm U i n:=by
 rw [Wh hi,Zx (Nat.le_refl n) i zo hi,On]
 have:=rY (x:=gm U i n - aC (n - 1 - i) (fun k=>gm U i (i + 1 + k) * gv (oT U n n) (i + 1 + k))) (hd i hi)
 grind
theorem Ov {U : List (List Qi)} {n : Nat} (hd : ∀ j, j < n → gm U j j ≠ 0) {y : Nat → Qi} (h : ∀ i, i < n → aC n (fun k => xH U n i k * y k) = 0) : ∀ t k, n - t ≤ k → k < n → y k = 0
 | 0,k,h1,h2=>by omega
 | t + 1, k, h1, h2 => by
  have h3:=h k h2
  rw [Wh h2,cE (fun j hj=>by rw [Ov hd h t (k + 1 + j) zo zo]; grind)] at h3
  rcases gL (x:=gm U k k) (y:=y k) (by grind) with h4 | h4
  ·exact absurd h4 (hd k h2)
  ·exact h4
theorem mC {M:List (List Qi)} {b:List Qi} {n:Nat} (h:cB M n n) (hE:jO M b n = 0):(∀ i,i < n → aC n (fun k=>gm M i k * gv (iK M b n) k) = gv b i) ∧ ∀ y:Nat → Qi,(∀ i,i < n → aC n (fun k=>gm M i k * y k) = 0) → ∀ k,k < n → y k = 0:=by
 have hcs:cB (kX M [b] n) n (n + 1):=mG h
 have hst : (sC M b n).2.2 < 0 := by
  unfold jO at hE
  by_cases e:0 ≤ (sC M b n).2.2
  ·rw [if_pos e] at hE; omega
  ·omega
 have hg:=Ji hcs (Nat.le_succ n) (Nat.le_refl n) hst
 have hd:=qI hcs (Nat.le_refl n) hst
 obtain ⟨U,hU⟩:∃ U,U = (sC M b n).1:=⟨_,rfl⟩
 have hX:iK M b n = oT U n n:=by rw [hU]; rfl
 have hU2:(cI (kX M [b] n) n).1 = U:=hU.symm
 rw [hU2] at hg hd
 rw [hX]
 refine ⟨fun i hi=>?_,fun y hy k hk=>?_⟩
 ·have h1 := (hg.ker fun k => if k < n then gv (oT U n n) k else -1).1 (fun i hi => by
   simp only [aC]
   rw [aA (g:=fun k=>xH U n i k * gv (oT U n n) k) (fun k hk=>by rw [if_pos hk]),Wg hd hi,if_neg zo,show xH U n i n = gm U i n by unfold xH; rw [if_neg zo]]
   grind) i hi
  rw [Qe h hi,aA (g:=fun k=>gm M i k * gv (oT U n n) k) (fun k hk=>by rw [if_pos hk]),if_neg zo] at h1
  grind
 ·have h1 := (hg.ker fun k => if k < n then y k else 0).2 (fun i hi => by
   rw [Qe h hi,aA (g:=fun k=>gm M i k * y k) (fun k hk=>by rw [if_pos hk]),if_neg zo,hy i hi]; grind)
  refine Ov (y:=y) hd (fun i hi=>?_) n k zo hk
  have h2:=h1 i hi
  simp only [aC] at h2
  rw [aA (g:=fun k=>xH U n i k * y k) (fun k hk=>by rw [if_pos hk]),if_neg zo] at h2
  grind
theorem Fr {M:List (List Qi)} {b:List Qi} {n:Nat} (h:cB M n n) (hE:jO M b n ≠ 0):∃ y:Nat → Qi,(∀ i,i < n → aC n (fun k=>gm M i k * y k) = 0) ∧ ∃ k,k < n ∧ y k ≠ 0:=by
 have hcs:cB (kX M [b] n) n (n + 1):=mG h
 have hst : 0 ≤ (sC M b n).2.2 := by
  unfold jO at hE
  by_cases e:0 ≤ (sC M b n).2.2
  ·exact e
  ·rw [if_neg e] at hE; exact absurd rfl hE
 obtain ⟨c,hc,hA,hp⟩:=Hh hst
 have hg:=Ji hcs (Nat.le_succ n) zo hA
 have hd:=qI hcs zo hA
 obtain ⟨U,hU⟩:∃ U,U = (cI (kX M [b] n) c).1:=⟨_,rfl⟩
 rw [← hU] at hg hd hp
 rw [hcs.1] at hp
 have hz:=(pD (M:=U) (c:=c) (n:=n) zo).1
 rw [hp] at hz
 have key := (hg.ker fun k => if k < c then gv (oT U c c) k else if k = c then -1 else 0).1 (fun i hi => by
  have e:n + 1 = c + (1 + (n - c)):=by omega
  rw [e,oB,oB]
  have z3:aC (n - c) (fun k=>xH U c i (c + (1 + k)) * (if c + (1 + k) < c then gv (oT U c c) (c + (1 + k)) else if c + (1 + k) = c then -1 else 0)) = 0:=cE fun k hk=>by rw [if_neg zo,if_neg zo]; grind
  have z2 : aC 1 (fun k => xH U c i (c + k) * (if c + k < c then gv (oT U c c) (c + k) else if c + k = c then -1 else 0)) = xH U c i c * -1 := by
   rw [Ft,if_neg zo,if_pos zo]; rfl
  have z1:aC c (fun k=>xH U c i k * (if k < c then gv (oT U c c) k else if k = c then -1 else 0)) = aC c (fun k=>xH U c i k * gv (oT U c c) k):=aA fun k hk=>by rw [if_pos hk]
  rw [z1,z2,z3]
  have zc:xH U c i c = gm U i c:=by unfold xH; rw [if_neg zo]
  rw [zc]
  by_cases e2:i < c
  ·rw [Wg hd e2]; grind
  ·rw [hz i zo hi,cE (fun k hk=>by unfold xH; rw [if_pos zo]; grind),q0]; grind)
 refine ⟨fun k=>if k < c then gv (oT U c c) k else if k = c then -1 else 0,fun i hi=>?_,c,hc,?_⟩
 ·have h1 := key i hi
  rw [Qe h hi,if_neg zo,if_neg zo] at h1
  grind
 ·show (if c < c then gv (oT U c c) c else if c = c then (-1 : Qi) else 0) ≠ 0
  rw [if_neg zo,if_pos rfl]
  intro e
  exact absurd (congrArg Qi.re e) (by decide)
end
section
open Go Go.RowKit
abbrev gnI (G:List Nat):List Int:=G.map fun (q:Nat)=>(q:Int) + 1
def gN (G : List Nat) : Nat → List Nat
 | 0=>[]
 | k + 1=>gN G k ++ (if k ∈ G then [] else [k])
theorem Ci (G : List Nat) : ∀ k, (gN G k).length ≤ k
 | 0=>Nat.le_refl _
 | k + 1 => by
  have:=Ci G k
  simp only [gN,List.length_append]
  split
  ·simp; omega
  ·simp; omega
theorem wX {G : List Nat} : ∀ {k x : Nat}, x ∈ gN G k → x < k
 | 0,x,h=>by cases h
 | k + 1, x, h => by
  rcases List.mem_append.1 h with h1 | h1
  ·have:=wX h1; omega
  ·split at h1
   ·cases h1
   ·have:=List.mem_singleton.1 h1; omega
theorem rR {p : Nat} : ∀ {k : Nat}, gN [p] k = tab (Xe p k) (lI p)
 | 0=>by rw [gN,show Xe p 0 = 0 by unfold Xe; split <;> omega]; rfl
 | k + 1 => by
  rw [gN,rR]
  by_cases c:k = p
  ·subst c
   rw [if_pos (by simp),List.append_nil,show Xe k (k + 1) = Xe k k by unfold Xe; split <;> split <;> omega]
  ·rw [if_neg (by simpa using c)]
   have e1:lI p (Xe p k) = k:=by unfold lI Xe; split <;> split <;> omega
   have e2:Xe p (k + 1) = Xe p k + 1:=by unfold Xe; split <;> split <;> omega
   rw [e2,mD,e1]
theorem a3L {p n:Nat} (h:p < n):(gN [p] n).map Nat.succ = Ex p (n - 1):=by rw [rR,tI h,pF]; rfl
theorem a0V {G:List Nat} {i:Nat}:((gnI G).any fun x=>decide (((i + 1:Nat):Int) = x)) = decide (i ∈ G):=by
 rw [Bool.eq_iff_iff]
 simp only [gnI,List.any_map,List.any_eq_true,Function.comp,decide_eq_true_eq]
 constructor
 ·rintro ⟨q, h1, h2⟩
  obtain rfl:i = q:=by omega
  exact h1
 ·intro h; exact ⟨i,h,by omega⟩
abbrev cR (Q:List Nat) (i:Nat):Nat:=Q.getD i 0
def oG (z:List Qi) (Q:List Nat):List Qi:=tab Q.length fun i=>gv z (cR Q i)
def rG (s:List (List Qi)) (Q:List Nat):List (List Qi):=tab Q.length fun i=>tab Q.length fun j=>gm s (cR Q i) (cR Q j)
theorem sA {Q:List Nat} {n i:Nat} (h:∀ x,x ∈ Q → x < n) (hi:i < Q.length):cR Q i < n:=h _ (by rw [show cR Q i = Q[i] by simp [cR,List.getD,hi]]; exact List.getElem_mem hi)
theorem qE {Q:List Nat} {i:Nat} (h:i < Q.length):(Q.map Nat.succ)[i]? = some (cR Q i + 1):=by simp [cR,List.getD,h]
theorem sW {m i:Nat} {p:Nat} (h:i < m):cR (tab m (lI p)) i = lI p i:=kT h
theorem Oo (z:List Qi) (p m:Nat):oG z (tab m (lI p)) = zA z p m:=by
 rw [oG,aE]; exact bR fun i hi=>by rw [sW hi]
theorem a2e (s:List (List Qi)) (p m:Nat):rG s (tab m (lI p)) = a8f s p m:=by
 rw [rG,aE]; exact bR fun i hi=>bR fun j hj=>by rw [sW hi,sW hj]
theorem a4M {p m n : Nat} (hp : p < n) (hm : m = n - 1) : ∀ x, x ∈ tab m (lI p) → x < n := fun x hx => by
 obtain ⟨i,hi,rfl⟩:=dR.1 hx; exact xC zo hp
theorem a3N (p m:Nat):(tab m (lI p)).map Nat.succ = Ex p m:=by rw [pF]; rfl
end
section
open Go Go.RowKit
def gq (ps:List (Nat × Nat)) (x:Nat):Nat:=if x % 2 = 0 then pA ps (x / 2) else pB ps (x / 2)
def kV (x:Nat):Nat:=if x % 2 = 0 then x + 1 else x - 1
theorem vR (x:Nat):kV (kV x) = x:=by unfold kV; split <;> split <;> omega
theorem pT {x k:Nat} (h:x < 2 * k):kV x < 2 * k:=by unfold kV; split <;> omega
theorem a3v (ps:List (Nat × Nat)) (k:Nat):gq ps (2 * k) = pA ps k:=by unfold gq; rw [if_pos zo,show 2 * k / 2 = k by omega]
theorem a6k (ps:List (Nat × Nat)) (k:Nat):gq ps (2 * k + 1) = pB ps k:=by unfold gq; rw [if_neg zo,show (2 * k + 1) / 2 = k by omega]
structure Jn (ps:List (Nat × Nat)) (n K:Nat):Prop where
 lt:∀ x,x < 2 * K → gq ps x < n
 inj:∀ x y,x < 2 * K → y < 2 * K → gq ps x = gq ps y → x = y
theorem Jn.le {ps:List (Nat × Nat)} {n K k:Nat} (h:Jn ps n K) (hk:k ≤ K):Jn ps n k:=⟨fun x hx=>h.lt x zo,fun x y hx hy=>h.inj x y zo zo⟩
def nR (S:List (List Qi)) (ps:List (Nat × Nat)) (m:Nat):List (List Qi):=tab m fun x=>tab m fun y=>(if x = y then Qi.ofInt 1 else Qi.ofInt 0) - gm S (gq ps (kV x)) (gq ps y)
def Bf (S:List (List Qi)) (ps:List (Nat × Nat)) (m b:Nat):List Qi:=tab m fun x=>gm S (gq ps (kV x)) b
theorem nS (S:List (List Qi)) (ps:List (Nat × Nat)) (m:Nat):cB (nR S ps m) m m:=cB.tab
theorem Up {S:List (List Qi)} {ps:List (Nat × Nat)} {m x:Nat} (hx:x < m) (v:Nat → Qi):aC m (fun y=>gm (nR S ps m) x y * v y) = v x - aC m fun y=>gm S (gq ps (kV x)) (gq ps y) * v y:=by
 have e : ∀ y, y < m → gm (nR S ps m) x y * v y = (if y = x then v x else 0) - 1 * (gm S (gq ps (kV x)) (gq ps y) * v y) := fun y hy => by
  have : gm (nR S ps m) x y = (if x = y then Qi.ofInt 1 else Qi.ofInt 0) - gm S (gq ps (kV x)) (gq ps y) := by
   show gv ((nR S ps m).getD x []) y = _
   rw [nR,kT hx,gF hy]
  rw [this]
  by_cases c:y = x
  ·subst c; rw [if_pos rfl,if_pos rfl,q1]; grind
  ·rw [if_neg c,if_neg (Ne.symm c),show Qi.ofInt 0 = (0:Qi) from rfl]; grind
 rw [aA e,pN,bO hx (fun k _ hk=>if_neg hk),if_pos rfl]; grind
theorem Qn {S:List (List Qi)} {ps:List (Nat × Nat)} {m b x:Nat} (hx:x < m):gv (Bf S ps m b) x = gm S (gq ps (kV x)) b:=gF hx
def zQ (S:List (List Qi)) (ps:List (Nat × Nat)) (m a b:Nat):Qi:=gm S a b + aC m fun y=>gm S a (gq ps y) * gv (iK (nR S ps m) (Bf S ps m b) m) y
end
section
open Go Go.RowKit
def a2c (x y:Nat):Int:=if 8 < x + y then 4 else 0
def a4P (z zb:List Qi):List Qi:=iD (a2c z.length zb.length) (z ++ zb)
def a4O (z zb:List Qi) (a b:List (List Qi)):List (List Qi):=iD (a2c z.length zb.length) (nI a b z.length zb.length)
theorem a4Q {x y:Nat} (h:8 < x + y):a2c x y = 4:=if_pos h
theorem a2d {x y:Nat} (h:¬ 8 < x + y):a2c x y = 0:=if_neg h
theorem a0K {z zb:List Qi} {L:Nat} (hz:bI z L) (hb:bI zb L):bI (z ++ zb) L:=fun x hx=>(List.mem_append.1 hx).elim (hz x) (hb x)
def fH (n:Nat) (p:Int) (o:List Int):Int:=if ¬ (1 ≤ p ∧ p ≤ n) then 1 else if (o.any fun x=>decide (p = x)) = true then 8 else 0
def Ff (n:Nat) (l:List Int):Int:=kK (fun i=>fH n (l.getD i 0) (l.take i)) l.length
def a8d (l:List Int):List Nat:=l.map fun p=>(p - 1).toNat
theorem xX {n:Nat} {p:Int} {o:List Int} (h:fH n p o = 0):1 ≤ p ∧ p ≤ n:=by
 unfold fH at h
 split at h
 ·omega
 ·rename_i c; exact Decidable.not_not.1 c
theorem a1K {n : Nat} {l : List Int} (h : Ff n l = 0) : ∀ x, x ∈ l → 1 ≤ x ∧ x ≤ n := fun x hx => by
 obtain ⟨i,hi,e⟩:=List.getElem_of_mem hx
 have:=xX (iC h i hi)
 rw [show l.getD i 0 = x by rw [List.getD,List.getElem?_eq_getElem hi,e]; rfl] at this
 exact this
theorem a1J {n:Nat} {l:List Int} (h:Ff n l = 0):l.map (aL .i64) = ((a8d l).map Nat.succ).map (NT .i64):=by
 rw [a8d,List.map_map,List.map_map]
 refine List.map_congr_left fun p hp=>?_
 have:=a1K h p hp
 show aL .i64 p = aL .i64 (((p - 1).toNat + 1:Nat):Int)
 congr 1; omega
theorem sT (z:List Qi) (Q:List Nat):(oG z Q).length = Q.length:=aE _ _
theorem Om (s:List (List Qi)) (Q:List Nat):cB (rG s Q) Q.length Q.length:=cB.tab
theorem a2f {z:List Qi} {Q:List Nat} {L:Nat} (h:bI z L) (hL:1 ≤ L):bI (oG z Q) L:=bI.tab fun i _=>h.get hL _
end
section
open Go Go.RowKit
def oV (js:List (Int × Int)):List Int:=js.flatMap fun q=>[q.1,q.2]
def dA (js:List (Int × Int)):List (Nat × Nat):=js.map fun q=>((q.1 - 1).toNat,(q.2 - 1).toNat)
abbrev nJ (js:List (Int × Int)) (k:Nat):Int × Int:=js.getD k (0,0)
theorem a3C (a b:List (Int × Int)):oV (a ++ b) = oV a ++ oV b:=by simp [oV]
theorem Ms {js:List (Int × Int)} {k:Nat} (h:k < js.length):oV (js.take (k + 1)) = oV (js.take k) ++ [(nJ js k).1,(nJ js k).2]:=by
 rw [List.take_succ_eq_append_getElem h,a3C]
 simp [oV,nJ,List.getD,h]
theorem pZ : ∀ (js : List (Int × Int)), (oV js).length = 2 * js.length
 | []=>rfl
 | q :: r => by
  have:=pZ r
  have e:oV (q :: r) = q.1 :: q.2 :: oV r:=rfl
  rw [e,List.length_cons,List.length_cons,List.length_cons,this]; omega
theorem Un : ∀ (js : List (Int × Int)) {x : Nat}, x < 2 * js.length → (oV js).getD x 0 = if x % 2 = 0 then (nJ js (x / 2)).1 else (nJ js (x / 2)).2
 | [],x,h=>by simp at h
 | q :: r,0,_=>rfl
 | q :: r,1,_=>rfl
 | q :: r, x + 2, h => by
  have ih:=Un r (x:=x) (by simp only [List.length_cons] at h; omega)
  have e:oV (q :: r) = q.1 :: q.2 :: oV r:=rfl
  rw [e]
  show (oV r).getD x 0 = _
  rw [ih,show (x + 2) % 2 = x % 2 by omega,show (x + 2) / 2 = x / 2 + 1 by omega]
  rfl
theorem Qv {js:List (Int × Int)} {k:Nat} (h:k < js.length):pA (dA js) k = ((nJ js k).1 - 1).toNat ∧ pB (dA js) k = ((nJ js k).2 - 1).toNat:=by
 simp [pA,pB,dA,nJ,List.getD,h]
theorem jgq {js:List (Int × Int)} {x:Nat} (h:x < 2 * js.length):gq (dA js) x = ((oV js).getD x 0 - 1).toNat:=by
 have h2:x / 2 < js.length:=by omega
 rw [Un js h,gq,(Qv h2).1,(Qv h2).2]
 split <;> rfl
theorem Nq {n:Nat} {A:List Int} (h:Ff n A = 0) (a:Int):Ff n (A ++ [a]) = fH n a A:=by
 rw [Ff,List.length_append,List.length_singleton]
 have e : kK (fun i => fH n ((A ++ [a]).getD i 0) ((A ++ [a]).take i)) A.length = 0 := iB fun i hi => by
  have:=iC h i hi
  rw [List.take_append_of_le_length zo]
  have e2:(A ++ [a]).getD i 0 = A.getD i 0:=by simp [List.getD,List.getElem?_append_left hi]
  rw [e2]; exact this
 rw [kK,e,if_neg (by simp),List.take_append_of_le_length (Nat.le_refl _),List.take_length]
 congr 1
 simp [List.getD]
theorem Yh {n:Nat} {A:List Int} (h:Ff n A = 0) (a b:Int):Ff n (A ++ [a,b]) = if fH n a A ≠ 0 then fH n a A else fH n b (A ++ [a]):=by
 have e:A ++ [a,b] = (A ++ [a]) ++ [b]:=by simp
 by_cases c:fH n a A = 0
 ·rw [if_neg (fun k=>k c),e,Nq (by rw [Nq h]; exact c)]
 ·rw [if_pos c]
  have h1 : kK (fun i => fH n ((A ++ [a, b]).getD i 0) ((A ++ [a, b]).take i)) A.length = 0 := iB fun i hi => by
   have:=iC h i hi
   rw [List.take_append_of_le_length zo]
   have e2:(A ++ [a,b]).getD i 0 = A.getD i 0:=by simp [List.getD,List.getElem?_append_left hi]
   rw [e2]; exact this
  have h2 : fH n ((A ++ [a, b]).getD A.length 0) ((A ++ [a, b]).take A.length) = fH n a A := by
   rw [List.take_append_of_le_length (Nat.le_refl _),List.take_length]
   congr 1
   simp [List.getD]
  rw [Ff,vH (k:=A.length) (fun i hi=>iC h1 i hi) (by rw [h2]; exact c) (by simp)]
  exact h2
def yG (z : List Qi) (js : List (Int × Int)) (k : Nat) : Int :=
 if fH z.length (nJ js k).1 (oV (js.take k)) ≠ 0 then fH z.length (nJ js k).1 (oV (js.take k))
 else if fH z.length (nJ js k).2 (oV (js.take k) ++ [(nJ js k).1]) ≠ 0 then fH z.length (nJ js k).2 (oV (js.take k) ++ [(nJ js k).1])
 else if gv z ((nJ js k).1 - 1).toNat = gv z ((nJ js k).2 - 1).toNat then 0 else 40
def Be (z:List Qi) (js:List (Int × Int)):Int:=kK (yG z js) js.length
theorem Mu {z:List Qi} {js:List (Int × Int)} {k:Nat} (h:yG z js k = 0):fH z.length (nJ js k).1 (oV (js.take k)) = 0 ∧ fH z.length (nJ js k).2 (oV (js.take k) ++ [(nJ js k).1]) = 0 ∧ gv z ((nJ js k).1 - 1).toNat = gv z ((nJ js k).2 - 1).toNat:=by
 unfold yG at h
 by_cases c1:fH z.length (nJ js k).1 (oV (js.take k)) = 0
 ·rw [if_neg (fun k => k c1)] at h
  by_cases c2:fH z.length (nJ js k).2 (oV (js.take k) ++ [(nJ js k).1]) = 0
  ·rw [if_neg (fun k => k c2)] at h
   by_cases c3:gv z ((nJ js k).1 - 1).toNat = gv z ((nJ js k).2 - 1).toNat
   ·exact ⟨c1,c2,c3⟩
   ·rw [if_neg c3] at h; omega
  ·rw [if_pos c2] at h; exact absurd h c2
 ·rw [if_pos c1] at h; exact absurd h c1
theorem jpr {z : List Qi} {js : List (Int × Int)} : ∀ {k : Nat}, k ≤ js.length → (∀ j, j < k → yG z js j = 0) → Ff z.length (oV (js.take k)) = 0
 | 0,_,_=>rfl
 | k + 1, hk, h => by
  have ih:=jpr (z:=z) (js:=js) (k:=k) zo fun j hj=>h j zo
  obtain ⟨h1,h2,_⟩:=Mu (h k zo)
  rw [Ms zo,Yh ih,if_neg (fun k=>k h1)]; exact h2
theorem a14 {z:List Qi} {js:List (Int × Int)} (h:Be z js = 0):Ff z.length (oV js) = 0:=by
 have:=jpr (z:=z) (Nat.le_refl js.length) (iC h)
 rwa [List.take_length] at this
theorem Xn {n : Nat} {p : Int} {o : List Int} (h : fH n p o = 0) : p ∉ o := fun hm => by
 have h1:=xX h
 unfold fH at h
 rw [if_neg (fun k=>k h1),if_pos (List.any_eq_true.2 ⟨p,hm,by simp⟩)] at h
 omega
theorem a4p {n:Nat} {l:List Int} (h:Ff n l = 0) {x y:Nat} (hx:x < l.length) (hy:y < l.length) (e:l.getD x 0 = l.getD y 0):x = y:=by
 have key : ∀ x y, x < y → y < l.length → l.getD x 0 ≠ l.getD y 0 := fun x y hxy hy e => by
  refine Xn (iC h y hy) ?_
  rw [← e]
  have e2:l.getD x 0 = l[x]'zo:=by simp [List.getD,show x < l.length by omega]
  rw [e2]
  exact List.mem_take_iff_getElem.2 ⟨x,by omega,rfl⟩
 rcases Nat.lt_trichotomy x y with c | c | c
 ·exact absurd e (key x y c hy)
 ·exact c
 ·exact absurd e.symm (key y x c hx)
theorem Eu {z:List Qi} {js:List (Int × Int)} (h:Be z js = 0):Jn (dA js) z.length js.length:=by
 have hp:=a14 h
 have hl:=pZ js
 have hr : ∀ x, x < 2 * js.length → 1 ≤ (oV js).getD x 0 ∧ (oV js).getD x 0 ≤ z.length := fun x hx => a1K hp _ (by
  rw [show (oV js).getD x 0 = (oV js)[x]'zo by simp [List.getD,show x < (oV js).length by omega]]; exact List.getElem_mem _)
 refine ⟨fun x hx=>?_,fun x y hx hy e=>?_⟩
 ·rw [jgq hx]; have:=hr x hx; omega
 ·rw [jgq hx, jgq hy] at e
  have h1:=hr x hx; have h2:=hr y hy
  exact a4p hp zo zo zo
def lQ (js:List (Int × Int)):List Nat:=(oV js).map fun p=>(p - 1).toNat
def eL (z:List Qi) (js:List (Int × Int)):List Nat:=gN (lQ js) z.length
def Qw (z:List Qi) (S:List (List Qi)) (js:List (Int × Int)):Int:=kK (fun y=>jO (nR S (dA js) (2 * js.length)) (Bf S (dA js) (2 * js.length) ((eL z js).getD y 0)) (2 * js.length)) (eL z js).length
def yE (z : List Qi) (S : List (List Qi)) (js : List (Int × Int)) : Int :=
 if Be z js ≠ 0 then Be z js else if js.length = 0 then 0 else if 2 * js.length = z.length then 4 else if Qw z S js = 0 then 0 else 6
def Bq (z:List Qi) (js:List (Int × Int)):List Qi:=oG z (eL z js)
def Ak (z:List Qi) (S:List (List Qi)) (js:List (Int × Int)):List (List Qi):=tab (eL z js).length fun x=>tab (eL z js).length fun y=>zQ S (dA js) (2 * js.length) (cR (eL z js) x) (cR (eL z js) y)
def xI (z:List Qi) (S:List (List Qi)) (js:List (Int × Int)):List Qi:=iD (yE z S js) (if js.length = 0 then z else Bq z js)
def Ge (z:List Qi) (S:List (List Qi)) (js:List (Int × Int)):List (List Qi):=iD (yE z S js) (if js.length = 0 then S else Ak z S js)
theorem Jw (js:List (Int × Int)):(lQ js).length = 2 * js.length:=by rw [lQ,List.length_map,pZ]
theorem tP {js:List (Int × Int)} {j:Nat}:j ∈ lQ js ↔ ∃ x,x < 2 * js.length ∧ gq (dA js) x = j:=by
 constructor
 ·intro h
  obtain ⟨p,hp,rfl⟩:=List.mem_map.1 h
  obtain ⟨x,hx,e⟩:=List.getElem_of_mem hp
  have hl:=pZ js
  refine ⟨x,by omega,?_⟩
  rw [jgq zo,show (oV js).getD x 0 = p by rw [← e]; simp [List.getD,hx]]
 ·rintro ⟨x, hx, rfl⟩
  have hl:=pZ js
  rw [jgq hx]
  refine List.mem_map.2 ⟨(oV js).getD x 0,?_,rfl⟩
  rw [show (oV js).getD x 0 = (oV js)[x]'zo by simp [List.getD,show x < (oV js).length by omega]]; exact List.getElem_mem _
theorem Qo {z : List Qi} {js : List (Int × Int)} {y : Nat} (hy : y < (eL z js).length) : (eL z js).getD y 0 < z.length := wX (by
 rw [show (eL z js).getD y 0 = (eL z js)[y] by simp [List.getD,hy]]; exact List.getElem_mem hy)
end
section
open Go Go.RowKit
theorem Et (M:List (List Qi)) (n:Nat):cB (rF M n) n n:=cB.tab
theorem uW (M:List (List Qi)) (b:List Qi) (n:Nat):(iK M b n).length = n:=uY _ _ _
theorem Wa {M : List (List Qi)} {b : List Qi} {n L : Nat} (h : cB M n n) (hM : bE M L) (hb : bI b L) (hL : 1 ≤ L) (hE : jO M b n = 0) : bI (iK M b n) (wN (lG L n) n) := a26 h hM hb hL (by
 unfold jO at hE
 by_cases e:0 ≤ (sC M b n).2.2
 ·rw [if_pos e] at hE; omega
 ·omega)
theorem yD {M:List (List Qi)} {n:Nat} (h:pY M n = 0):∀ k,k < n → jO M (ek n k) n = 0:=iC h
theorem Ii {G H : Nat} (h : G ≤ H) : ∀ j, wN G j ≤ wN H j
 | 0=>h
 | j + 1 => by
  have:=Ii h j
  have h2:j * (wN G j + G + 2) ≤ j * (wN H j + H + 2):=Nat.mul_le_mul_left _ zo
  simp only [wN]; omega
def ovE (M:List (List Qi)) (n:Nat):Int:=if pY M n = 0 then 0 else 5
def ovX (Y M:List (List Qi)) (n:Nat):List (List Qi):=iD (ovE M n) (oF Y (rF M n) n n n)
theorem a1E {M:List (List Qi)} {n:Nat} (h:ovE M n = 0):pY M n = 0:=by
 unfold ovE at h; split at h
 ·assumption
 ·omega
theorem zN {n i j:Nat} (hi:i < n) (hj:j < n):gm (rQ n) i j = if i = j then 1 else 0:=by
 show gv ((rQ n).getD i []) j = _
 rw [rQ,kT hi,Fw,tN (by rw [aE]; exact hi)]
 by_cases e:j = i
 ·subst e; rw [if_pos rfl,if_pos rfl]; rfl
 ·rw [if_neg e,if_neg (Ne.symm e),gF hj]; rfl
theorem lB {a b:List (List Qi)} {n m:Nat} (ha:cB a n m) (hb:cB b n m) (h:∀ i,i < n → ∀ j,j < m → gm a i j = gm b i j):a = b:=by
 rw [vK ha,vK hb]
 exact bR fun i hi=>bR fun j hj=>h i hi j hj
end
section
open Go Go.RowKit
def Np (q:Int × Int):List Int:=[q.1,q.2]
abbrev JT (q:Int × Int):Ty:=eT [aL .i64 q.1,aL .i64 q.2]
abbrev JsT (js:List (Int × Int)):Ty:=kU 2 (js.map JT)
theorem a4l {q : Int × Int} : ∀ {i : Nat}, i < 2 → ([aL .i64 q.1, aL .i64 q.2] : List Ty)[i]? = some (aL .i64 ((Np q).getD i 0))
 | 0,_=>rfl
 | 1,_=>rfl
theorem a1H {q : Int × Int} : ∀ {i : Nat}, i < 2 → (Np q).take (i + 1) = (Np q).take i ++ [(Np q).getD i 0]
 | 0,_=>rfl
 | 1,_=>rfl
abbrev Jy (z:List Qi) (js:List (Int × Int)) (k i:Nat):Int:=fH z.length ((Np (nJ js k)).getD i 0) (oV (js.take k) ++ (Np (nJ js k)).take i)
theorem a86 {z : List Qi} {js : List (Int × Int)} {k : Nat} : ∀ {i : Nat}, i < 2 → (∀ x, x < i → Jy z js k x = 0) → Jy z js k i ≠ 0 → yG z js k = Jy z js k i
 | 0, _, _, h => by
  have e:Jy z js k 0 = fH z.length (nJ js k).1 (oV (js.take k)):=by simp [Jy,Np]
  rw [e] at h ⊢
  rw [yG,if_pos h]
 | 1, _, h0, h => by
  have e0:Jy z js k 0 = fH z.length (nJ js k).1 (oV (js.take k)):=by simp [Jy,Np]
  have e:Jy z js k 1 = fH z.length (nJ js k).2 (oV (js.take k) ++ [(nJ js k).1]):=by simp [Jy,Np]
  have h1:=h0 0 zo
  rw [e0] at h1
  rw [e] at h ⊢
  rw [yG,if_neg (fun k=>k h1),if_pos h]
theorem a87 {z : List Qi} {js : List (Int × Int)} {k : Nat} (h : ∀ x, x < 2 → Jy z js k x = 0) : (1 ≤ (nJ js k).1 ∧ (nJ js k).1 ≤ z.length) ∧ (1 ≤ (nJ js k).2 ∧ (nJ js k).2 ≤ z.length) ∧
  yG z js k = if gv z ((nJ js k).1 - 1).toNat = gv z ((nJ js k).2 - 1).toNat then 0 else 40:=by
 have e0:Jy z js k 0 = fH z.length (nJ js k).1 (oV (js.take k)):=by simp [Jy,Np]
 have e:Jy z js k 1 = fH z.length (nJ js k).2 (oV (js.take k) ++ [(nJ js k).1]):=by simp [Jy,Np]
 have h0:=h 0 zo
 have h1:=h 1 zo
 rw [e0] at h0
 rw [e] at h1
 exact ⟨xX h0,xX h1,by rw [yG,if_neg (fun k=>k h0),if_neg (fun k=>k h1)]⟩
def Gd (z:List Qi) (js:List (Int × Int)):Int:=if Be z js ≠ 0 then Be z js else if 0 < 2 * js.length ∧ 2 * js.length = z.length then 4 else 0
def jeL (z:List Qi) (js:List (Int × Int)):List Int:=iD (Gd z js) (oV js)
theorem a15 {z:List Qi} {js:List (Int × Int)} (h:Be z js ≠ 0):Gd z js = Be z js:=if_pos h
theorem a3B {z:List Qi} {js:List (Int × Int)} (h:Be z js = 0) (h2:0 < 2 * js.length ∧ 2 * js.length = z.length):Gd z js = 4:=by rw [Gd,if_neg (fun k=>k h),if_pos h2]
theorem a5p {z:List Qi} {js:List (Int × Int)} (h:Be z js = 0) (h2:¬ (0 < 2 * js.length ∧ 2 * js.length = z.length)):Gd z js = 0:=by rw [Gd,if_neg (fun k=>k h),if_neg h2]
theorem Jv {z:List Qi} {js:List (Int × Int)} (h:Gd z js = 0):Be z js = 0 ∧ ¬ (0 < 2 * js.length ∧ 2 * js.length = z.length):=by
 unfold Gd at h
 by_cases c:Be z js = 0
 ·refine ⟨c, fun h2 => ?_⟩
  rw [if_neg (fun k=>k c),if_pos h2] at h
  omega
 ·rw [if_pos c] at h; exact absurd h c
theorem a85 {z:List Qi} {S:List (List Qi)} {js:List (Int × Int)} (h:Gd z js ≠ 0):yE z S js = Gd z js:=by
 unfold yE Gd at *
 by_cases c:Be z js ≠ 0
 ·rw [if_pos c,if_pos c]
 ·rw [if_neg c] at h
  rw [if_neg c,if_neg c]
  by_cases d:0 < 2 * js.length ∧ 2 * js.length = z.length
  ·rw [if_neg zo,if_pos d.2,if_pos d]
  ·rw [if_neg d] at h; exact absurd rfl h
theorem a3I {z:List Qi} {S:List (List Qi)} {js:List (Int × Int)} (h:Gd z js = 0) (h2:js.length = 0):yE z S js = 0:=by
 obtain ⟨h1,_⟩:=Jv h
 rw [yE,if_neg (fun k=>k h1),if_pos h2]
theorem Qu {z:List Qi} {S:List (List Qi)} {js:List (Int × Int)} (h:Gd z js = 0) (h2:js.length ≠ 0):yE z S js = if Qw z S js = 0 then 0 else 6:=by
 obtain ⟨h1,h3⟩:=Jv h
 rw [yE,if_neg (fun k=>k h1),if_neg h2,if_neg zo]
theorem pig : ∀ {n m : Nat} {f : Nat → Nat}, (∀ x, x < m → f x < n) → (∀ x y, x < m → y < m → f x = f y → x = y) → m ≤ n
 | 0, m, f, h, _ => by
  cases m with
  | zero=>exact Nat.le_refl 0
  | succ m=>exact absurd (h 0 zo) zo
 | n + 1,0,_,_,_=>by omega
 | n + 1, k + 1, f, h, i => by
  have := pig (n := n) (m := k) (f := fun x => if f x = n then f k else f x) (fun x hx => by
   have h1:=h x zo
   have h2:=h k zo
   by_cases c:f x = n
   ·simp only [if_pos c]
    have:f k ≠ n:=fun e=>by have:=i x k zo zo (by rw [c,e]); omega
    omega
   ·simp only [if_neg c]; omega) (fun x y hx hy e=>by
   by_cases c:f x = n <;> by_cases d:f y = n
   ·exact i x y zo zo (by rw [c,d])
   ·simp only [if_pos c, if_neg d] at e
    have:=i k y zo zo e; omega
   ·simp only [if_neg c, if_pos d] at e
    have:=i x k zo zo e; omega
   ·simp only [if_neg c, if_neg d] at e
    exact i x y zo zo e)
  omega
theorem a17 {z:List Qi} {js:List (Int × Int)} (h:Be z js = 0):2 * js.length ≤ z.length:=by
 have hj:=Eu h
 exact pig (f:=gq (dA js)) hj.lt hj.inj
theorem a16 {z:List Qi} {js:List (Int × Int)} (h:Be z js = 0):(oV js).map (aL .i64) = ((lQ js).map Nat.succ).map (NT .i64):=a1J (a14 h)
theorem Qp {js:List (Int × Int)} {x:Nat} (h:x < 2 * js.length):(lQ js).getD x 0 = gq (dA js) x:=by
 have hl:=pZ js
 rw [jgq h,lQ]
 simp [List.getD,show x < (oV js).length by omega]
theorem a0T (G:List Nat):(gnI G).map (aL .i64) = (G.map Nat.succ).map (NT .i64):=by
 simp only [gnI,List.map_map]
 refine List.map_congr_left fun x _=>?_
 simp [Function.comp,NT]
theorem Uu {G : List Nat} {j : Nat} (h : j ∉ G) : ∀ {k : Nat}, j < k → j ∈ gN G k
 | k + 1, hk => by
  rw [gN,List.mem_append]
  by_cases e:j = k
  ·subst e; exact .inr (by rw [if_neg h]; simp)
  ·exact .inl (Uu h zo)
theorem a6s {z:List Qi} {js:List (Int × Int)} (h:Be z js = 0) (h2:2 * js.length ≠ z.length):1 ≤ (eL z js).length:=by
 by_cases c:(eL z js).length = 0
 ·have hn : eL z js = [] := List.eq_nil_of_length_eq_zero c
  have hm : ∀ j, j < z.length → ∃ x, x < 2 * js.length ∧ gq (dA js) x = j := fun j hj => by
   by_cases d:j ∈ lQ js
   ·exact tP.1 d
   ·have := Uu d hj
    rw [show gN (lQ js) z.length = [] from hn] at this
    cases this
  have:=a17 h
  have h3 : z.length ≤ 2 * js.length := pig (f := fun j => if hj : j < z.length then Classical.choose (hm j hj) else 0) (fun j hj => by
   simp only [dif_pos hj]; exact (Classical.choose_spec (hm j hj)).1) (fun x y hx hy e=>by
   simp only [dif_pos hx,dif_pos hy] at e
   rw [← (Classical.choose_spec (hm x hx)).2,← (Classical.choose_spec (hm y hy)).2,e])
  omega
 ·omega
theorem Tv (x : Qi) (l m : List Qi) : ∀ k, wD x l m k = x + aC k fun y => gv l y * gv m y
 | 0=>by rw [wD,aC,show Qi.zero = (0:Qi) from rfl]; grind
 | k + 1=>by rw [wD,Tv x l m k,aC]; grind
theorem a0C {S:List (List Qi)} {ps:List (Nat × Nat)} {m a b:Nat}:wD (gm S a b) (tab m fun x=>gm S a (gq ps x)) (iK (nR S ps m) (Bf S ps m b) m) m = zQ S ps m a b:=by
 rw [Tv,zQ]
 congr 1
 exact aA fun y hy=>by rw [gF hy]
theorem Jx {S : List (List Qi)} {ps : List (Nat × Nat)} {m L : Nat} (hf : bE S L) (hL : 1 ≤ L) : bE (nR S ps m) (L + 2) := bE.tab fun x y _ _ => by
 haveI h1:=hf.get hL (gq ps (kV x)) (gq ps y)
 haveI h2 : aF (if x = y then Qi.ofInt 1 else Qi.ofInt 0) 1 := by
  split
  ·exact lA
  ·exact (aF.zero (Nat.le_refl 1):aF Qi.zero 1)
 exact (fitSub:aF (_ - _) (1 + L + 1)).le zo
theorem Uo {S:List (List Qi)} {ps:List (Nat × Nat)} {m b L:Nat} (hf:bE S L) (hL:1 ≤ L):bI (Bf S ps m b) L:=bI.tab fun x _=>hf.get hL _ _
theorem a3G {S:List (List Qi)} {ps:List (Nat × Nat)} {m a b L G:Nat} (hf:bE S L) (hL:1 ≤ L) (hG:wN (lG (L + 2) m) m ≤ G) (hE:jO (nR S ps m) (Bf S ps m b) m = 0):aF (zQ S ps m a b) (L + m * (2 * G + 2)):=by
 have h1:L + 2 ≤ G:=Nat.le_trans (Nat.le_trans (rP (L + 2) m) (Fy _ _)) hG
 rw [← a0C]
 exact Ed (hf.get hL a b) (bI.tab fun x _=>(hf.get hL a (gq ps x)).le zo) ((Wa (nS S ps m) (Jx hf hL) ((Uo hf hL).le zo) zo hE).le hG) zo m
theorem a3H {z:List Qi} {S:List (List Qi)} {js:List (Int × Int)} {L M:Nat} (h:bI z L) (hL:1 ≤ L) (hM:L ≤ M):bI (xI z S js) M:=by
 refine Vf ?_
 split
 ·exact h.le hM
 ·exact (a2f h hL).le hM
theorem a18 {z:List Qi} {S:List (List Qi)} {js:List (Int × Int)} (hS:cB S z.length z.length):cB (Ge z S js) (xI z S js).length (xI z S js).length ∧ (xI z S js).length ≤ z.length:=by
 by_cases h:yE z S js = 0
 ·by_cases h0 : js.length = 0
  ·rw [Ge,xI,iD,iD,if_pos h,if_pos h,if_pos h0,if_pos h0]; exact ⟨hS,Nat.le_refl _⟩
  ·rw [Ge,xI,iD,iD,if_pos h,if_pos h,if_neg h0,if_neg h0,Bq,sT]; exact ⟨cB.tab,Ci _ _⟩
 ·rw [Ge,xI,iD,iD,if_neg h,if_neg h]; exact ⟨⟨rfl,fun r hr=>by cases hr⟩,Nat.zero_le _⟩
end
section
open Go Go.RowKit
theorem a6U {x:Qi} (h:eA x = true):x ≠ 0:=fun e=>(a6V h).2 (by rw [e]; rfl)
theorem nK {z:List Qi} (h:z.all eA = true) {i:Nat} (hi:i < z.length):gv z i ≠ 0:=a6U (List.all_eq_true.1 h _ (by rw [show gv z i = z[i] by simp [gv,List.getD,hi]]; exact List.getElem_mem hi))
theorem oU {x y:Qi} {L M:Nat} (hx:aF x L) (hy:aF y M) (h:y ≠ 0):aF (x / y) (L + 3 * M + 2):=⟨hx.fit.div hy.fit h⟩
def mB (z w:List Qi) (i:Nat):Qi:=gv w i / gv z i
def Zd (z w:List Qi):List Qi:=tab w.length fun i=>Qi.ofInt 1 + mB z w i
def Zc (z w:List Qi):List Qi:=tab w.length fun i=>Qi.ofInt 1 - mB z w i
def mxE (st fa:List Qi) (s:List (List Qi)) (i j:Nat):Qi:=(if i = j then gv st i else Qi.ofInt 0) + gv fa i * gm s i j
def mxM (st fa:List Qi) (s:List (List Qi)) (n:Nat):List (List Qi):=tab n fun i=>tab n fun j=>mxE st fa s i j
theorem vM (st fa:List Qi) (s:List (List Qi)) (n:Nat):cB (mxM st fa s n) n n:=cB.tab
theorem a3W {st fa:List Qi} {s:List (List Qi)} {K L:Nat} (hs:bI st K) (hf:bI fa K) (hS:bE s L) (hK:1 ≤ K) (hL:1 ≤ L) (i j:Nat):aF (mxE st fa s i j) (2 * K + L + 2):=by
 haveI f1:=hf.get hK i
 haveI f2:=hS.get hL i j
 haveI f3 : aF (if i = j then gv st i else Qi.ofInt 0) K := by
  split
  ·exact hs.get hK i
  ·exact aF.zero hK
 have:aF (mxE st fa s i j) (K + (K + L + 1) + 1):=inferInstanceAs (aF (_ + _ * _) _)
 exact this.le zo
theorem Ka {st fa:List Qi} {s:List (List Qi)} {n K L:Nat} (hs:bI st K) (hf:bI fa K) (hS:bE s L) (hK:1 ≤ K) (hL:1 ≤ L):bE (mxM st fa s n) (2 * K + L + 2):=bE.tab fun i j _ _=>a3W hs hf hS hK hL i j
theorem Kq {z w:List Qi} {L M i:Nat} (hz:bI z L) (hw:bI w M) (hL:1 ≤ L) (hM:1 ≤ M) (hp:z.all eA = true) (hi:i < z.length):aF (mB z w i) (M + 3 * L + 2):=oU (hw.get hM i) (hz.get hL i) (nK hp hi)
theorem Kp {z w : List Qi} {L M : Nat} (hz : bI z L) (hw : bI w M) (hL : 1 ≤ L) (hM : 1 ≤ M) (hp : z.all eA = true) (hl : w.length = z.length) : bI (Zd z w) (M + 3 * L + 4) := bI.tab fun i hi => by
 haveI f1:=Kq (i:=i) hz hw hL hM hp zo
 haveI:=lA
 have:aF (Qi.ofInt 1 + mB z w i) (1 + (M + 3 * L + 2) + 1):=fitAdd
 exact this.le zo
theorem Ko {z w : List Qi} {L M : Nat} (hz : bI z L) (hw : bI w M) (hL : 1 ≤ L) (hM : 1 ≤ M) (hp : z.all eA = true) (hl : w.length = z.length) : bI (Zc z w) (M + 3 * L + 4) := bI.tab fun i hi => by
 haveI f1:=Kq (i:=i) hz hw hL hM hp zo
 haveI:=lA
 have:aF (Qi.ofInt 1 - mB z w i) (1 + (M + 3 * L + 2) + 1):=fitSub
 exact this.le zo
abbrev Yo (z w:List Qi) (s:List (List Qi)):List (List Qi):=mxM (Zc z w) (Zd z w) s w.length
abbrev An (z w:List Qi) (s:List (List Qi)):List (List Qi):=mxM (Zd z w) (Zc z w) s w.length
def Lf (z w:List Qi) (s:List (List Qi)):Int:=if w.length ≠ z.length then 4 else if w.all eA = true then ovE (An z w s) w.length else 1
def rnZ (z w:List Qi) (s:List (List Qi)):List Qi:=iD (Lf z w s) w
def rB (z w:List Qi) (s:List (List Qi)):List (List Qi):=iD (Lf z w s) (oF (Yo z w s) (rF (An z w s) w.length) w.length w.length w.length)
theorem a4A {z w:List Qi} {s:List (List Qi)} (h:w.length ≠ z.length):Lf z w s = 4:=if_pos h
theorem a72 {z w:List Qi} {s:List (List Qi)} (h:w.length = z.length) (hp:w.all eA ≠ true):Lf z w s = 1:=by rw [Lf,if_neg (fun k=>k h),if_neg hp]
theorem a1W {z w:List Qi} {s:List (List Qi)} (h:w.length = z.length) (hp:w.all eA = true):Lf z w s = ovE (An z w s) w.length:=by rw [Lf,if_neg (fun k=>k h),if_pos hp]
theorem a73 {z w:List Qi} {s:List (List Qi)} (h:w.length = z.length) (hp:w.all eA = true):rB z w s = ovX (Yo z w s) (An z w s) w.length:=by rw [rB,a1W h hp]; rfl
def rdl (i j:Nat):Qi:=if i = j then Qi.ofInt 1 else Qi.ofInt 0
end
section
open Go Go.RowKit
section
variable {φ:Qi → Qi → Bool} {z:List Qi} {js:List (Int × Int)}
end
theorem nU {a b:List (List Qi)} {n k m i j:Nat} (hi:i < n) (hj:j < m):gm (oF a b n k m) i j = aC k fun t=>gm a i t * gm b t j:=eI hi hj
theorem a3U {A : List (List Qi)} {n : Nat} (h : cB A n n) : oF (rQ n) A n n n = A := lB nT h fun i hi j hj => by
 rw [nU hi hj,bO hi (f:=fun t=>gm (rQ n) i t * gm A t j) fun k hk hne=>by rw [zN hi hk,if_neg (Ne.symm hne)]; grind,zN hi hi,if_pos rfl]; grind
theorem a3V {A : List (List Qi)} {n : Nat} (h : cB A n n) : oF A (rQ n) n n n = A := lB nT h fun i hi j hj => by
 rw [nU hi hj,bO hj (f:=fun t=>gm A i t * gm (rQ n) t j) fun k hk hne=>by rw [zN hk hj,if_neg hne]; grind,zN hj hj,if_pos rfl]; grind
abbrev jp1 (js:List (Int × Int)) (k:Nat):Nat:=((nJ js k).1 - 1).toNat
abbrev jp2 (js:List (Int × Int)) (k:Nat):Nat:=((nJ js k).2 - 1).toNat
theorem a5q {js:List (Int × Int)} {k:Nat} (h:k < js.length):gq (dA js) (2 * k) = jp1 js k ∧ gq (dA js) (2 * k + 1) = jp2 js k:=by
 obtain ⟨h1,h2⟩:=Qv h
 rw [a3v,a6k]; exact ⟨h1,h2⟩
def yB:Qi:=Qi.frac 1 0 2
theorem a3w:yB * Qi.ofInt 2 = Qi.ofInt 1:=by decide +kernel
section
variable {js:List (Int × Int)} {n:Nat}
end
theorem Jz : ∀ n, gN [] n = tab n fun i => i
 | 0=>rfl
 | n + 1=>by rw [gN,Jz n,mD]; rfl
theorem Sg (n:Nat):(gN [] n).length = n:=by rw [Jz,aE]
theorem a2E {z:List Qi}:oG z (gN [] z.length) = z:=by
 rw [oG,Sg,Jz]
 apply List.ext_getElem?
 intro i
 by_cases hi:i < z.length
 ·rw [cH hi,cR,kT hi]; simp [gv,List.getD,hi]
 ·rw [List.getElem?_eq_none (by rw [aE]; omega),List.getElem?_eq_none zo]
end
section
open Go Go.RowKit
structure Gr (O:List Nat) (n:Nat):Prop where
 nd:O.Nodup
 all:∀ x,x ∈ O ↔ 1 ≤ x ∧ x ≤ n
theorem Gr.len {O:List Nat} {n:Nat} (h:Gr O n):O.length = n:=by
 refine Nat.le_antisymm ?_ ?_
 ·refine pig (n := n) (f := fun i => O.getD i 0 - 1) (fun x hx => ?_) (fun x y hx hy e => ?_)
  ·have := (h.all (O.getD x 0)).1 (by rw [show O.getD x 0 = O[x] by simp [List.getD, hx]]; exact List.getElem_mem hx)
   show O.getD x 0 - 1 < n; omega
  ·have a := (h.all (O.getD x 0)).1 (by rw [show O.getD x 0 = O[x] by simp [List.getD, hx]]; exact List.getElem_mem hx)
   have b:=(h.all (O.getD y 0)).1 (by rw [show O.getD y 0 = O[y] by simp [List.getD,hy]]; exact List.getElem_mem hy)
   have e2:O.getD x 0 = O.getD y 0:=by have:O.getD x 0 - 1 = O.getD y 0 - 1:=e; omega
   rw [show O.getD x 0 = O[x] by simp [List.getD,hx],show O.getD y 0 = O[y] by simp [List.getD,hy]] at e2
   exact (List.getElem_inj h.nd).1 e2
 ·have key : ∀ j, j < n → ∃ i, i < O.length ∧ O.getD i 0 = j + 1 := fun j hj => by
   obtain ⟨i,hi,e⟩:=List.getElem_of_mem ((h.all (j + 1)).2 ⟨by omega,by omega⟩)
   exact ⟨i,hi,by simp [List.getD,hi,e]⟩
  refine pig (n:=O.length) (f:=fun j=>if hj:j < n then Classical.choose (key j hj) else 0) (fun x hx=>by simp only [dif_pos hx]; exact (Classical.choose_spec (key x hx)).1) (fun x y hx hy e=>?_)
  simp only [dif_pos hx,dif_pos hy] at e
  have a:=(Classical.choose_spec (key x hx)).2
  have b:=(Classical.choose_spec (key y hy)).2
  rw [e] at a; omega
section
variable {O:List Nat} {n:Nat}
theorem Gr.at (h:Gr O n) {i:Nat} (hi:i < n):1 ≤ O.getD i 0 ∧ O.getD i 0 ≤ n:=by
 have hl:=h.len
 exact (h.all _).1 (by rw [show O.getD i 0 = O[i] by simp [List.getD,show i < O.length by omega]]; exact List.getElem_mem _)
theorem Gr.inj (h:Gr O n) {i j:Nat} (hi:i < n) (hj:j < n) (e:O.getD i 0 = O.getD j 0):i = j:=by
 have hl:=h.len
 rw [show O.getD i 0 = O[i] by simp [List.getD,show i < O.length by omega],show O.getD j 0 = O[j] by simp [List.getD,show j < O.length by omega]] at e
 exact (List.getElem_inj h.nd).1 e
end
end
section
open Go Go.RowKit
def a8u (S:Nat → Nat → Qi) (p q b:Nat) (v0 v1:Qi):Prop:=v0 = S q b + (S q p * v0 + S q q * v1) ∧ v1 = S p b + (S p p * v0 + S p q * v1)
def Wn (S:Nat → Nat → Qi) (p q:Nat):Prop:=∀ v0 v1:Qi,v0 = S q p * v0 + S q q * v1 → v1 = S p p * v0 + S p q * v1 → v0 = 0 ∧ v1 = 0
theorem vY {M:List (List Qi)} {b:List Qi} {n:Nat} (h:cB M n n):jO M b n = 0 ↔ ∀ y:Nat → Qi,(∀ i,i < n → aC n (fun k=>gm M i k * y k) = 0) → ∀ k,k < n → y k = 0:=by
 constructor
 ·intro e; exact (mC h e).2
 ·intro hk
  apply Classical.byContradiction; intro e
  obtain ⟨y,hy,k,hkn,hne⟩:=Fr h e
  exact hne (hk y hy k hkn)
theorem Kw (f:Nat → Qi):aC 2 f = f 0 + f 1:=by simp only [aC,q0]; grind
section
variable {S:List (List Qi)} {p q r t a b:Nat}
abbrev J1 (p q:Nat):List (Int × Int):=[(((p + 1:Nat):Int),((q + 1:Nat):Int))]
theorem p1n (p:Nat):(((p + 1:Nat):Int) - 1).toNat = p:=by omega
theorem Xx:dA (J1 p q) = [(p,q)]:=by simp only [dA,J1,List.map_cons,List.map_nil,p1n]
theorem a6u:lQ (J1 p q) = [p,q]:=by
 have e:lQ (J1 p q) = [(((p + 1:Nat):Int) - 1).toNat,(((q + 1:Nat):Int) - 1).toNat]:=rfl
 rw [e,p1n,p1n]
theorem a4B {v:Nat → Qi}:(aC 2 (fun y=>gm (nR S [(p,q)] 2) 0 y * v y) = v 0 - (gm S q p * v 0 + gm S q q * v 1)) ∧ (aC 2 (fun y=>gm (nR S [(p,q)] 2) 1 y * v y) = v 1 - (gm S p p * v 0 + gm S p q * v 1)):=by
 rw [Up zo,Up zo,Kw,Kw]
 exact ⟨rfl,rfl⟩
theorem Yv {x y:Qi} (h:x - y = 0):x = y:=by grind
theorem Cn {bb:List Qi}:jO (nR S [(p,q)] 2) bb 2 = 0 ↔ Wn (gm S) p q:=by
 rw [vY (nS _ _ _)]
 constructor
 ·intro h v0 v1 h0 h1
  have hk := h (fun k => if k = 0 then v0 else v1) (fun i hi => by
   obtain ⟨r0,r1⟩:=a4B (S:=S) (p:=p) (q:=q) (v:=fun k=>if k = 0 then v0 else v1)
   have c:i = 0 ∨ i = 1:=by omega
   rcases c with rfl | rfl
   ·rw [r0]; show v0 - (gm S q p * v0 + gm S q q * v1) = 0; clear r0 r1 h; grind
   ·rw [r1]; show v1 - (gm S p p * v0 + gm S p q * v1) = 0; clear r0 r1 h; grind)
  exact ⟨hk 0 zo,hk 1 zo⟩
 ·intro h y hy
  obtain ⟨r0,r1⟩:=a4B (S:=S) (p:=p) (q:=q) (v:=y)
  obtain ⟨a0,a1⟩:=h (y 0) (y 1) (Yv (by rw [← r0]; exact hy 0 zo)) (Yv (by rw [← r1]; exact hy 1 zo))
  intro k hk
  have c:k = 0 ∨ k = 1:=by omega
  rcases c with rfl | rfl
  ·exact a0
  ·exact a1
theorem a8b (h:Wn (gm S) p q):∃ v0 v1,a8u (gm S) p q b v0 v1 ∧ ∀ a,zQ S [(p,q)] 2 a b = gm S a b + (gm S a p * v0 + gm S a q * v1):=by
 have hs:=(mC (nS S [(p,q)] 2) (Cn (bb:=Bf S [(p,q)] 2 b) |>.2 h)).1
 obtain ⟨r0,r1⟩:=a4B (S:=S) (p:=p) (q:=q) (v:=gv (iK (nR S [(p,q)] 2) (Bf S [(p,q)] 2 b) 2))
 have h0:=hs 0 zo
 have h1:=hs 1 zo
 rw [r0,Qn zo] at h0
 rw [r1,Qn zo] at h1
 refine ⟨gv (iK (nR S [(p,q)] 2) (Bf S [(p,q)] 2 b) 2) 0,gv (iK (nR S [(p,q)] 2) (Bf S [(p,q)] 2 b) 2) 1,⟨?_,?_⟩,fun a=>?_⟩
 ·have e : gm S (gq [(p, q)] (kV 0)) b = gm S q b := rfl
  rw [e] at h0; clear r0 r1 hs h h1; grind
 ·have e : gm S (gq [(p, q)] (kV 1)) b = gm S p b := rfl
  rw [e] at h1; clear r0 r1 hs h h0; grind
 ·rw [zQ,Kw]; rfl
end
section
variable {S:Nat → Nat → Qi} {p q r t a b:Nat}
def S1 (S:Nat → Nat → Qi) (p q:Nat) (V:Nat → Qi × Qi) (a b:Nat):Qi:=S a b + (S a p * (V b).1 + S a q * (V b).2)
variable {V:Nat → Qi × Qi}
end
end
section
open Go Go.RowKit
def low (c a b:Nat):Nat:=c - (if a < c then 1 else 0) - (if b < c then 1 else 0)
def okP (N p q r t : Nat) : Bool :=
 decide ((gN [p,q] N).length = N - 2) && decide (low r p q < N - 2) && decide (low t p q < N - 2) && decide (low r p q ≠ low t p q) && decide (cR (gN [p,q] N) (low r p q) = r) && decide (cR (gN [p,q] N) (low t p q) = t)
 && decide ((gN [low r p q,low t p q] (N - 2)).map (cR (gN [p,q] N)) = gN [p,q,r,t] N) && decide ((gN [p,q,r,t] N).length = N - 4) && decide (gN [t,r,p,q] N = gN [p,q,r,t] N) && decide (gN [r,t,p,q] N = gN [p,q,r,t] N)
theorem Hl {n p:Nat} {l:List Nat} (hp:p < n) (h:p ∉ l):fH n ((p + 1:Nat):Int) (l.map fun (x:Nat)=>((x + 1:Nat):Int)) = 0:=by
 rw [fH,if_neg (fun k=>k ⟨by omega,by omega⟩),if_neg]
 simp only [List.any_map,List.any_eq_true,Function.comp,decide_eq_true_eq]
 rintro ⟨x,hx,e⟩
 exact h ((show x = p by omega) ▸ hx)
section
variable {z:List Qi} {S:List (List Qi)} {N p q r t:Nat} {ζ:Qi}
theorem a19 {js:List (Int × Int)} {k:Nat} {a b:Nat} {l:List Nat} (hk:nJ js k = (((a + 1:Nat):Int),((b + 1:Nat):Int))) (hl:oV (js.take k) = l.map fun (x:Nat)=>((x + 1:Nat):Int)) (ha:a < z.length) (hb:b < z.length) (hal:a ∉ l) (hbl:b ∉ l) (hab:a ≠ b) (hz:gv z a = gv z b):yG z js k = 0:=by
 have e2:(l.map fun (x:Nat)=>((x + 1:Nat):Int)) ++ [((a + 1:Nat):Int)] = (l ++ [a]).map fun (x:Nat)=>((x + 1:Nat):Int):=by simp
 rw [yG,hk,hl]
 simp only []
 rw [e2,Hl ha hal,Hl hb (by simp only [List.mem_append,List.mem_singleton]; rintro (k | k); exact hbl k; exact hab k.symm),p1n,p1n,if_pos hz]; rfl
theorem Xm {f : Nat → Int} {n : Nat} {P : Prop} (hn : 1 ≤ n) (h : ∀ i, f i = 0 ↔ P) : kK f n = 0 ↔ P :=
 ⟨fun e=>(h 0).1 (iC e 0 zo),fun k=>iB fun i _=>(h i).2 k⟩
theorem a6t:eL z (J1 p q) = gN [p,q] z.length:=by rw [eL,a6u]
theorem a8m (h:yE z S (J1 p q) = 0):Ge z S (J1 p q) = (tab (gN [p,q] z.length).length fun x=>tab (gN [p,q] z.length).length fun y=>zQ S [(p,q)] 2 (cR (gN [p,q] z.length) x) (cR (gN [p,q] z.length) y)) ∧ xI z S (J1 p q) = oG z (gN [p,q] z.length):=by
 have e:Ak z S (J1 p q) = tab (eL z (J1 p q)).length fun x=>tab (eL z (J1 p q)).length fun y=>zQ S (dA (J1 p q)) 2 (cR (eL z (J1 p q)) x) (cR (eL z (J1 p q)) y):=rfl
 constructor
 ·rw [Ge,iD,if_pos h,if_neg (by simp),e,a6t,Xx]
 ·rw [xI,iD,if_pos h,if_neg (by simp),Bq,a6t]
end
end
section
open Go Go.RowKit
abbrev xV (s f:List (List Qi)) (n:Nat):List (List Qi):=nI s f n 2
abbrev oD (s f:List (List Qi)) (p:Nat):Qi:=Qi.ofInt 1 - gm f 1 1 * gm s p p
def Ef (p i:Nat) (n:Nat):Nat:=if i < p then i else if i = p then n - 1 else i - 1
theorem Jk {p i n:Nat} (hp:p < n) (hi:i < n):lI p (Ef p i n) = if i = p then n else i:=by
 unfold Ef lI
 by_cases c:i < p
 ·rw [if_pos c,if_pos c,if_neg zo]
 ·rw [if_neg c]
  by_cases d:i = p
  ·rw [if_pos d,if_pos d,if_neg zo]; omega
  ·rw [if_neg d,if_neg d,if_neg zo]; omega
theorem Eg {p i n:Nat} (hi:i < n):Ef p i n < n:=by unfold Ef; split <;> (try split) <;> omega
def emL (n p : Nat) : Nat → List Nat
 | 0=>[]
 | k + 1=>emL n p k ++ (if k = p then [n - 1,k] else [k])
theorem a0F {n p : Nat} : ∀ k, emL n p k = tab (if p < k then k + 1 else k) fun i => Ef p i n
 | 0=>rfl
 | k + 1 => by
  rw [emL,a0F k]
  by_cases c:k = p
  ·subst c
   rw [if_neg (Nat.lt_irrefl k),if_pos rfl,if_pos (Nat.lt_succ_self k),mD,mD,List.append_assoc]
   have e1:Ef k k n = n - 1:=by unfold Ef; rw [if_neg (Nat.lt_irrefl k),if_pos rfl]
   have e2:Ef k (k + 1) n = k:=by unfold Ef; rw [if_neg zo,if_neg zo]; omega
   rw [e1,e2]; rfl
  ·rw [if_neg c]
   by_cases d:p < k
   ·rw [if_pos d,if_pos zo,mD (m:=k + 1),show Ef p (k + 1) n = k by unfold Ef; rw [if_neg zo,if_neg zo]; omega]
   ·rw [if_neg d,if_neg zo,mD,show Ef p k n = k by unfold Ef; rw [if_pos zo]]
def Tz (n p:Nat):List Nat:=emL n p (n - 1) ++ (if p + 1 = n then [n - 1] else [])
theorem Eh {n p:Nat} (hp:p < n):Tz n p = tab n fun i=>Ef p i n:=by
 rw [Tz,a0F]
 by_cases c:p + 1 = n
 ·rw [if_pos c, if_neg zo]
  have e:tab n (fun i=>Ef p i n) = tab (n - 1 + 1) fun i=>Ef p i n:=by rw [show n - 1 + 1 = n by omega]
  rw [e,mD,show Ef p (n - 1) n = n - 1 by unfold Ef; rw [if_neg zo,if_pos zo]]
 ·rw [if_neg c,if_pos zo,List.append_nil,show n - 1 + 1 = n by omega]
def wW (s f : List (List Qi)) (p i j : Nat) : Qi :=
 if i = p ∧ j = p then gm f 0 0 + gm f 0 1 * (gm f 1 0 * (gm s p p / oD s f p))
 else if j = p then gm s i p / oD s f p * gm f 1 0
 else if i = p then gm f 0 1 * (gm s p j / oD s f p)
 else gm s i j + gm s i p / oD s f p * (gm f 1 1 * gm s p j)
def a0H (s f:List (List Qi)) (p n:Nat):List (List Qi):=tab n fun i=>tab n fun j=>wW s f p i j
def Gc (z fz:List Qi) (port:Int) (x:Nat):Int:=if fz.length ≠ 2 then 4 else if ¬ (1 ≤ port ∧ port ≤ z.length) then 1 else if gv fz (x - 1) = gv z (port - 1).toNat then 0 else 40
theorem a80 {z fz:List Qi} {port:Int} {x:Nat} (h:Gc z fz port x = 0):fz.length = 2 ∧ (1 ≤ port ∧ port ≤ z.length) ∧ gv fz (x - 1) = gv z (port - 1).toNat:=by
 unfold Gc at h
 by_cases c1:fz.length = 2
 ·rw [if_neg (fun k => k c1)] at h
  by_cases c2:1 ≤ port ∧ port ≤ z.length
  ·rw [if_neg (fun k => k c2)] at h
   by_cases c3:gv fz (x - 1) = gv z (port - 1).toNat
   ·exact ⟨c1,c2,c3⟩
   ·rw [if_neg c3] at h; omega
  ·rw [if_pos c2] at h; omega
 ·rw [if_pos c1] at h; omega
def Ga (z:List Qi) (s:List (List Qi)) (fz:List Qi) (f:List (List Qi)) (port:Int):Int:=if Gc z fz port 2 ≠ 0 then Gc z fz port 2 else if oD s f (port - 1).toNat = Qi.zero then 6 else 0
theorem a5f {z fz:List Qi} {s f:List (List Qi)} {port:Int} (h:Gc z fz port 2 ≠ 0):Ga z s fz f port = Gc z fz port 2:=if_pos h
theorem a0G {z fz:List Qi} {s f:List (List Qi)} {port:Int} (h:Gc z fz port 2 = 0) (h2:oD s f (port - 1).toNat = Qi.zero):Ga z s fz f port = 6:=by rw [Ga,if_neg (fun k=>k h),if_pos h2]
theorem a6c {z fz:List Qi} {s f:List (List Qi)} {port:Int} (h:Gc z fz port 2 = 0) (h2:oD s f (port - 1).toNat ≠ Qi.zero):Ga z s fz f port = 0:=by rw [Ga,if_neg (fun k=>k h),if_neg h2]
def Qk (z:List Qi) (s:List (List Qi)) (fz:List Qi) (f:List (List Qi)) (port:Int):List Qi:=iD (Ga z s fz f port) (z.set (port - 1).toNat (gv fz 0))
def Ua (z:List Qi) (s:List (List Qi)) (fz:List Qi) (f:List (List Qi)) (port:Int):List (List Qi):=iD (Ga z s fz f port) (a0H s f (port - 1).toNat z.length)
end
section
open Go Go.RowKit
def Gb (x:Qi) (N:Nat):Prop:=∃ p q:Int,x = Qi.mk (p:Rat) (q:Rat) ∧ p.natAbs ≤ N ∧ q.natAbs ≤ N
theorem Gb.le {x:Qi} {N M:Nat} (h:Gb x N) (k:N ≤ M):Gb x M:=by
 obtain ⟨p,q,e,h1,h2⟩:=h; exact ⟨p,q,e,by omega,by omega⟩
theorem Gb.add {x y:Qi} {N M:Nat} (h:Gb x N) (k:Gb y M):Gb (x + y) (N + M):=by
 obtain ⟨p,q,rfl,h1,h2⟩:=h; obtain ⟨r,s,rfl,k1,k2⟩:=k
 refine ⟨p + r,q + s,Qi.ext' ?_ ?_,by omega,by omega⟩
 ·show (p:Rat) + (r:Rat) = ((p + r:Int):Rat); push_cast; rfl
 ·show (q:Rat) + (s:Rat) = ((q + s:Int):Rat); push_cast; rfl
theorem Gb.neg {x:Qi} {N:Nat} (h:Gb x N):Gb (-x) N:=by
 obtain ⟨p,q,rfl,h1,h2⟩:=h
 refine ⟨-p,-q,Qi.ext' ?_ ?_,by omega,by omega⟩
 ·show -(p:Rat) = ((-p:Int):Rat); push_cast; rfl
 ·show -(q:Rat) = ((-q:Int):Rat); push_cast; rfl
theorem Gb.sub {x y:Qi} {N M:Nat} (h:Gb x N) (k:Gb y M):Gb (x - y) (N + M):=by rw [Qi.sub_def]; exact h.add k.neg
theorem rT {p q:Int} {N M:Nat} (h:p.natAbs ≤ N) (k:q.natAbs ≤ M):(p * q).natAbs ≤ N * M:=by rw [Int.natAbs_mul]; exact Nat.mul_le_mul h k
theorem Gb.mul {x y:Qi} {N M:Nat} (h:Gb x N) (k:Gb y M):Gb (x * y) (2 * N * M):=by
 obtain ⟨p,q,rfl,h1,h2⟩:=h; obtain ⟨r,s,rfl,k1,k2⟩:=k
 have a1:=rT h1 k1; have a2:=rT h2 k2; have a3:=rT h1 k2; have a4:=rT h2 k1
 have e:2 * N * M = N * M + N * M:=by rw [Nat.mul_assoc,Nat.two_mul]
 refine ⟨p * r - q * s,p * s + q * r,Qi.ext' ?_ ?_,by omega,by omega⟩
 ·rw [Qi.mul_re]; show (p:Rat) * (r:Rat) - (q:Rat) * (s:Rat) = ((p * r - q * s:Int):Rat); push_cast; rfl
 ·rw [Qi.mul_im]; show (p:Rat) * (s:Rat) + (q:Rat) * (r:Rat) = ((p * s + q * r:Int):Rat); push_cast; rfl
theorem Gb.sum {f : Nat → Qi} {N : Nat} : ∀ {n : Nat}, (∀ k, k < n → Gb (f k) N) → Gb (aC n f) (n * N)
 | 0,_=>⟨0,0,Qi.ext' rfl rfl,by simp,by simp⟩
 | n + 1, h => by
  rw [aC,Nat.succ_mul]
  exact (Gb.sum fun k hk=>h k zo).add (h n zo)
theorem Gb.fit {x:Qi} {N L:Nat} (h:Gb x N) (hN:N < BB ^ L) (hL:1 ≤ L):aF x L:=by
 obtain ⟨p,q,rfl,h1,h2⟩:=h
 have e:Qi.mk (p:Rat) (q:Rat) = Qi.mk' p q 1:=Qi.ext' (by rw [Qi.mk_re]; show (p:Rat) = p / ((1:Nat):Rat); grind) (by rw [Qi.mk_im]; show (q:Rat) = q / ((1:Nat):Rat); grind)
 rw [e]
 exact ⟨Qi.Fit.mk (by decide) zo zo (Qi.one_lt hL)⟩
theorem tT (n:Nat) (f:Nat → Qi):aC (n + 1) f = f 0 + aC n fun k=>f (k + 1):=by
 rw [Nat.add_comm n 1,oB,Ft]
 exact congrArg _ (aA fun k _=>by rw [Nat.add_comm])
def fs : Nat → Nat → Nat
 | 0,_=>1
 | n + 1,N=>2 * (n + 1) * N * fs n (4 * N * N)
theorem Qx {F:Nat → Nat → Qi} {n:Nat} {x:Nat → Qi}:xL F (n + 1) (n + 1) x ↔ (F 0 0 * x 0 + aC n (fun k=>F 0 (k + 1) * x (k + 1)) = 0) ∧ ∀ i,i < n → F (i + 1) 0 * x 0 + aC n (fun k=>F (i + 1) (k + 1) * x (k + 1)) = 0:=by
 constructor
 ·intro h
  exact ⟨by have:=h 0 zo; rwa [tT] at this,fun i hi=>by have:=h (i + 1) zo; rwa [tT] at this⟩
 ·rintro ⟨h1, h2⟩ i hi
  rw [tT]
  cases i with
  | zero=>exact h1
  | succ i=>exact h2 i zo
theorem Oq (n:Nat) (a b:Qi) (f g x:Nat → Qi):aC n (fun k=>(a * f k - b * g k) * x k) = a * aC n (fun k=>f k * x k) - b * aC n (fun k=>g k * x k):=by
 induction n with
 | zero=>simp only [aC,q0]; grind
 | succ n ih=>simp only [aC,ih]; grind
theorem Ar (n:Nat) (a:Qi) (f x:Nat → Qi):aC n (fun k=>f k * (x k * a)) = a * aC n (fun k=>f k * x k):=by
 induction n with
 | zero=>simp only [aC,q0]; grind
 | succ n ih=>simp only [aC,ih]; grind
theorem a3q {F : Nat → Nat → Qi} {n N : Nat} (hp : F 0 0 ≠ 0) (hN : 1 ≤ N) (hF : ∀ i, i < n + 1 → ∀ j, j ≤ n + 1 → Gb (F i j) N) (hk : ∀ v, xL F (n + 1) (n + 1) v → ∀ k, k < n + 1 → v k = 0)
  (ih:∀ G:Nat → Nat → Qi,(∀ i,i < n → ∀ j,j ≤ n → Gb (G i j) (4 * N * N)) → (∀ v,xL G n n v → ∀ k,k < n → v k = 0) → ∃ (y:Nat → Qi) (e:Qi),e ≠ 0 ∧ Gb e (fs n (4 * N * N)) ∧ (∀ k,k < n → Gb (y k) (fs n (4 * N * N))) ∧ ∀ i,i < n → aC n (fun k=>G i k * y k) = e * G i n) :
  ∃ (y:Nat → Qi) (e:Qi),e ≠ 0 ∧ Gb e (fs (n + 1) N) ∧ (∀ k,k < n + 1 → Gb (y k) (fs (n + 1) N)) ∧ ∀ i,i < n + 1 → aC (n + 1) (fun k=>F i k * y k) = e * F i (n + 1):=by
 obtain ⟨y, e, he, ge, gy, hy⟩ := ih (fun i j => F 0 0 * F (i + 1) (j + 1) - F (i + 1) 0 * F 0 (j + 1)) (fun i hi j hj => by
   have h1:=(hF 0 zo 0 zo).mul (hF (i + 1) zo (j + 1) zo)
   have h2:=(hF (i + 1) zo 0 zo).mul (hF 0 zo (j + 1) zo)
   exact (h1.sub h2).le (by rw [show 4 * N * N = 2 * N * N + 2 * N * N by rw [← Nat.add_mul]; congr 1; omega]; exact Nat.le_refl _)) (fun v hv k hkn=>by
   have hz := hk (fun k => if k = 0 then -(aC n fun k => F 0 (k + 1) * v k) else F 0 0 * v (k - 1)) (Qx.2 ⟨by
    simp only [if_true,Nat.add_sub_cancel,if_neg (Nat.succ_ne_zero _)]
    have:=Ar n (F 0 0) (fun k=>F 0 (k + 1)) v
    simp only [Qi.mul_comm' _ (F 0 0)] at this ⊢
    rw [this]; grind,fun i hi=>by
    simp only [if_true,Nat.add_sub_cancel,if_neg (Nat.succ_ne_zero _)]
    have:=Ar n (F 0 0) (fun k=>F (i + 1) (k + 1)) v
    simp only [Qi.mul_comm' _ (F 0 0)] at this ⊢
    rw [this]
    have h:=hv i hi
    have h2:=Oq n (F 0 0) (F (i + 1) 0) (fun k=>F (i + 1) (k + 1)) (fun k=>F 0 (k + 1)) v
    simp only [] at h
    rw [h2] at h
    grind⟩) (k + 1) zo
   simp only [Nat.add_sub_cancel,if_neg (Nat.succ_ne_zero _)] at hz
   rcases gL hz with h | h
   ·exact absurd h hp
   ·exact h)
 have hf1 : 1 ≤ fs n (4 * N * N) := by
  apply Decidable.byContradiction; intro h
  have h0:fs n (4 * N * N) = 0:=by omega
  rw [h0] at ge
  obtain ⟨p,q,e1,p1,p2⟩:=ge
  have hp0:p = 0:=by omega
  have hq0:q = 0:=by omega
  exact he (by rw [e1,hp0,hq0]; exact Qi.ext' rfl rfl)
 have hG : fs (n + 1) N = (n + 1) * (2 * fs n (4 * N * N) * N) := by
  rw [fs]; simp only [Nat.mul_comm,Nat.mul_left_comm,Nat.mul_assoc]
 have hG1:2 * fs n (4 * N * N) * N ≤ fs (n + 1) N:=by rw [hG]; exact Nat.le_mul_of_pos_left _ zo
 refine ⟨fun k=>if k = 0 then e * F 0 (n + 1) - aC n (fun k=>F 0 (k + 1) * y k) else y (k - 1) * F 0 0,e * F 0 0,fun h=>?_,?_,fun k hkn=>?_,fun i hi=>?_⟩
 ·rcases gL h with h | h
  ·exact he h
  ·exact hp h
 ·exact (ge.mul (hF 0 zo 0 zo)).le hG1
 ·cases k with
  | zero =>
   simp only [if_true]
   have h1:=ge.mul (hF 0 zo (n + 1) zo)
   have h2:Gb (aC n fun k=>F 0 (k + 1) * y k) (n * (2 * N * fs n (4 * N * N))):=Gb.sum fun k hk=>(hF 0 zo (k + 1) zo).mul (gy k hk)
   refine (h1.sub h2).le ?_
   have e3:n * (2 * N * fs n (4 * N * N)) = n * (2 * fs n (4 * N * N) * N):=by simp only [Nat.mul_comm,Nat.mul_left_comm,Nat.mul_assoc]
   have e4:(n + 1) * (2 * fs n (4 * N * N) * N) = n * (2 * fs n (4 * N * N) * N) + 2 * fs n (4 * N * N) * N:=Nat.succ_mul _ _
   rw [hG,e3,e4,Nat.add_comm]; exact Nat.le_refl _
  | succ k =>
   simp only [Nat.add_sub_cancel,if_neg (Nat.succ_ne_zero _)]
   exact ((gy k zo).mul (hF 0 zo 0 zo)).le hG1
 ·rw [tT]
  simp only [if_true,Nat.add_sub_cancel,if_neg (Nat.succ_ne_zero _)]
  rw [Ar n (F 0 0) (fun k=>F i (k + 1)) y]
  cases i with
  | zero=>grind
  | succ i =>
   have h:=hy i zo
   have h2:=Oq n (F 0 0) (F (i + 1) 0) (fun k=>F (i + 1) (k + 1)) (fun k=>F 0 (k + 1)) y
   rw [h2] at h
   grind
theorem Ql : ∀ (n N : Nat) (F : Nat → Nat → Qi), 1 ≤ N → (∀ i, i < n → ∀ j, j ≤ n → Gb (F i j) N) → (∀ v, xL F n n v → ∀ k, k < n → v k = 0) →
  ∃ (y:Nat → Qi) (e:Qi),e ≠ 0 ∧ Gb e (fs n N) ∧ (∀ k,k < n → Gb (y k) (fs n N)) ∧ ∀ i,i < n → aC n (fun k=>F i k * y k) = e * F i n
 | 0,N,F,_,_,_=>⟨fun _=>0,1,fun h=>by have:=congrArg Qi.re h; revert this; decide,⟨1,0,Qi.ext' rfl rfl,by simp [fs],by simp [fs]⟩,fun k hk=>by omega,fun i hi=>by omega⟩
 | n + 1, N, F, hN, hF, hk => by
  have hpz : ∃ p, p < n + 1 ∧ F p 0 ≠ 0 := by
   apply Classical.byContradiction; intro hno
   have hz : ∀ p, p < n + 1 → F p 0 = 0 := fun p hp => by
    apply Classical.byContradiction; intro h; exact hno ⟨p,hp,h⟩
   have := hk (fun k => if k = 0 then 1 else 0) (fun i hi => by
    rw [cE]
    intro k hk
    by_cases e:k = 0
    ·subst e; rw [hz i hi]; grind
    ·simp only [if_neg e]; grind) 0 zo
   simp only [if_true] at this
   have:=congrArg Qi.re this; revert this; decide
  obtain ⟨p,hp,hpz⟩:=hpz
  have hN4:1 ≤ 4 * N * N:=Nat.mul_pos zo zo
  obtain ⟨y, e, he, ge, gy, hy⟩ := a3q (F := fun i => F (We p 0 i)) (n := n) (N := N) (by simpa [We] using hpz) hN (fun i hi j hj => hF _ (Kz hp zo hi) j hj)
   (fun v hv=>hk v ((Mv hp zo).1 hv)) (fun G hG hGk=>Ql n (4 * N * N) G hN4 hG hGk)
  refine ⟨y,e,he,ge,gy,fun i hi=>?_⟩
  have:=hy (We p 0 i) (Kz hp zo hi)
  simp only [Wf] at this
  exact this
theorem Ud {N:Nat}:∀ {n:Nat},n ≤ 4 → 1 ≤ N → fs n N ≤ 1610612736 * N ^ 15:=by
 intro n hn hN
 have hp:∀ k,k ≤ 15 → N ^ k ≤ N ^ 15:=fun k hk=>Nat.pow_le_pow_right hN hk
 have h0:=hp 0 zo; have h1:=hp 1 zo; have h3:=hp 3 zo; have h7:=hp 7 zo
 match n,hn with
 | 0,_=>rw [fs]; rw [Nat.pow_zero] at h0; omega
 | 1,_=>simp only [fs]; rw [show 2 * (0 + 1) * N * 1 = 2 * N ^ 1 by grind]; omega
 | 2,_=>simp only [fs]; rw [show 2 * (1 + 1) * N * (2 * (0 + 1) * (4 * N * N) * 1) = 32 * N ^ 3 by grind]; omega
 | 3,_=>simp only [fs]; rw [show 2 * (2 + 1) * N * (2 * (1 + 1) * (4 * N * N) * (2 * (0 + 1) * (4 * (4 * N * N) * (4 * N * N)) * 1)) = 12288 * N ^ 7 by grind]; omega
 | 4,_=>simp only [fs]; rw [show 2 * (3 + 1) * N * (2 * (2 + 1) * (4 * N * N) * (2 * (1 + 1) * (4 * (4 * N * N) * (4 * N * N)) * (2 * (0 + 1) * (4 * (4 * (4 * N * N) * (4 * N * N)) * (4 * (4 * N * N) * (4 * N * N))) * 1))) = 1610612736 * N ^ 15 by grind]; omega
theorem Bv (x:Qi):((x.den:Int):Rat) * x.re = (x.a:Rat) ∧ ((x.den:Int):Rat) * x.im = (x.b:Rat):=by
 have h:=Qi.nc x.den_pos
 have h2:((x.den:Int):Rat) = (x.den:Rat):=by push_cast; rfl
 rw [h2]
 exact ⟨by rw [Qi.re_eq x]; grind,by rw [Qi.im_eq x]; grind⟩
theorem Cv {L : Nat} {x : Nat → Qi} : ∀ k, (∀ j, j < k → aF (x j) L) → ∃ d : Nat, 0 < d ∧ d ≤ BB ^ (k * L) ∧ ∀ j, j < k → Gb (Qi.ofInt d * x j) (BB ^ (k * L))
 | 0,_=>⟨1,by decide,Nat.pow_pos eN,fun j hj=>by omega⟩
 | k + 1, h => by
  obtain ⟨d,d0,dl,hd⟩:=Cv k fun j hj=>h j zo
  have hx:=(h k zo).fit
  have hm:=Bv (x k)
  have hpow:BB ^ ((k + 1) * L) = BB ^ (k * L) * BB ^ L:=by rw [Nat.succ_mul,Nat.pow_add]
  refine ⟨d * (x k).den,Nat.mul_pos d0 (x k).den_pos,?_,fun j hj=>?_⟩
  ·rw [hpow]; exact Nat.mul_le_mul dl (Nat.le_of_lt hx.2.2)
  ·by_cases e : j = k
   ·subst e
    refine ⟨d * (x j).a,d * (x j).b,Qi.ext' ?_ ?_,?_,?_⟩
    ·rw [Qi.mul_re]
     show (((d * (x j).den:Nat):Int):Rat) * (x j).re - 0 * (x j).im = ((d * (x j).a:Int):Rat)
     have:=hm.1; push_cast at *; grind
    ·rw [Qi.mul_im]
     show (((d * (x j).den:Nat):Int):Rat) * (x j).im + 0 * (x j).re = ((d * (x j).b:Int):Rat)
     have:=hm.2; push_cast at *; grind
    ·rw [hpow]; exact rT (by simpa using dl) (Nat.le_of_lt hx.1)
    ·rw [hpow]; exact rT (by simpa using dl) (Nat.le_of_lt hx.2.1)
   ·obtain ⟨p, q, e1, h1, h2⟩ := hd j zo
    have er:=congrArg Qi.re e1; have ei:=congrArg Qi.im e1
    rw [Qi.mul_re] at er; rw [Qi.mul_im] at ei
    refine ⟨p * (x k).den,q * (x k).den,Qi.ext' ?_ ?_,?_,?_⟩
    ·rw [Qi.mul_re]
     have er:((d:Int):Rat) * (x j).re - 0 * (x j).im = (p:Rat):=er
     show (((d * (x k).den:Nat):Int):Rat) * (x j).re - 0 * (x j).im = ((p * (x k).den:Int):Rat)
     push_cast at *; grind
    ·rw [Qi.mul_im]
     have ei:((d:Int):Rat) * (x j).im + 0 * (x j).re = (q:Rat):=ei
     show (((d * (x k).den:Nat):Int):Rat) * (x j).im + 0 * (x j).re = ((q * (x k).den:Int):Rat)
     push_cast at *; grind
    ·rw [hpow]; exact rT h1 (by simpa using Nat.le_of_lt hx.2.2)
    ·rw [hpow]; exact rT h2 (by simpa using Nat.le_of_lt hx.2.2)
theorem Fc {d : Nat} (h : 0 < d) : Qi.ofInt d ≠ 0 := fun e => by
 have:=congrArg Qi.re e
 have h2:((d:Int):Rat) = ((0:Int):Rat):=this
 rw [Rat.intCast_inj] at h2; omega
def a24 (L:Nat):Nat:=4 * (75 * L + 1) + 2
theorem a27 {M:List (List Qi)} {b:List Qi} {n L:Nat} (h:cB M n n) (hM:bE M L) (hb:bI b L) (hL:1 ≤ L) (hn:n ≤ 4) (hE:jO M b n = 0):bI (iK M b n) (a24 L):=by
 obtain ⟨s1,s2⟩:=mC h hE
 have hrow : ∀ i, ∃ d : Nat, 0 < d ∧ ∀ j, j < n + 1 → Gb (Qi.ofInt d * (if j < n then gm M i j else gv b i)) (BB ^ (5 * L)) := fun i => by
  obtain ⟨d, d0, _, hd⟩ := Cv (L := L) (x := fun j => if j < n then gm M i j else gv b i) (n + 1) fun j _ => by
   show aF (if j < n then gm M i j else gv b i) L
   split
   ·exact hM.get hL i j
   ·exact hb.get hL i
  exact ⟨d,d0,fun j hj=>(hd j hj).le (Nat.pow_le_pow_right eN (Nat.mul_le_mul_right _ zo))⟩
 have hd:∃ d:Nat → Nat,∀ i,0 < d i ∧ ∀ j,j < n + 1 → Gb (Qi.ofInt (d i) * (if j < n then gm M i j else gv b i)) (BB ^ (5 * L)):=⟨fun i=>Classical.choose (hrow i),fun i=>Classical.choose_spec (hrow i)⟩
 obtain ⟨d,hd⟩:=hd
 have cancel : ∀ {i : Nat} {u : Qi}, Qi.ofInt (d i) * u = 0 → u = 0 := fun {i u} hu => by
  rcases gL hu with k | k
  ·exact absurd k (Fc (hd i).1)
  ·exact k
 have hsum : ∀ (i : Nat) (v : Nat → Qi), aC n (fun k => Qi.ofInt (d i) * (if k < n then gm M i k else gv b i) * v k) = Qi.ofInt (d i) * aC n (fun k => gm M i k * v k) := fun i v => by
  rw [Qi.mul_comm',← iL]
  exact aA fun k hk=>by rw [if_pos hk]; grind
 have hN:1 ≤ BB ^ (5 * L):=Nat.pow_pos eN
 obtain ⟨y, e, he, ge, gy, hy⟩ := Ql n (BB ^ (5 * L)) (fun i j => Qi.ofInt (d i) * (if j < n then gm M i j else gv b i)) hN (fun i _ j hj => (hd i).2 j zo) (fun v hv => s2 v fun i hi => by
  have:=hv i hi
  simp only [] at this
  rw [hsum] at this
  exact cancel this)
 have hbig : fs n (BB ^ (5 * L)) < BB ^ (75 * L + 1) := by
  refine Nat.lt_of_le_of_lt (Ud hn hN) ?_
  rw [← Nat.pow_mul,show 5 * L * 15 = 75 * L by omega,Nat.pow_succ,Nat.mul_comm]
  exact Nat.mul_lt_mul_of_pos_left (by decide) (Nat.pow_pos eN)
 have hsol : ∀ k, k < n → y k - e * gv (iK M b n) k = 0 := s2 (fun k => y k - e * gv (iK M b n) k) fun i hi => by
  have h1:=hy i hi
  rw [hsum,if_neg zo] at h1
  have h2:=s1 i hi
  have h3 : aC n (fun k => gm M i k * (y k - e * gv (iK M b n) k)) = aC n (fun k => gm M i k * y k) - e * aC n (fun k => gm M i k * gv (iK M b n) k) := by
   rw [← pN]; exact aA fun k _=>by grind
  rw [h3,h2]
  exact cancel (i:=i) (by grind)
 intro x hx
 obtain ⟨k,hk,rfl⟩:=List.mem_iff_getElem.1 hx
 rw [uW] at hk
 have hg:(iK M b n)[k] = gv (iK M b n) k:=by simp [gv,List.getD,uW,hk]
 rw [hg]
 have e1:gv (iK M b n) k = y k / e:=(Ej he (by have:=hsol k hk; grind)).symm
 haveI f1:aF (y k) (75 * L + 1):=(gy k hk).fit hbig zo
 haveI f2:aF e (75 * L + 1):=ge.fit hbig zo
 rw [e1]
 exact (fitDiv (x:=y k) (y:=e)).le (by unfold a24; omega)
theorem Xv {M : List (List Qi)} {n L : Nat} (h : cB M n n) (hM : bE M L) (hL : 1 ≤ L) (hn : n ≤ 4) (hE : pY M n = 0) : bE (rF M n) (a24 L) := fun r hr => by
 obtain ⟨i,_,rfl⟩:=dR.1 hr
 exact bI.tab fun j hj=>(a27 h hM (Qj hL) hL hn (yD hE j hj)).get (by unfold a24; omega) i
end
section
open Go Go.RowKit
theorem a28 {M:List (List Qi)} {b:List Qi} {n m L K:Nat} (h:cB M n n) (hM:bE M L) (hb:bI b L) (hL:1 ≤ L) (hn:n ≤ m) (hbig:fs n (BB ^ ((m + 1) * L)) < BB ^ K) (hK:1 ≤ K) (hE:jO M b n = 0):bI (iK M b n) (4 * K + 2):=by
 obtain ⟨s1,s2⟩:=mC h hE
 have hrow : ∀ i, ∃ d : Nat, 0 < d ∧ ∀ j, j < n + 1 → Gb (Qi.ofInt d * (if j < n then gm M i j else gv b i)) (BB ^ ((m + 1) * L)) := fun i => by
  obtain ⟨d, d0, _, hd⟩ := Cv (L := L) (x := fun j => if j < n then gm M i j else gv b i) (n + 1) fun j _ => by
   show aF (if j < n then gm M i j else gv b i) L
   split
   ·exact hM.get hL i j
   ·exact hb.get hL i
  exact ⟨d,d0,fun j hj=>(hd j hj).le (Nat.pow_le_pow_right eN (Nat.mul_le_mul_right _ zo))⟩
 have hd:∃ d:Nat → Nat,∀ i,0 < d i ∧ ∀ j,j < n + 1 → Gb (Qi.ofInt (d i) * (if j < n then gm M i j else gv b i)) (BB ^ ((m + 1) * L)):=⟨fun i=>Classical.choose (hrow i),fun i=>Classical.choose_spec (hrow i)⟩
 obtain ⟨d,hd⟩:=hd
 have cancel : ∀ {i : Nat} {u : Qi}, Qi.ofInt (d i) * u = 0 → u = 0 := fun {i u} hu => by
  rcases gL hu with k | k
  ·exact absurd k (Fc (hd i).1)
  ·exact k
 have hsum : ∀ (i : Nat) (v : Nat → Qi), aC n (fun k => Qi.ofInt (d i) * (if k < n then gm M i k else gv b i) * v k) = Qi.ofInt (d i) * aC n (fun k => gm M i k * v k) := fun i v => by
  rw [Qi.mul_comm',← iL]
  exact aA fun k hk=>by rw [if_pos hk]; grind
 have hN:1 ≤ BB ^ ((m + 1) * L):=Nat.pow_pos eN
 obtain ⟨y, e, he, ge, gy, hy⟩ := Ql n (BB ^ ((m + 1) * L)) (fun i j => Qi.ofInt (d i) * (if j < n then gm M i j else gv b i)) hN (fun i _ j hj => (hd i).2 j zo) (fun v hv => s2 v fun i hi => by
  have:=hv i hi
  simp only [] at this
  rw [hsum] at this
  exact cancel this)
 have hsol : ∀ k, k < n → y k - e * gv (iK M b n) k = 0 := s2 (fun k => y k - e * gv (iK M b n) k) fun i hi => by
  have h1:=hy i hi
  rw [hsum,if_neg zo] at h1
  have h2:=s1 i hi
  have h3 : aC n (fun k => gm M i k * (y k - e * gv (iK M b n) k)) = aC n (fun k => gm M i k * y k) - e * aC n (fun k => gm M i k * gv (iK M b n) k) := by
   rw [← pN]; exact aA fun k _=>by grind
  rw [h3,h2]
  exact cancel (i:=i) (by grind)
 intro x hx
 obtain ⟨k,hk,rfl⟩:=List.mem_iff_getElem.1 hx
 rw [uW] at hk
 have hg:(iK M b n)[k] = gv (iK M b n) k:=by simp [gv,List.getD,uW,hk]
 rw [hg]
 have e1:gv (iK M b n) k = y k / e:=(Ej he (by have:=hsol k hk; grind)).symm
 haveI f1:aF (y k) K:=(gy k hk).fit hbig hK
 haveI f2:aF e K:=ge.fit hbig hK
 rw [e1]
 exact (fitDiv (x:=y k) (y:=e)).le zo
end
section
open Go Go.RowKit
def ixG (l : List Nat) (p : Nat) : Nat → Int
 | 0=>-1
 | k + 1=>if l.getD (l.length - (k + 1)) 0 = p then ((l.length - (k + 1):Nat):Int) else ixG l p k
def Ul (l:List Nat) (p:Nat):Int:=ixG l p l.length
theorem a5o (l : List Nat) (p : Nat) : ∀ k, ixG l p k = -1 ∨ (0 ≤ ixG l p k ∧ (ixG l p k).toNat < l.length ∧ l.getD (ixG l p k).toNat 0 = p) ∨ l.length < k
 | 0=>.inl rfl
 | k + 1 => by
  rw [ixG]
  by_cases c:l.length < k + 1
  ·exact .inr (.inr c)
  ·by_cases e : l.getD (l.length - (k + 1)) 0 = p
   ·rw [if_pos e]; exact .inr (.inl ⟨by omega,by rw [Int.toNat_natCast]; omega,by rw [Int.toNat_natCast]; exact e⟩)
   ·rw [if_neg e]
    rcases a5o l p k with h | h | h
    ·exact .inl h
    ·exact .inr (.inl h)
    ·omega
theorem a5n (l:List Nat) (p:Nat):Ul l p = -1 ∨ (0 ≤ Ul l p ∧ (Ul l p).toNat < l.length ∧ l.getD (Ul l p).toNat 0 = p):=by
 rcases a5o l p l.length with h | h | h
 ·exact .inl h
 ·exact .inr h
 ·omega
theorem a13 {l : List Nat} {p : Nat} : ∀ {k : Nat}, k ≤ l.length → ixG l p k < 0 → ∀ x, l.length - k ≤ x → x < l.length → l.getD x 0 ≠ p
 | 0,_,_,x,h1,h2=>by omega
 | k + 1, hk, h, x, h1, h2 => by
  rw [ixG] at h
  by_cases e:l.getD (l.length - (k + 1)) 0 = p
  ·rw [if_pos e] at h; omega
  ·rw [if_neg e] at h
   by_cases c:x = l.length - (k + 1)
   ·rw [c]; exact e
   ·exact a13 (k:=k) zo h x zo h2
theorem Um {l:List Nat} {p:Nat}:0 ≤ Ul l p ↔ p ∈ l:=by
 constructor
 ·intro h
  rcases a5n l p with k | ⟨_,k1,k2⟩
  ·omega
  ·rw [← k2,show l.getD (Ul l p).toNat 0 = l[(Ul l p).toNat] by simp [List.getD,k1]]; exact List.getElem_mem k1
 ·intro h
  apply Classical.byContradiction; intro hn
  obtain ⟨x,hx,e⟩:=List.getElem_of_mem h
  exact a13 (l:=l) (p:=p) (Nat.le_refl _) (show ixG l p l.length < 0 by have:¬ 0 ≤ ixG l p l.length:=hn; omega) x zo hx (by rw [show l.getD x 0 = l[x] by simp [List.getD,hx]]; exact e)
def jnO (js:List (Int × Int)):List Nat:=tab (2 * js.length) fun x=>gq (dA js) (kV x)
def gnV (S:List (List Qi)) (js:List (Int × Int)) (x:Nat):List Qi:=iK (nR S (dA js) (2 * js.length)) (ek (2 * js.length) x) (2 * js.length)
def gnB (i k:Nat):Qi:=if k = i then Qi.ofInt 1 else Qi.ofInt 0
def Ai (S:List (List Qi)) (js:List (Int × Int)) (i k:Nat):Qi:=if 0 ≤ Ul (jnO js) k then gnB i k + aC (2 * js.length) (fun y=>gm S i (gq (dA js) y) * gv (gnV S js (Ul (jnO js) k).toNat) y) else gnB i k
def Ce (S:List (List Qi)) (js:List (Int × Int)) (N:Nat):List (List Qi):=(gN (lQ js) N).map fun i=>tab N fun k=>Ai S js i k
end
section
open Go Go.RowKit
def Vc (s:List (List Qi)) (g:Qi) (p:Nat):Qi:=Qi.ofInt 1 - gm s p p * g
def ntH (s:List (List Qi)) (g:Qi) (p:Nat):Qi:=Qi.ofInt 1 / Vc s g p
def Ni (s:List (List Qi)) (g:Qi) (p n i:Nat):List Qi:=((tab n fun _=>Qi.zero).set i (Qi.ofInt 1)).set p (gm s i p * kW s p g)
def ntA (s:List (List Qi)) (g:Qi) (p n k:Nat):List (List Qi):=(gN [p] k).map (Ni s g p n)
def ntU (s:List (List Qi)) (g:Qi) (p k:Nat):List Qi:=(gN [p] k).map fun i=>gm s i p * ntH s g p
def Vd (z:List Qi) (g t:Qi) (p:Nat):Qi:=t * gv z p * (Qi.ofInt 1 - g * g.conj)
def ntX (z:List Qi) (s c:List (List Qi)) (g t:Qi) (p a b:Nat):Qi:=gm (wC (ntA s g p z.length z.length) c) a b + Vd z g t p * (gv (ntU s g p z.length) a * (gv (ntU s g p z.length) b).conj)
def ntC (z:List Qi) (s c:List (List Qi)) (g t:Qi) (p:Nat):List (List Qi):=tab (z.length - 1) fun a=>tab (z.length - 1) fun b=>ntX z s c g t p a b
theorem yI {p n:Nat} (h:p < n):(gN [p] n).length = n - 1:=by rw [rR,aE,tI h]
theorem a2n {z:List Qi} {s:List (List Qi)} {port:Int} {g:Qi} (h:oQ z s port g = 0):(1 ≤ port ∧ port ≤ z.length) ∧ z.length ≠ 1 ∧ Vc s g (port - 1).toNat ≠ 0:=by
 rw [oQ] at h
 by_cases c1:1 ≤ port ∧ port ≤ z.length
 ·rw [if_neg (fun k => k c1)] at h
  by_cases c2:z.length = 1
  ·rw [if_pos c2] at h; omega
  ·rw [if_neg c2] at h
   by_cases c3:Qi.ofInt 1 - gm s (port - 1).toNat (port - 1).toNat * g = Qi.zero
   ·rw [if_pos c3] at h; omega
   ·exact ⟨c1,c2,c3⟩
 ·rw [if_pos c1] at h; omega
theorem a6n {f:Nat → Qi} {l:List Nat} {a:Nat} (h:a < l.length):gv (l.map f) a = f (cR l a):=by simp [gv,cR,List.getD,h]
theorem Qm {f:Nat → List Qi} {l:List Nat} {a k:Nat} (h:a < l.length):gm (l.map f) a k = gv (f (cR l a)) k:=by simp [gm,cR,List.getD,h]
section
variable {z:List Qi} {s c:List (List Qi)} {g t:Qi} {p:Nat}
theorem Nj {n i k:Nat} (hi:i < n) (hp:p < n) (hk:k < n):gv (Ni s g p n i) k = if k = p then gm s i p * kW s p g else if k = i then Qi.ofInt 1 else Qi.zero:=by
 rw [Ni,tN (by rw [List.length_set,aE]; exact hp)]
 by_cases e:k = p
 ·rw [if_pos e,if_pos e]
 ·rw [if_neg e, if_neg e, tN (by rw [aE]; exact hi)]
  by_cases e2:k = i
  ·rw [if_pos e2,if_pos e2]
  ·rw [if_neg e2,if_neg e2,gF hk]
theorem a41 (s:List (List Qi)) (g:Qi) {n:Nat} (h:p < n):cB (ntA s g p n n) (n - 1) n:=by
 refine ⟨by rw [ntA,List.length_map,yI h],fun r hr=>?_⟩
 obtain ⟨i,_,rfl⟩:=List.mem_map.1 hr
 rw [Ni,List.length_set,List.length_set,aE]
theorem a4T {S : List (List Qi)} {n x : Nat} {d sp : Qi} (hnp : gm S n p = 0) (hnn : gm S n n = g) (hpn : gm S p n = 0) (hpp : gm S p p = sp) (hd : d = 1 - sp * g) (hd0 : d ≠ 0) (hx : x < 2) :
  gv (gnV S (J1 p n) x) 0 = (if x = 0 then 1 / d else g / d):=by
 have hk : Wn (gm S) p n := fun v0 v1 h0 h1 => by
  rw [hnp,hnn] at h0
  rw [hpp,hpn] at h1
  have e:v1 * d = 0:=by rw [hd]; grind
  rcases gL e with k | k
  ·exact ⟨by rw [h0,k]; grind,k⟩
  ·exact absurd k hd0
 have hE:jO (nR S [(p,n)] 2) (ek 2 x) 2 = 0:=Cn.2 hk
 have hs:=(mC (nS S [(p,n)] 2) hE).1
 have hgn:gnV S (J1 p n) x = iK (nR S [(p,n)] 2) (ek 2 x) 2:=by rw [gnV,Xx]; rfl
 rw [hgn]
 obtain ⟨r0,r1⟩:=a4B (S:=S) (p:=p) (q:=n) (v:=gv (iK (nR S [(p,n)] 2) (ek 2 x) 2))
 have h0:=hs 0 zo
 have h1:=hs 1 zo
 rw [r0,hnp,hnn] at h0
 rw [r1,hpp,hpn] at h1
 generalize gv (iK (nR S [(p,n)] 2) (ek 2 x) 2) 0 = v0 at *
 generalize gv (iK (nR S [(p,n)] 2) (ek 2 x) 2) 1 = v1 at *
 have c:x = 0 ∨ x = 1:=by omega
 rcases c with rfl | rfl
 ·rw [if_pos rfl]
  rw [show gv (ek 2 0) 0 = 1 from rfl] at h0
  rw [show gv (ek 2 0) 1 = 0 from rfl] at h1
  exact (Ej hd0 (by rw [hd]; grind)).symm
 ·rw [if_neg (by decide)]
  rw [show gv (ek 2 1) 0 = 0 from rfl] at h0
  rw [show gv (ek 2 1) 1 = 1 from rfl] at h1
  exact (Ej hd0 (by rw [hd]; grind)).symm
abbrev jD (s:List (List Qi)) (g:Qi) (n:Nat):List (List Qi):=nI s [[g]] n 1
theorem So {n:Nat} (hp:p < n):gm (jD s g n) n p = 0 ∧ gm (jD s g n) n n = g ∧ gm (jD s g n) p n = 0 ∧ gm (jD s g n) p p = gm s p p:=by
 refine ⟨?_,?_,?_,?_⟩
 ·rw [dP zo zo,if_neg zo,if_neg zo]; rfl
 ·rw [dP zo zo,if_neg zo,if_pos zo,Nat.sub_self]; rfl
 ·rw [dP zo zo,if_pos hp,if_neg zo]; rfl
 ·rw [dP zo zo,if_pos hp,if_pos hp]
theorem a8D {n:Nat}:jnO (J1 p n) = [n,p]:=by
 have e:jnO (J1 p n) = [gq (dA (J1 p n)) (kV 0),gq (dA (J1 p n)) (kV 1)]:=rfl
 rw [e,Xx]; rfl
theorem a6r {n k:Nat} (hpn:p ≠ n):Ul [n,p] k = if k = n then 0 else if k = p then 1 else -1:=by
 have e:Ul [n,p] k = if n = k then ((0:Nat):Int) else if p = k then ((1:Nat):Int) else -1:=rfl
 rw [e]
 by_cases c:k = n
 ·rw [if_pos c.symm,if_pos c]; rfl
 ·rw [if_neg (Ne.symm c), if_neg c]
  by_cases c2:k = p
  ·rw [if_pos c2.symm,if_pos c2]; rfl
  ·rw [if_neg (Ne.symm c2),if_neg c2]
theorem Uf {n i k:Nat} (hp:p < n) (hi:i < n) (hip:i ≠ p) (hk:k < n + 1) (hd:Vc s g p ≠ 0):Ai (jD s g n) (J1 p n) i k = if k < n then gv (Ni s g p n i) k else gm s i p * ntH s g p:=by
 obtain ⟨b1,b2,b3,b4⟩:=So (s:=s) (g:=g) hp
 have hin:gm (jD s g n) i n = 0:=by rw [dP zo zo,if_pos hi,if_neg zo]; rfl
 have hip2:gm (jD s g n) i p = gm s i p:=by rw [dP zo zo,if_pos hi,if_pos hp]
 have hdd:Vc s g p = 1 - gm s p p * g:=rfl
 have sol:=fun x (hx:x < 2)=>a4T (S:=jD s g n) (x:=x) b1 b2 b3 b4 hdd hd hx
 have hsum : ∀ v : List Qi, aC (2 * (J1 p n).length) (fun y => gm (jD s g n) i (gq (dA (J1 p n)) y) * gv v y) = gm s i p * gv v 0 := fun v => by
  show aC 2 (fun y=>gm (jD s g n) i (gq (dA (J1 p n)) y) * gv v y) = _
  rw [Kw,Xx,show gq [(p,n)] 0 = p from rfl,show gq [(p,n)] 1 = n from rfl,hin,hip2]; grind
 rw [Ai,a8D,a6r zo]
 by_cases c:k = n
 ·rw [if_pos c, if_pos (by decide), hsum, gnB, if_neg zo, if_neg zo]
  rw [show (0:Int).toNat = 0 from rfl,sol 0 zo,if_pos rfl]
  show Qi.ofInt 0 + gm s i p * (1 / Vc s g p) = gm s i p * ntH s g p
  rw [show ntH s g p = 1 / Vc s g p from rfl,show Qi.ofInt 0 = (0:Qi) from rfl]; grind
 ·rw [if_neg c, if_pos (show k < n by omega), Nj hi hp zo]
  by_cases c2:k = p
  ·rw [if_pos c2, if_pos (by decide), hsum, gnB, if_neg zo, if_pos c2]
   rw [show (1:Int).toNat = 1 from rfl,sol 1 zo,if_neg (by decide)]
   rw [show kW s p g = g / Vc s g p from rfl,show Qi.ofInt 0 = (0:Qi) from rfl]; grind
  ·rw [if_neg c2,if_neg (by decide),gnB,if_neg c2]; rfl
theorem Cj {n:Nat} (hp:p < n):gN (lQ (J1 p n)) (n + 1) = gN [p] n:=by
 rw [a6u,gN,if_pos (by simp),List.append_nil]
 have : ∀ k, k ≤ n → gN [p, n] k = gN [p] k := fun k => by
  induction k with
  | zero=>intro _; rfl
  | succ k ih =>
   intro hk
   rw [gN,gN,ih zo]
   have e:(k ∈ [p,n]) ↔ (k ∈ [p]):=by simp; omega
   by_cases c:k ∈ [p]
   ·rw [if_pos c,if_pos (e.2 c)]
   ·rw [if_neg c,if_neg fun h=>c (e.1 h)]
 exact this n (Nat.le_refl n)
theorem gU (n:Nat) (f:Nat → Qi):aC (n + 1) f = aC n f + f n:=rfl
theorem a1s {n:Nat} {r:Qi} (hn:z.length = n) (hp:p < n) (hc:cB c n n) (hd:Vc s g p ≠ 0) (hr:r = Vd z g t p):wC (Ce (jD s g n) (J1 p n) (n + 1)) (nI c [[r]] n 1) = ntC z s c g t p:=by
 have hl:(Ce (jD s g n) (J1 p n) (n + 1)).length = n - 1:=by rw [Ce,List.length_map,Cj hp,yI hp]
 have yB:=yI hp
 have hq : ∀ a, a < n - 1 → cR (gN [p] n) a < n ∧ cR (gN [p] n) a ≠ p := fun a ha => by
  refine ⟨sA (fun x hx=>wX hx) zo,?_⟩
  rw [rR,sW (by rw [tI hp]; exact ha)]
  unfold lI; split <;> omega
 have hP : ∀ a k, a < n - 1 → k < n + 1 → gm (Ce (jD s g n) (J1 p n) (n + 1)) a k = if k < n then gm (ntA s g p n n) a k else gv (ntU s g p n) a := fun a k ha hk => by
  rw [Ce,Cj hp,Qm zo,gF hk,Uf hp (hq a ha).1 (hq a ha).2 hk hd,ntA,Qm zo,ntU,a6n zo]
 have hcl:=hc.1
 have hsl:=(mV c [[r]] n 1).1
 unfold wC ntC
 rw [hl,hn,hsl]
 refine bR fun a ha=>bR fun b hb=>?_
 have e1 : a64 (Ce (jD s g n) (J1 p n) (n + 1)) (nI c [[r]] n 1) (n + 1) a b = aC n (fun x => aC n fun y => Bp (ntA s g p n n) c a b x y) + gv (ntU s g p n) a * r * (gv (ntU s g p n) b).conj := by
  rw [a64,gU]
  congr 1
  ·refine aA fun x hx => ?_
   rw [gU]
   have z0 : Bp (Ce (jD s g n) (J1 p n) (n + 1)) (nI c [[r]] n 1) a b x n = 0 := by
    rw [Bp,dP zo zo,if_pos hx,if_neg zo,q0]; grind
   rw [z0]
   have e2 : aC n (fun y => Bp (Ce (jD s g n) (J1 p n) (n + 1)) (nI c [[r]] n 1) a b x y) = aC n fun y => Bp (ntA s g p n n) c a b x y := aA fun y hy => by
    rw [Bp,Bp,dP zo zo,if_pos hx,if_pos hy,hP a x ha zo,hP b y hb zo,if_pos hx,if_pos hy]
   rw [e2]; grind
  ·rw [gU]
   have e2 : aC n (fun y => Bp (Ce (jD s g n) (J1 p n) (n + 1)) (nI c [[r]] n 1) a b n y) = 0 := cE fun y hy => by
    rw [Bp,dP zo zo,if_neg zo,if_neg zo,q0]; grind
   rw [e2,Bp,hP a n ha zo,hP b n hb zo,if_neg zo,if_neg zo,dP zo zo,if_neg zo,if_pos (Nat.le_refl n),Nat.sub_self,show gm [[r]] 0 0 = r from rfl]
   grind
 rw [e1,ntX,hn]
 have hA:=a41 s g hp
 have e3 : gm (wC (ntA s g p n n) c) a b = aC n (fun x => aC n fun y => Bp (ntA s g p n n) c a b x y) := by
  rw [wC,eI (by rw [hA.1]; exact ha) (by rw [hA.1]; exact hb),hcl]; rfl
 rw [e3,hr]; grind
theorem a1d {zp:Qi}:sS t (iA [zp] [[g]]) 1 = [[t * (zp * (Qi.ofInt 1 - g * g.conj))]]:=by
 have e:sS t (iA [zp] [[g]]) 1 = [[t * (zp - (Qi.zero + (Qi.zero + g * zp * g.conj)))]]:=rfl
 rw [e,q0,q1]
 have e2:t * (zp - (0 + (0 + g * zp * g.conj))) = t * (zp * (1 - g * g.conj)):=by grind
 rw [e2]
theorem Qy:t * (gv z p * (Qi.ofInt 1 - g * g.conj)) = Vd z g t p:=by rw [Vd]; grind
theorem a00 {n:Nat} (hp:p < n) (hd:Vc s g p ≠ 0):Wn (gm (jD s g n)) p n:=by
 obtain ⟨b1,b2,b3,b4⟩:=So (s:=s) (g:=g) hp
 intro v0 v1 h0 h1
 rw [b1,b2] at h0
 rw [b3,b4] at h1
 have e:v1 * Vc s g p = 0:=by rw [show Vc s g p = 1 - gm s p p * g from rfl]; grind
 rcases gL e with k | k
 ·exact ⟨by rw [h0,k]; grind,k⟩
 ·exact absurd k hd
theorem a2K {n : Nat} (hn : z.length = n) (hp : p < n) : Be (z ++ [gv z p]) (J1 p n) = 0 := iB fun i hi => by
 obtain rfl:i = 0:=by simp at hi; omega
 refine a19 (l:=[]) rfl rfl (by rw [List.length_append]; omega) (by rw [List.length_append]; simp; omega) (by simp) (by simp) zo ?_
 have e1:gv (z ++ [gv z p]) p = gv z p:=by simp [gv,List.getD,List.getElem?_append_left (show p < z.length by omega)]
 have e2:gv (z ++ [gv z p]) n = gv z p:=by subst hn; simp [gv,List.getD]
 rw [e1,e2]
end
end
section
open Go Go.RowKit
theorem Qz {A B C : List (List Qi)} {n : Nat} : oF (oF A B n n n) C n n n = oF A (oF B C n n n) n n n := lB nT nT fun i hi j hj => by
 rw [nU hi hj,nU hi hj]
 have e1 : aC n (fun t => gm (oF A B n n n) i t * gm C t j) = aC n fun t => aC n fun u => gm A i u * gm B u t * gm C t j := aA fun t ht => by
  rw [nU hi ht,← iL]
 have e2 : aC n (fun u => gm A i u * gm (oF B C n n n) u j) = aC n fun u => aC n fun t => gm A i u * gm B u t * gm C t j := aA fun u hu => by
  rw [nU hu hj,Qi.mul_comm',← iL]
  exact aA fun t _=>by grind
 rw [e1,e2,iX]
theorem wK {n i j:Nat} (hi:i < n) (hj:j < n):gm (rQ n) i j = if i = j then 1 else 0:=zN hi hj
theorem a0D {n j i:Nat} (hi:i < n) (hj:j < n):gv (ek n j) i = if i = j then 1 else 0:=by
 have h:gv (ek n j) i = if j = i then 1 else 0:=wK (n:=n) hj hi
 rw [h]
 by_cases c:i = j
 ·rw [if_pos c,if_pos c.symm]
 ·rw [if_neg c,if_neg (Ne.symm c)]
theorem a5m {M : List (List Qi)} {n : Nat} (h : cB M n n) (hE : pY M n = 0) : oF M (rF M n) n n n = rQ n := lB nT (nQ n) fun i hi j hj => by
 have hs:=(mC h (yD hE j hj)).1 i hi
 rw [nU hi hj,wK hi hj,← a0D hi hj,← hs]
 exact aA fun t ht=>by rw [show gm (rF M n) t j = gv (iK M (ek n j) n) t from eI ht hj]
theorem a3M {M X : List (List Qi)} {n : Nat} (h : oF X M n n n = rQ n) {y : Nat → Qi} (hy : ∀ i, i < n → aC n (fun k => gm M i k * y k) = 0) : ∀ k, k < n → y k = 0 := fun k hk => by
 have e1:aC n (fun i=>gm X k i * aC n (fun t=>gm M i t * y t)) = 0:=cE fun i hi=>by rw [hy i hi]; grind
 have e2 : aC n (fun i => gm X k i * aC n (fun t => gm M i t * y t)) = aC n fun i => aC n fun t => gm X k i * gm M i t * y t := aA fun i _ => by
  rw [Qi.mul_comm',← iL]; exact aA fun t _=>by grind
 have e3 : aC n (fun t => aC n fun i => gm X k i * gm M i t * y t) = aC n fun t => gm (rQ n) k t * y t := aA fun t ht => by
  rw [← h,nU hk ht,← iL]
 rw [e2,iX,e3] at e1
 rw [bO (i:=k) hk (fun t ht hne=>by rw [wK hk ht,if_neg (Ne.symm hne)]; grind),wK hk hk,if_pos rfl] at e1
 grind
theorem Uw {M X : List (List Qi)} {n : Nat} (hM : cB M n n) (h : oF X M n n n = rQ n) : pY M n = 0 := iB fun k hk => by
 apply Classical.byContradiction; intro e
 obtain ⟨y,hy,k,hk,hne⟩:=Fr hM e
 exact hne (a3M h hy k hk)
theorem a6x {M X Y:List (List Qi)} {n:Nat} (hX:cB X n n) (hY:cB Y n n) (h:oF X M n n n = rQ n) (k:oF M Y n n n = rQ n):X = Y:=by
 rw [← a3V hX,← k,← Qz,h,a3U hY]
theorem Kn {M Y:List (List Qi)} {n:Nat} (hM:cB M n n) (hY:cB Y n n) (h:oF M Y n n n = rQ n):oF Y M n n n = rQ n:=by
 have e:=Uw hY h
 have r:=a5m hY e
 rw [a6x hM (Et Y n) h r]; exact r
theorem a5l {M:List (List Qi)} {n:Nat} (h:cB M n n) (hE:pY M n = 0):oF (rF M n) M n n n = rQ n:=Kn h (Et M n) (a5m h hE)
theorem a4x {M Y:List (List Qi)} {n:Nat} (hM:cB M n n) (hY:cB Y n n) (h:oF M Y n n n = rQ n):pY M n = 0:=Uw hM (Kn hM hY h)
section
variable {a b:Qi} {A B C:List (List Qi)} {d e:Nat → Qi} {n:Nat}
end
theorem q2:Qi.ofInt 2 = 2:=rfl
theorem a8C:yB * 2 = 1:=a3w
theorem a6O {M:List (List Qi)} {n:Nat} (h:pY M n = 0):ovE M n = 0:=if_pos h
section
variable {z:List Qi} {s:List (List Qi)}
end
end
section
open Go Go.RowKit
theorem Cb {n C k : Nat} (h : ∀ N, 1 ≤ N → fs n N ≤ C * N ^ k) : ∀ N, 1 ≤ N → fs (n + 1) N ≤ 2 * (n + 1) * C * 4 ^ k * N ^ (2 * k + 1) := fun N hN => by
 have h4:1 ≤ 4 * N * N:=Nat.mul_pos zo zo
 have a:=h (4 * N * N) h4
 have e:(4 * N * N) ^ k = 4 ^ k * (N ^ k * N ^ k):=by rw [Nat.mul_pow,Nat.mul_pow,Nat.mul_assoc]
 have e2:N ^ (2 * k + 1) = N ^ k * N ^ k * N:=by rw [Nat.pow_succ,Nat.two_mul,Nat.pow_add]
 rw [fs,e2]
 refine Nat.le_trans (Nat.mul_le_mul_left _ a) ?_
 rw [e]
 refine Nat.le_of_eq ?_
 simp only [Nat.mul_comm,Nat.mul_left_comm,Nat.mul_assoc]
theorem Ca {n C k C' k' : Nat} (h : ∀ N, 1 ≤ N → fs n N ≤ C * N ^ k) (hC : C ≤ C') (hk : k ≤ k') : ∀ N, 1 ≤ N → fs n N ≤ C' * N ^ k' := fun N hN =>
 Nat.le_trans (h N hN) (Nat.mul_le_mul hC (Nat.pow_le_pow_right hN hk))
theorem a0M {n:Nat} (hn:n ≤ 6):∀ N,1 ≤ N → fs n N ≤ (2 * 6 * (2 * 5 * 1610612736 * 4 ^ 15) * 4 ^ 31) * N ^ 63:=by
 have h4:∀ m,m ≤ 4 → ∀ N,1 ≤ N → fs m N ≤ 1610612736 * N ^ 15:=fun m hm N hN=>Ud hm hN
 have h5:∀ N,1 ≤ N → fs 5 N ≤ (2 * 5 * 1610612736 * 4 ^ 15) * N ^ 31:=Cb (h4 4 (Nat.le_refl 4))
 have h6:∀ N,1 ≤ N → fs 6 N ≤ (2 * 6 * (2 * 5 * 1610612736 * 4 ^ 15) * 4 ^ 31) * N ^ 63:=Cb h5
 by_cases a:n ≤ 4
 ·exact Ca (h4 n a) (by decide) (by decide)
 ·by_cases b : n = 5
  ·subst b; exact Ca h5 (by decide) (by decide)
  ·obtain rfl : n = 6 := by omega
   exact h6
theorem Rm {C m k M:Nat} (h:m + k = M) (hC:C < BB ^ k):C * BB ^ m < BB ^ M:=by
 subst h
 rw [Nat.pow_add,Nat.mul_comm (BB ^ m)]
 exact Nat.mul_lt_mul_of_pos_right hC (Nat.pow_pos eN)
section
variable {z:List Qi} {S c:List (List Qi)} {js:List (Int × Int)} {N:Nat}
def jnT (S:List (List Qi)) (js:List (Int × Int)):List (List Qi):=tab (2 * js.length) fun x=>tab (2 * js.length) fun y=>rdl x y - gm S (gq (dA js) (kV y)) (gq (dA js) x)
def jnV (S:List (List Qi)) (js:List (Int × Int)) (i:Nat):List Qi:=tab (2 * js.length) fun y=>gm S i (gq (dA js) y)
def Uq (S:List (List Qi)) (js:List (Int × Int)) (i:Nat):List Qi:=iK (jnT S js) (jnV S js i) (2 * js.length)
theorem yF (S:List (List Qi)) (js:List (Int × Int)):cB (jnT S js) (2 * js.length) (2 * js.length):=cB.tab
theorem Qr {x y:Nat} (hx:x < 2 * js.length) (hy:y < 2 * js.length):gm (jnT S js) x y = gm (nR S (dA js) (2 * js.length)) y x:=by
 have e1:gm (jnT S js) x y = rdl x y - gm S (gq (dA js) (kV y)) (gq (dA js) x):=eI hx hy
 have e2:gm (nR S (dA js) (2 * js.length)) y x = (if y = x then Qi.ofInt 1 else Qi.ofInt 0) - gm S (gq (dA js) (kV y)) (gq (dA js) x):=eI hy hx
 rw [e1,e2,rdl]
 by_cases c:x = y
 ·rw [if_pos c,if_pos c.symm]
 ·rw [if_neg c,if_neg (Ne.symm c)]
theorem a3A {M:List (List Qi)} {n:Nat} (h:cB M n n) (hk:∀ b,jO M b n = 0):pY M n = 0:=iB fun k _=>hk _
theorem a2C {M : List (List Qi)} {n : Nat} (h : cB M n n) (hE : pY M n = 0) (hn : 1 ≤ n) : ∀ b, jO M b n = 0 := fun b => by
 have h0:=(vY h).1 (yD hE 0 zo)
 exact (vY h).2 h0
theorem a2D {M:List (List Qi)} {n:Nat} {b:List Qi} (h:cB M n n) (hb:jO M b n = 0):∀ b,jO M b n = 0:=fun _=>(vY h).2 ((vY h).1 hb)
theorem Qs (hk:∀ b,jO (nR S (dA js) (2 * js.length)) b (2 * js.length) = 0) (hn:1 ≤ 2 * js.length):∀ b,jO (jnT S js) b (2 * js.length) = 0:=by
 have hM:=nS S (dA js) (2 * js.length)
 have hE:=a3A hM hk
 have l:=a5l hM hE
 refine a2C (yF S js) (a4x (Y:=tab (2 * js.length) fun x=>tab (2 * js.length) fun y=>gm (rF (nR S (dA js) (2 * js.length)) (2 * js.length)) y x) (yF S js) cB.tab ?_) hn
 refine lB nT (nQ _) fun i hi j hj=>?_
 have e:gm (oF (rF (nR S (dA js) (2 * js.length)) (2 * js.length)) (nR S (dA js) (2 * js.length)) (2 * js.length) (2 * js.length) (2 * js.length)) j i = gm (rQ (2 * js.length)) j i:=by rw [l]
 rw [nU hj hi,wK hj hi] at e
 rw [nU hi hj,wK hi hj]
 have e2 : aC (2 * js.length) (fun t => gm (jnT S js) i t * gm (tab (2 * js.length) fun x => tab (2 * js.length) fun y => gm (rF (nR S (dA js) (2 * js.length)) (2 * js.length)) y x) t j) = aC (2 * js.length) fun t => gm (rF (nR S (dA js) (2 * js.length)) (2 * js.length)) j t * gm (nR S (dA js) (2 * js.length)) t i := aA fun t ht => by
  rw [Qr hi ht,eI ht hj,Qi.mul_comm']
 rw [e2,e]
 by_cases c:i = j
 ·rw [if_pos c,if_pos c.symm]
 ·rw [if_neg c,if_neg (Ne.symm c)]
theorem a6w (hk:∀ b,jO (nR S (dA js) (2 * js.length)) b (2 * js.length) = 0) {i x:Nat} (hx:x < 2 * js.length):gv (Uq S js i) x = aC (2 * js.length) fun y=>gm S i (gq (dA js) y) * gv (gnV S js x) y:=by
 have hM:=nS S (dA js) (2 * js.length)
 have hT:=(mC (yF S js) (Qs hk zo (jnV S js i))).1
 have hV:=(mC hM (hk (ek (2 * js.length) x))).1
 have e1 : aC (2 * js.length) (fun y => gm S i (gq (dA js) y) * gv (gnV S js x) y) = aC (2 * js.length) fun y => aC (2 * js.length) fun w => gm (nR S (dA js) (2 * js.length)) w y * gv (Uq S js i) w * gv (gnV S js x) y := aA fun y hy => by
  have h:=hT y hy
  rw [show gv (jnV S js i) y = gm S i (gq (dA js) y) from gF hy] at h
  rw [← h,← iL]
  exact aA fun w hw=>by rw [Qr hy hw]; rfl
 have e2 : aC (2 * js.length) (fun w => aC (2 * js.length) fun y => gm (nR S (dA js) (2 * js.length)) w y * gv (Uq S js i) w * gv (gnV S js x) y) = aC (2 * js.length) fun w => gv (Uq S js i) w * gv (ek (2 * js.length) x) w := aA fun w hw => by
  have h:=hV w hw
  rw [show gv (ek (2 * js.length) x) w = aC (2 * js.length) (fun k=>gm (nR S (dA js) (2 * js.length)) w k * gv (gnV S js x) k) from h.symm,Qi.mul_comm',← iL]
  exact aA fun y _=>by grind
 rw [e1,iX,e2,bO hx (fun k hkk hne=>by rw [a0D hkk hx,if_neg hne]; grind),a0D hx hx,if_pos rfl]; grind
theorem a6q {l:List Nat} {x:Nat} (hx:x < l.length) (hinj:∀ a b,a < l.length → b < l.length → l.getD a 0 = l.getD b 0 → a = b):Ul l (l.getD x 0) = (x:Int):=by
 have hm:0 ≤ Ul l (l.getD x 0):=Um.2 (by rw [show l.getD x 0 = l[x] by simp [List.getD,hx]]; exact List.getElem_mem hx)
 rcases a5n l (l.getD x 0) with h | ⟨h1,h2,h3⟩
 ·omega
 ·have:=hinj _ _ h2 hx h3; omega
theorem Qq {x:Nat} (hx:x < 2 * js.length):(jnO js).getD x 0 = gq (dA js) (kV x):=by rw [jnO,kT hx]
theorem a6v (hj:Jn (dA js) N js.length) {x:Nat} (hx:x < 2 * js.length):Ul (jnO js) (gq (dA js) (kV x)) = (x:Int):=by
 have hl:(jnO js).length = 2 * js.length:=aE _ _
 rw [← Qq hx]
 refine a6q zo fun a b ha hb e=>?_
 rw [Qq zo,Qq zo] at e
 have:=hj.inj _ _ (pT (show a < 2 * js.length by omega)) (pT (show b < 2 * js.length by omega)) e
 have e2:=congrArg kV this
 rwa [vR,vR] at e2
theorem a5k (hj:Jn (dA js) N js.length) (hk:∀ b,jO (nR S (dA js) (2 * js.length)) b (2 * js.length) = 0) {i y:Nat} (hi:i ∉ lQ js) (hy:y < 2 * js.length):Ai S js i (gq (dA js) (kV y)) = gv (Uq S js i) y:=by
 have hne:gq (dA js) (kV y) ≠ i:=fun e=>hi (tP.2 ⟨kV y,pT hy,e⟩)
 rw [Ai,a6v hj hy,if_pos zo,Int.toNat_natCast,gnB,if_neg hne,a6w hk hy]
 rw [show Qi.ofInt 0 = (0:Qi) from rfl]; grind
theorem Ng (hE:yE z S js = 0) (hl:z.length ≤ 8):Be z js = 0 ∧ 2 * js.length ≤ 6 ∧ (∀ b,jO (nR S (dA js) (2 * js.length)) b (2 * js.length) = 0) ∧ (js.length ≠ 0 → 2 * js.length ≠ z.length):=by
 have hd : Be z js = 0 := by
  apply Classical.byContradiction; intro h
  rw [yE,if_pos h] at hE; exact h hE
 have hle:=a17 hd
 have h2 : js.length ≠ 0 → 2 * js.length ≠ z.length := fun h0 h2 => by
  rw [yE,if_neg (fun k=>k hd),if_neg h0,if_pos h2] at hE; omega
 refine ⟨hd,by omega,?_,h2⟩
 by_cases h0:js.length = 0
 ·intro b
  exact (vY (nS _ _ _)).2 fun y _ k hk=>by omega
 ·have h3 := h2 h0
  rw [yE,if_neg (fun k=>k hd),if_neg h0,if_neg h3] at hE
  have hs : Qw z S js = 0 := by
   apply Classical.byContradiction; intro h
   rw [if_neg h] at hE; omega
  have hp:=a6s hd h3
  exact a2D (nS _ _ _) (iC hs 0 zo)
end
end
section
open Go Go.RowKit
def Lc (w : Nat) : Nat → Nat
 | 0=>w
 | c + 1=>2 * Lc w c + 1
theorem sY (w : Nat) : ∀ {c d : Nat}, c ≤ d → Lc w c ≤ Lc w d
 | c,0,h=>by rw [show c = 0 by omega]; exact Nat.le_refl _
 | c, d + 1, h => by
  by_cases e:c = d + 1
  ·rw [e]; exact Nat.le_refl _
  ·have := sY w (c := c) (d := d) zo
   simp only [Lc]; omega
theorem a2s {w v : Nat} (h : w ≤ v) : ∀ c, Lc w c ≤ Lc v c
 | 0=>h
 | c + 1=>by have:=a2s h c; simp only [Lc]; omega
def rE (r:List Qi) (w:Nat):Prop:=∃ d:Qi,d ≠ 0 ∧ Gb d (BB ^ w) ∧ ∀ j,Gb (d * gv r j) (BB ^ w)
theorem rE.le {r:List Qi} {w v:Nat} (h:rE r w) (k:w ≤ v):rE r v:=by
 obtain ⟨d,d0,dg,dj⟩:=h
 have hp:BB ^ w ≤ BB ^ v:=Nat.pow_le_pow_right eN k
 exact ⟨d,d0,dg.le hp,fun j=>(dj j).le hp⟩
theorem Sa (w:Nat):2 * BB ^ w * BB ^ w + 2 * BB ^ w * BB ^ w ≤ BB ^ (2 * w + 1):=by
 have e:BB ^ (2 * w + 1) = BB ^ w * BB ^ w * BB:=by rw [Nat.pow_succ,Nat.two_mul,Nat.pow_add]
 rw [e,Nat.mul_assoc 2,← Nat.two_mul,← Nat.mul_assoc 2 2,Nat.mul_comm (2 * 2)]
 exact Nat.mul_le_mul_left _ (by decide)
theorem Js {l:List Qi} {j:Nat} (h:l.length ≤ j):gv l j = 0:=by simp [gv,List.getD,List.getElem?_eq_none h]; rfl
theorem Ue (N:Nat):Gb 0 N:=⟨0,0,Qi.ext' rfl rfl,by simp,by simp⟩
theorem rE.red {rr rc:List Qi} {c w:Nat} {P:Nat → Prop} [DecidablePred P] (h1:rE rr w) (h2:rE rc w) (hp:gv rc c ≠ 0):rE (tab rr.length fun j=>if P j then gv rr j - gv rr c / gv rc c * gv rc j else gv rr j) (2 * w + 1):=by
 obtain ⟨d,d0,dg,dj⟩:=h1
 obtain ⟨e,e0,eg,ej⟩:=h2
 have t:=Sa w
 refine ⟨d * (e * gv rc c),fun k=>?_,(dg.mul (ej c)).le zo,fun j=>?_⟩
 ·rcases gL k with k | k
  ·exact d0 k
  ·rcases gL k with k | k
   ·exact e0 k
   ·exact hp k
 ·by_cases hj : j < rr.length
  ·rw [gF hj]
   by_cases hP:P j
   ·rw [if_pos hP]
    have hd:=rY (x:=gv rr c) hp
    have ee : d * (e * gv rc c) * (gv rr j - gv rr c / gv rc c * gv rc j) = d * gv rr j * (e * gv rc c) - d * gv rr c * (e * gv rc j) := by
     have e2:d * (e * gv rc c) * (gv rr c / gv rc c * gv rc j) = d * (gv rr c / gv rc c * gv rc c) * (e * gv rc j):=by grind
     rw [hd] at e2
     grind
    rw [ee]
    exact (((dj j).mul (ej c)).sub ((dj c).mul (ej j))).le t
   ·rw [if_neg hP]
    have ee:d * (e * gv rc c) * gv rr j = d * gv rr j * (e * gv rc c):=by grind
    rw [ee]
    exact ((dj j).mul (ej c)).le zo
  ·rw [Js (l := tab rr.length fun j => if P j then gv rr j - gv rr c / gv rc c * gv rc j else gv rr j) (by rw [aE]; omega)]
   have ee:d * (e * gv rc c) * 0 = 0:=by grind
   rw [ee]; exact Ue _
theorem rE.fit {r : List Qi} {w : Nat} (h : rE r w) : bI r (4 * (w + 1) + 2) := fun x hx => by
 obtain ⟨d,d0,dg,dj⟩:=h
 obtain ⟨j,hj,e⟩:=List.getElem_of_mem hx
 have e2:gv r j = x:=by simp [gv,List.getD,hj,e]
 have hlt:BB ^ w < BB ^ (w + 1):=Nat.pow_lt_pow_right (by decide) zo
 have f1:aF (d * gv r j) (w + 1):=(dj j).fit hlt zo
 have f2:aF d (w + 1):=dg.fit hlt zo
 have f3:aF (d * gv r j / d) (w + 1 + 3 * (w + 1) + 2):=oU f1 f2 d0
 rw [Ej (z:=x) d0 (by rw [e2]; grind)] at f3
 exact f3.le zo
theorem Vu {r:List Qi} {m L:Nat} (hl:r.length = m) (h:bI r L) (hL:1 ≤ L):rE r (m * L):=by
 obtain ⟨d,d0,dl,dj⟩:=Cv (L:=L) (x:=gv r) m fun j _=>h.get hL j
 refine ⟨Qi.ofInt d,Fc d0,⟨d,0,Qi.ext' rfl (by show (0:Rat) = ((0:Int):Rat); rfl),by simpa using dl,by simp⟩,fun j=>?_⟩
 by_cases hj:j < m
 ·exact dj j hj
 ·rw [Js zo]
  have ee:Qi.ofInt d * 0 = 0:=by grind
  rw [ee]; exact Ue _
abbrev mS (M:List (List Qi)) (w:Nat):Prop:=∀ r,r ∈ M → rE r w
theorem mS.row {M : List (List Qi)} {w i : Nat} (h : mS M w) (hi : i < M.length) : rE (eC M i) w := h _ (by
 rw [show eC M i = M[i] by simp [eC,List.getD,hi]]; exact List.getElem_mem hi)
theorem Oc {M:List (List Qi)} {n m L:Nat} (hs:cB M n m) (h:bE M L) (hL:1 ≤ L):mS M (m * L):=fun r hr=>Vu (hs.2 r hr) (h r hr) hL
theorem mS.swp {M : List (List Qi)} {w p c : Nat} (h : mS M w) (hp : p < M.length) (hc : c < M.length) : mS (swp [] M p c) w := fun x hx => by
 unfold Go.Proofs.YtdlciihkiefckaaGreat.swp at hx
 rcases List.mem_or_eq_of_mem_set hx with h1 | h1
 ·rcases List.mem_or_eq_of_mem_set h1 with h2 | h2
  ·exact h x h2
  ·rw [h2]; exact h.row hc
 ·rw [h1]; exact h.row hp
theorem mS.redM {M : List (List Qi)} {w c r : Nat} (h : mS M w) (hc : c < M.length) (hp : gm M c c ≠ Qi.zero) : mS (redM M c r) (2 * w + 1) := fun x hx => by
 obtain ⟨i,hi,rfl⟩:=dR.1 hx
 show rE (if c < i ∧ i < r then mM (eC M i) (eC M c) c (eC M i).length else eC M i) _
 split
 ·exact (h.row hi).red (h.row hc) hp
 ·exact (h.row hi).le zo
theorem mS.redJ {M : List (List Qi)} {w c r : Nat} (h : mS M w) (hc : c < M.length) (hp : gm M c c ≠ Qi.zero) : mS (redJ M c r) (2 * w + 1) := fun x hx => by
 obtain ⟨i,hi,rfl⟩:=dR.1 hx
 show rE (if i ≠ c ∧ i < r then Bi (eC M i) (eC M c) c (eC M i).length else eC M i) _
 split
 ·exact (h.row hi).red (h.row hc) hp
 ·exact (h.row hi).le zo
theorem Hi {M : List (List Qi)} {n m w : Nat} (hs : cB M n m) (h : mS M w) : ∀ {c : Nat}, c ≤ n → mS (cI M c).1 (Lc w c)
 | 0,_=>h
 | c + 1, hc => by
  have ih:=Hi hs h (c:=c) zo
  have sh:=qP hs (c:=c) zo
  obtain ⟨_,i2,i3,i4⟩:=pD (M:=(cI M c).1) (c:=c) (n:=M.length) (by rw [hs.1]; omega)
  have hml:=hs.1
  have hel:=sh.1
  simp only [cI,Lc]
  split
  ·exact fun r hr=>(ih r hr).le zo
  ·split
   ·exact fun r hr=>(ih r hr).le zo
   ·rename_i e
    split
    ·rename_i e2
     refine mS.redM ih zo ?_
     have:=i4 zo
     rw [e2] at this; exact this
    ·refine mS.redM (ih.swp zo zo) (by rw [Da]; omega) ?_
     show gv (eC (swp [] _ _ c) c) c ≠ _
     rw [Au (by rw [sh.1]; omega)]
     exact i4 zo
def stG (w n:Nat):Nat:=4 * (Lc w n + 1) + 2
theorem a3n {M : List (List Qi)} {n m L c : Nat} (hs : cB M n m) (hM : bE M L) (hL : 1 ≤ L) (hc : c ≤ n) : bE (cI M c).1 (stG (m * L) n) := fun r hr =>
 ((Hi hs (Oc hs hM hL) hc r hr).le (sY _ hc)).fit
theorem Si {U : List (List Qi)} {n i : Nat} : ∀ {k j : Nat}, j + k ≤ n → n - j ≤ i → gv (oT U n (j + k)) i = gv (oT U n j) i
 | 0,_,_,_=>rfl
 | k + 1, j, h, hi => by
  rw [show j + (k + 1) = (j + k) + 1 by omega,oT,gv,List.getD,List.getElem?_set_ne zo]
  exact Si (k:=k) zo hi
theorem Sj {U : List (List Qi)} {n i : Nat} : ∀ {j : Nat}, j ≤ n → i < n - j → gv (oT U n j) i = 0
 | 0,_,h=>by rw [oT,gF zo]; rfl
 | j + 1, hj, h => by
  rw [oT,gv,List.getD,List.getElem?_set_ne zo]
  exact Sj (j:=j) zo zo
theorem a2G {M : List (List Qi)} {b : List Qi} {n j X : Nat} (hX : 1 ≤ X) (h : bI (iK M b n) X) (hj : j ≤ n) : bI (oT (sC M b n).1 n j) X := fun x hx => by
 obtain ⟨i,hi,e⟩:=List.getElem_of_mem hx
 have e2:gv (oT (sC M b n).1 n j) i = x:=by simp [gv,List.getD,hi,e]
 rw [uY] at hi
 rw [← e2]
 by_cases c:n - j ≤ i
 ·have k := Si (U := (sC M b n).1) (n := n) (k := n - j) (j := j) zo c
  rw [show j + (n - j) = n by omega] at k
  rw [← k]; exact h.get hX i
 ·rw [Sj hj zo]; exact aF.zero hX
structure Zm (M:List (List Qi)) (b:List Qi) (n G X:Nat):Prop where
 st:∀ c,c ≤ n → bE (cI (kX M [b] n) c).1 G
 bk:jO M b n = 0 → ∀ j,j ≤ n → bI (oT (sC M b n).1 n j) X
 g1:1 ≤ G
 x1:1 ≤ X
 g:6 * G + 4 ≤ 17592186044415
 x:n * (X + G + 2) + 4 * G + 2 ≤ 17592186044415
theorem Zm.old {M:List (List Qi)} {b:List Qi} {n L:Nat} (hM:cB M n n) (hf:bE M L) (hfb:bI b L) (hL:1 ≤ L) (hg:6 * lG L n + 4 ≤ 17592186044415) (hx:wN (lG L n) (n + 1) ≤ 17592186044415):Zm M b n (lG L n) (wN (lG L n) n):=by
 have hcs:cB (kX M [b] n) n (n + 1):=mG hM
 have hcf:bE (kX M [b] n) L:=vC hf (fun r hr=>by simp at hr; subst hr; exact hfb) hL
 have hG1:1 ≤ lG L n:=Nat.le_trans hL (rP L n)
 refine ⟨fun c hc=>(Ee hcs hcf hL hc).le (qJ L hc),fun hE j hj=>?_,hG1,Nat.le_trans hG1 (Fy _ _),hg,hx⟩
 have hst:¬ 0 ≤ (sC M b n).2.2:=fun h=>by rw [jO,if_pos h] at hE; omega
 have hf2:=Pn (Ok hM hf hfb hL) hG1 (qI hcs (Nat.le_refl n) (Vz hst)) j hj
 exact fun y hy=>(hf2 y hy).le (Fz _ hj)
theorem Xw {M : List (List Qi)} {n G X : Nat} (hz : ∀ i, i < n → Zm M (ek n i) n G X) (hE : pY M n = 0) : bE (rF M n) X := fun r hr => by
 obtain ⟨i,_,rfl⟩:=dR.1 hr
 exact bI.tab fun j hj=>((hz j hj).bk (yD hE j hj) n (Nat.le_refl n)).get (hz j hj).x1 i
structure SzJ (M:List (List Qi)) (b:List Qi) (n G:Nat):Prop where
 st:∀ c A,c ≤ n → Xq (kX M [b] n) c = some A → bE A G
 g1:1 ≤ G
 g:6 * G + 4 ≤ 17592186044415
theorem SzJ.old {M : List (List Qi)} {b : List Qi} {n L : Nat} (hM : cB M n n) (hf : bE M L) (hfb : bI b L) (hL : 1 ≤ L) (hg : 6 * lG L n + 4 ≤ 17592186044415) : SzJ M b n (lG L n) :=
 ⟨fun _ _ hc hA=>(a0R (show cB (kX M [b] n) n (n + 1) from mG hM) (Nat.le_succ n) (vC hf (fun r hr=>by simp at hr; subst hr; exact hfb) hL) hL hc hA).le (qJ L hc),Nat.le_trans hL (rP L n),hg⟩
theorem a0L {n:Nat} (hn:n ≤ 8):∀ N,1 ≤ N → fs n N ≤ (2 * 8 * (2 * 7 * (2 * 6 * (2 * 5 * 1610612736 * 4 ^ 15) * 4 ^ 31) * 4 ^ 63) * 4 ^ 127) * N ^ 255:=by
 have h6:∀ N,1 ≤ N → fs 6 N ≤ (2 * 6 * (2 * 5 * 1610612736 * 4 ^ 15) * 4 ^ 31) * N ^ 63:=fun N hN=>a0M (Nat.le_refl 6) N hN
 have h7:∀ N,1 ≤ N → fs 7 N ≤ (2 * 7 * (2 * 6 * (2 * 5 * 1610612736 * 4 ^ 15) * 4 ^ 31) * 4 ^ 63) * N ^ 127:=Cb h6
 have h8:∀ N,1 ≤ N → fs 8 N ≤ (2 * 8 * (2 * 7 * (2 * 6 * (2 * 5 * 1610612736 * 4 ^ 15) * 4 ^ 31) * 4 ^ 63) * 4 ^ 127) * N ^ 255:=Cb h7
 by_cases a:n ≤ 6
 ·exact Ca (a0M a) (by decide) (by decide)
 ·by_cases b : n = 7
  ·subst b; exact Ca h7 (by decide) (by decide)
  ·obtain rfl : n = 8 := by omega
   exact h8
theorem Mp {n e K:Nat} (hn:n ≤ 8) (he:e * 255 + 17 = K):fs n (BB ^ e) < BB ^ K:=by
 refine Nat.lt_of_le_of_lt (a0L hn _ (Nat.pow_pos eN)) ?_
 rw [← Nat.pow_mul]
 exact Rm he (by show _ < 4294967296 ^ 17; decide)
def Ru (L:Nat):Nat:=4 * (9 * L * 255 + 17) + 2
def st8 (L:Nat):Nat:=stG (9 * L) 8
theorem a23 {M : List (List Qi)} {b : List Qi} {n L : Nat} (h : cB M n n) (hM : bE M L) (hb : bI b L) (hL : 1 ≤ L) (hn : n ≤ 8) (hE : jO M b n = 0) : bI (iK M b n) (Ru L) :=
 a28 (m:=8) (K:=9 * L * 255 + 17) h hM hb hL hn (Mp (e:=(8 + 1) * L) (K:=9 * L * 255 + 17) hn zo) zo hE
theorem Rw (L:Nat):st8 L = 9216 * L + 1026:=by simp only [st8,stG,Lc]; omega
theorem a7f (L:Nat) (h:L ≤ 10000000):4 * (9 * L * 255 + 17) + 2 + (9216 * L + 1026) + 2 ≤ 200000000000:=by omega
theorem a7g (L:Nat) (h:L ≤ 10000000):4 * (9216 * L + 1026) + 2 ≤ 400000000000:=by omega
theorem a7h (n A B:Nat) (hn:n ≤ 8) (hA:A ≤ 200000000000) (hB:B + 2 ≤ 400000000000):n * A + B + 2 ≤ 17592186044415:=by
 have:n * A ≤ 8 * A:=Nat.mul_le_mul_right _ hn
 omega
theorem a7i (n L:Nat) (hn:n ≤ 8) (h:L ≤ 10000000):n * (Ru L + st8 L + 2) + 4 * st8 L + 2 ≤ 17592186044415:=by
 rw [Rw,Ru]
 exact a7h n _ _ hn (a7f L h) (a7g L h)
theorem a7j (L:Nat) (h:L ≤ 10000000):6 * st8 L + 4 ≤ 17592186044415:=by rw [Rw]; omega
theorem a7k (L:Nat):1 ≤ st8 L:=by rw [Rw]; omega
theorem a2g (L:Nat):1 ≤ Ru L:=by unfold Ru; omega
theorem a8K {M:List (List Qi)} {b:List Qi} {n L:Nat} (h:cB M n n) (hM:bE M L) (hb:bI b L) (hL:1 ≤ L) (hLb:L ≤ 10000000) (hn:n ≤ 8):Zm M b n (st8 L) (Ru L):=by
 have hcs:cB (kX M [b] n) n (n + 1):=mG h
 have hcf:bE (kX M [b] n) L:=vC hM (fun r hr=>by simp at hr; subst hr; exact hb) hL
 have hle : stG ((n + 1) * L) n ≤ st8 L := by
  have hw:(n + 1) * L ≤ 9 * L:=Nat.mul_le_mul_right _ zo
  have h1:=a2s hw n
  have h2:=sY (9 * L) hn
  simp only [stG,st8]; omega
 exact ⟨fun c hc=>(a3n hcs hcf hL hc).le hle,fun hE j hj=>a2G (a2g L) (a23 h hM hb hL hn hE) hj,a7k L,a2g L,a7j L hLb,a7i n L hn hLb⟩
end
section
open Go Go.RowKit
theorem a54 {n:Nat} (hn:n ≤ 32):jM Tryz.prog 144 [NT .i64 n] [] (Nat) (fun B=>Is (.slice (some ⟨B,0,none⟩) n n)) (fun B=>[tQ Ag B 25 60 5 (dO aI (rQ n))]) (fun _=>True):=by
 refine jM.intro Tryz.func144 rfl Tryz.ntmps144 rfl (fun cx Z=>(ts (ro rfl (cX cW) (eW (ts (rn rfl (eU (Ts:=[Is (.bool false),Is (.slice none 0 0),Is (.bool false),Is (.slice none 0 0),Is (.slice none 0 0)]) O_60 rfl (fun V=>aW zd (aW zd (aW zd (aW zd (aW zd (aG))))))) fun B3=>(eW (ts (rm rfl (ro rfl (aM.nat (a4b (Ht rfl) (cV 0)) (show max n 0 = n by omega)) (ro rfl (aM.nat (Vl (Ht rfl) (cV 32)) (show min n 32 = n by omega)) ?_)))))))))))
 refine rn rfl (iI (T:=Is (.slice none 0 0)) (i:=Tryz.t25) V_26 yC rfl rfl (Ht rfl) rfl (fun _=>rfl) trivial (by show 24 * _ ≤ _; omega) zo) fun B9=>ra rfl (eW (cU (ts (rm rfl (ro rfl (iV U_26 (Ht rfl)) (ro rfl (cZ (cV 0)) (eW (eY (tC 2 rfl (Na Ag ⟨none,0,rfl⟩ (e:=60) (s:=5)) ?_)))))))))
 refine cP (fun (k : Nat) => k ≤ n) (fun (k : Nat) => n - k) (fun (k : Nat) => [(3, cC B3 0), (4, Is (.slice (some ⟨B9, 0, none⟩) n n)), (11, NT .i64 n), (12, NT .i64 k)]) (fun (k : Nat) => [Z, box B3 60 [Is (.bool false), Is (.slice none 0 0), Is (.bool false), Is (.slice none 0 0), Is (.slice none 0 0)], tQ Ag B9 25 60 5 (dO aI (nA (Fw n) [] n k))]) 0 (Nat.zero_le _)
  (zS rfl) (aU (fun _ _ _ h=>h) (aU (fun _ _ _ h=>h) (aU (fT (by rw [← kF,wA]; exact zH aI n)) aY))) (fun k hk=>?_)
 refine ts (ro rfl (gV (Ht rfl) (Ht rfl)) (eW (cU (dX (Ht rfl) (fun hd=>?_) (fun hd=>?_)))))
 ·simp only [decide_eq_true_eq] at hd
  refine Zn 2 (k) rfl (Ek hd) (fun v hv=>(cY (cU (eY (ts (rm rfl (ra rfl (eW (cU (fW (m:=10) (dp 4 rfl (cZ (Ht rfl)) (dp 5 rfl (cZ (Ht rfl)) (dp 3 rfl (eK A_60 Z_60 (Ht rfl) (i:=1) rfl rfl rfl) (dq 17 2 rfl (bT cD (Ht rfl)) (d0 rfl (cJ K_52 (Dq (n:=0) (by decide) (by decide)) ⟨(cV 0),trivial⟩) (dE 18 3 19 4 rfl (bF qT Tryz.call304 Lo (Ht rfl) ⟨(Ht rfl),trivial⟩) (dq 20 5 rfl (eB (xs:=[.tmp 20]) U_25 Z_60 O_60 (cG (Ht rfl) cK) rfl rfl rfl) ?_)))))))))))))))))
  refine dp 4 rfl (cZ (Ht rfl)) (dq 22 7 rfl (iV U_26 (Ht rfl)) (C.D_new (Ei:=[(21,_),(23,_)]) rfl rfl rfl (bV (bG 6 rfl rfl) (bV (bG 8 rfl rfl) bW)) (Hv Tryz.call229 (a5Q (m:=n) zo zo) ⟨(Ht rfl),(Ht rfl),trivial⟩) (fK aS rfl (by kernel_rfl) (zF (zF (aJ (C.F_new (fun B24=>aV (ro rfl (gZ U_26 Z_25 (Ht rfl) (Ht rfl) rfl zo (by rw [Nat.mul_one,Nat.zero_add])) ?_)))))))))
  refine Gt Z_25 (Ht rfl) (Ht rfl) (by simp only [dO,List.length_map,eR]; omega) (j:=2) (l:=4) rfl rfl rfl ?_
  refine eW ?_
  have hB24:=B24.1.2
  refine fW (m:=9) (dp 4 rfl (cZ (Ht rfl)) (dp 5 rfl (cZ (Ht rfl)) (dE 26 0 27 1 rfl (gZ U_26 Z_25 (Ht rfl) (Ht rfl) rfl zo (by rw [Nat.mul_one,Nat.zero_add])) ?_)))
  refine dq 28 2 rfl (pR A_25 Z_25 (Ht rfl) (j:=2) rfl) (dp 5 rfl (cZ (Ht rfl)) (dp 3 rfl (eK A_60 Z_60 (Ht rfl) (i:=1) rfl rfl rfl) (dq 31 5 rfl (bT cD (Ht rfl)) (d0 rfl (cJ K_52 (Dq (n:=1) (by decide) (by decide)) ⟨(cV 1),trivial⟩) (dE 32 6 33 7 rfl (bF qT Tryz.call304 Lo (Ht rfl) ⟨(Ht rfl),trivial⟩) (fK aS rfl (by kernel_rfl) (zF (zF (aJ (aV (ro rfl (dB U_25 Z_60 (Ht rfl) (Ht rfl) rfl (i:=4) rfl (by simp only [List.length_map,aE]; omega) rfl) ?_)))))))))))
  refine mP Z_60 (Ht rfl) (Ht rfl) (El.ag rfl) (i:=4) rfl rfl (by simp only [List.length_map,aE]; omega) rfl ?_
  refine eW (bM (nB 2 4 rfl rfl (by decide) (by simp only [dO,List.length_map,eR]; omega) ?_))
  refine dQ (ro rfl (dK (Ht rfl) (cV 1) z6) (rm rfl (eW (cM [0,1,2] rfl (by decide) (gX (k + 1) hd zo (zS rfl) (aU (fun _ _ _ h=>h) (aU (fun _ _ _ h=>h) (aU (fT (by rw [← lN (f:=Fw n),← oA,Fw,← iR])) aY))))))))
 ·simp only [decide_eq_false_iff_not] at hd
  obtain rfl:n = k:=Nat.le_antisymm zo hk
  refine gK rfl (ts (rm rfl (ra rfl (eW ?_))))
  exact lJ B9 trivial [0,2] ⟨⟨_,rfl,fun _ _ _ h=>h⟩,⟨_,rfl,(fT (by rw [lM]; rfl))⟩,trivial⟩ (by decide) (zJ rfl (fX rfl))
theorem a7F {n:Nat} (hn:n ≤ 32):bB Tryz.prog 144 [NT .i64 n] (dF (rQ n)):=(a54 hn).fun fun B _ v S V h1 h2=>xY (s:=5) (M:=rQ n) (nQ n).1.symm v S V h1 h2
theorem Lp {M:List (List Qi)} {b:List Qi} {n G X:Nat} (hM:cB M n n) (hb:b.length = n) (hz:Zm M b n G X) (h1:1 ≤ n) (hn:n ≤ 32):bB Tryz.prog 126 [dF M,bC b] (eH [bC (iD (jO M b n) (iK M b n)),aL .i64 (jO M b n)]):=by
 have hMl:=hM.1
 have hcs:cB (kX M [b] n) n (n + 1):=mG hM
 have hg:=hz.g
 have hx:n * (G + X + 2) + 4 * G + 2 ≤ 17592186044415:=by rw [Nat.add_comm G X]; exact hz.x
 obtain ⟨U,hU⟩:∃ U,U = (sC M b n).1:=⟨_,rfl⟩
 have hUs:cB U n (n + 1):=by rw [hU]; exact a25 hM
 have hUl:=hUs.1
 have hUf:bE U G:=by rw [hU]; exact hz.st n (Nat.le_refl n)
 have hG1:=hz.g1
 have hX1:=hz.x1
 refine bB.intro Tryz.func126 rfl Tryz.ntmps126 rfl (fun cx=>(ts (ro rfl (cX cW) (ro rfl (cX (cV 0)) (eW (cU (ts (rm rfl (ro rfl (cJ Tryz.call172 (Lv hM h1 hn) ⟨(Ht rfl),trivial⟩) (ro rfl (eS (Ht rfl)) (rm rfl (fJ rfl rfl (fQ rfl rfl (Ht rfl) (fun h=>cZ (Ht rfl))) (fJ rfl rfl (fQ rfl rfl (Ht rfl) (fun h=>dY U_25 (fG rfl h) aB)) (fJ rfl rfl (fQ rfl rfl (Ht rfl) (fun h=>cZ (Ht rfl))) (fJ rfl rfl (fQ rfl rfl (Ht rfl) (fun h=>dY U_26 (fG rfl h) aB)) ?_)))))))))))))))
 refine fJ rfl rfl (fQ rfl rfl (Ht rfl) (fun h=>jR (fG rfl h) (fG rfl h))) (ro rfl (kQ (Ht rfl) (fun h=>(fG rfl h))) (eW (jQ (Ht rfl) (by simp [hMl,hb]) ?_)))
 refine cY (ts (rm rfl (ro rfl (dY U_26 (Ht rfl) (by rw [List.length_map,hMl])) ?_)))
 refine ra rfl (eW (ts (rm rfl (rm rfl (ro rfl (eB (xs:=[.tmp 26]) U_26 Z_25 O_25 (cG (Ht rfl) cK) rfl rfl rfl) (oS Tryz.call195 (Gw (M:=M) (bs:=[b]) (n:=n) (m:=n) hM (fun r hr=>by simp at hr; subst hr; omega) zo zo (by simp)) ⟨(Ht rfl),(Ht rfl),trivial⟩ rfl (fun B28 _=>?_)))))))
 refine ra rfl (eW (cU (ts (rm rfl (Im Tryz.call221 (a2W (n:=n) (m:=n + 1) (G:=G) hcs hz.st hG1 hg zo zo) (i:=0) rfl ⟨(Ht rfl),trivial⟩ rfl (fun uu _=>(rm rfl (ro rfl (eQ (Ht rfl) rfl) (ro rfl (eQ (Ht rfl) rfl) (ra rfl (ra rfl (eW (ts (rm rfl (ro rfl (nY (Ht rfl) cW) (eW (dX (Ht rfl) (fun hs=>?_) (fun hs=>?_))))))))))))))))))
 ·have he : jO M b n = 6 := by rw [jO, if_pos (show 0 ≤ (sC M b n).2.2 from of_decide_eq_true hs)]
  refine ts (ro rfl (cX cW) (ro rfl (cX (cV 6)) (eW (bN rfl (fV (fX rfl) ?_) (fV (fX rfl) ?_)))))
  ·exact (fun v V k=>by rw [he]; exact iP v V k)
  ·exact (aR he.symm)
 ·have hst : ¬ 0 ≤ (sC M b n).2.2 := of_decide_eq_false hs
  have he:jO M b n = 0:=by rw [jO,if_neg hst]
  have hdz:∀ i,i < n → gm U i i ≠ Qi.zero:=by rw [hU]; exact qI hcs (Nat.le_refl n) (Vz hst)
  refine cY (ts (rm rfl (rn rfl (iU (T:=aI Qi.zero) (i:=Tryz.t60) lE jH rfl rfl (Ht rfl) rfl jB (El.ag rfl) (by show 88 * _ ≤ _; omega) zo) fun B37=>(ra rfl (eW (cU (ts (rm rfl (ro rfl (dU (Ht rfl) (cV 1) zo z6) (ra rfl (eW (eY (tC 0 rfl (fT (show dO aI (cI (kX M [b] n) n).1 = dO aI U by rw [hU]; rfl)) (Io 0 rfl (fun vs hvs=>?_)))))))))))))))
  have hvl:vs.length = n:=by have h:=hvs.len; rw [List.length_map,hUl] at h; exact h
  refine cP (fun (j : Nat) => j ≤ n) (fun (j : Nat) => n - j) (fun (j : Nat) => [(0, Is (.slice (some ⟨B28, 0, none⟩) n n)), (6, NT .i64 n), (9, Is B37), (10, aL .i64 ((n : Int) - 1 - (j : Int)))]) (fun (j : Nat) => [kD B28 25 60 5 vs vs (dO aI U), bP 60 5 B37 ((oT U n j).map aI)]) 0 (Nat.zero_le _)
   (aQ rfl (aQ rfl (aQ rfl (aZ rfl (aR zo) aX)))) (aU (fun _ _ _ h=>h) (aU (bD (by rw [oT]; exact rU aI n)) aY)) (fun j hj=>?_)
  refine cU (ts (rm rfl (ro rfl (nY (Ht rfl) cW) (eW (dX (Ht rfl) (fun hc=>?_) (fun hc=>?_))))))
  ·have hjn : j < n := a7D (of_decide_eq_true hc)
   obtain ⟨q,hq⟩:∃ q,q = n - (j + 1):=⟨_,rfl⟩
   have hqi:(n:Int) - 1 - (j:Int) = (q:Int):=by omega
   have hqr:(U.getD q []).length = n + 1:=hUs.row zo
   have hXf:bI (oT U n j) X:=by rw [hU]; exact hz.bk he j hj
   have hXl:=uY U n j
   refine cY (cU (eY (ts (rm rfl (rm rfl (ro rfl (gZ U_26 Z_25 (Ht rfl) (Ht rfl) hqi zo (by rw [Nat.mul_one,Nat.zero_add])) ?_))))))
   refine ro rfl (gD A_25 Z_25 (Ht rfl) (j:=0) rfl zo) (rm rfl (ro rfl (iG U_25 Z_60 (Ht rfl) (Ht rfl) rfl (j:=0) rfl zo zo zo) (ro rfl (kP A_60 Z_60 (Ht rfl) (j:=0) rfl zo zo zo) (rn rfl (eU (Ts:=[Is (.bool false),Is (.slice none 0 0),Is (.bool false),Is (.slice none 0 0),Is (.slice none 0 0)]) O_60 rfl (fun V=>aW zd (aW zd (aW zd (aW zd (aW zd (aG))))))) fun B11=>?_))))
   refine gJ Z_60 (Ht rfl) (Ht rfl) rfl (i:=2) rfl (aK rfl) rfl rfl (eW (cU (ts (rm rfl (ro rfl (Fd (Ht rfl) cW (r:=((q + 1:Nat):Int)) ((xK (z:=(n:Int) - 1 - (j:Int) + 1) zo).trans zo)) ?_)))))
   refine ra rfl (eW (eY ?_))
   refine cP (fun (k : Nat) => k ≤ j) (fun (k : Nat) => j - k) (fun (k : Nat) => [(0, Is (.slice (some ⟨B28, 0, none⟩) n n)), (6, NT .i64 n), (9, Is B37), (10, aL .i64 ((n : Int) - 1 - (j : Int))), (11, cC B11 0), (12, NT .i64 (q + 1 + k))]) (fun (k : Nat) => [kD B28 25 60 5 vs vs (dO aI U), bP 60 5 B37 ((oT U n j).map aI), box B11 60 [aH (decide ((pU U (oT U n j) n q k).a < 0)), aN (pU U (oT U n j) n q k).a.natAbs, aH (decide ((pU U (oT U n j) n q k).b < 0)), aN (pU U (oT U n j) n q k).b.natAbs, aN (du (pU U (oT U n j) n q k))]]) 0 (Nat.zero_le _)
    (zS rfl) (aU (fun _ _ _ h=>h) (aU (fun _ _ _ h=>h) (aU (aD rfl) aY))) (fun k hk=>?_)
   refine cU (ts (rm rfl (rm rfl (ro rfl (gV (Ht rfl) (Ht rfl)) (eW (dX (Ht rfl) (fun hf=>?_) (fun hf=>?_)))))))
   ·have hkj : k < j := by simp only [decide_eq_true_eq] at hf; omega
    haveI f1:aF (pU U (oT U n j) n q k) (G + k * (G + X + 2)):=Cz hUf hXf hG1 hX1 k
    haveI f2:aF (gm U q (q + 1 + k)) G:=hUf.get hG1 _ _
    haveI f3:aF (gv (oT U n j) (q + 1 + k)) X:=hXf.get hX1 _
    have hb1:k * (G + X + 2) + (G + X + 2) ≤ n * (G + X + 2):=by rw [← Nat.succ_mul]; exact Nat.mul_le_mul_right _ zo
    refine cY (cU (eY (fW (m:=15) (dp 11 rfl (eK A_60 Z_60 (Ht rfl) (i:=2) rfl rfl rfl) (dq 58 0 rfl (bT cD (Ht rfl)) (dp 0 rfl (cZ (Ht rfl)) (dp 10 rfl (cZ (Ht rfl)) (dE 60 2 61 3 rfl (gZ U_26 Z_25 (Ht rfl) (Ht rfl) hqi zo (by rw [Nat.mul_one,Nat.zero_add])) ?_))))))))
    refine dq 62 4 rfl (gD A_25 Z_25 (Ht rfl) (j:=0) rfl zo) (dp 12 rfl (cZ (Ht rfl)) (dE 63 5 64 6 rfl (iG U_25 Z_60 (Ht rfl) (Ht rfl) rfl (j:=0) rfl zo zo zo) (dq 65 7 rfl (kP A_60 Z_60 (Ht rfl) (j:=0) rfl zo zo zo) (dq 66 8 rfl (bT cD (Ht rfl)) (dp 9 rfl (cZ (Ht rfl)) (dp 12 rfl (cZ (Ht rfl)) (dE 68 10 69 11 rfl (dB U_25 Z_60 (Ht rfl) (Ht rfl) rfl (i:=1) rfl (by rw [List.length_map]; omega) rfl) ?_)))))))
    refine dq 70 12 rfl (pS A_60 Z_60 (Ht rfl) (i:=1) rfl rfl (eZ (eX (d:=Qi.zero) zo))) (dE 67 9 71 13 rfl (bF eM K_70 (lS (x:=gm U q (q + 1 + k)) (y:=gv (oT U n j) (q + 1 + k)) (L:=G) (M:=X) zo) (Ht rfl) ⟨(Ht rfl),trivial⟩) (fK aS rfl (by kernel_rfl) (zF (zF (zF (aJ (aJ (aJ (aV (ro rfl (bF lW K_69 (wI (x:=(pU U (oT U n j) n q k)) (y:=gm U q (q + 1 + k) * gv (oT U n j) (q + 1 + k)) (L:=G + k * (G + X + 2)) (M:=G + X + 1) zo) (Ht rfl) ⟨(Ht rfl),trivial⟩) ?_))))))))))
    refine gJ Z_60 (Ht rfl) (Ht rfl) rfl (i:=2) rfl (aK rfl) rfl rfl (eW (bM (dQ (rm rfl (ro rfl (dK (Ht rfl) (cV 1) z6) (ra rfl (eW (gX (k + 1) hkj zo (zS rfl) (aU (fun _ _ _ h=>h) (aU (fun _ _ _ h=>h) (aU (aD rfl) aY)))))))))))
   ·obtain rfl : k = j := Nat.le_antisymm hk (by simp only [decide_eq_false_iff_not] at hf; omega)
    haveI f1:aF (pU U (oT U n k) n q k) (G + k * (G + X + 2)):=Cz hUf hXf hG1 hX1 k
    haveI f2:aF (gm U q q) G:=hUf.get hG1 _ _
    have hb3:k * (G + X + 2) ≤ n * (G + X + 2):=Nat.mul_le_mul_right _ zo
    refine gK rfl (Y.D_start (m:=17) [(16,1,bP 60 5 B37 (((oT U n k).map aI).set q (aI ((pU U (oT U n k) n q k) / gm U q q))))] (Y.D_step (Ei:=[(9,_)]) rfl rfl (bQ (bJ rfl rfl) bX) rfl rfl (by kernel_rfl) (dZ rfl (cZ (Ht rfl))) (Y.D_step (Ei:=[(10,_)]) rfl rfl (bQ (bJ rfl rfl) bX) rfl rfl (by kernel_rfl) (dZ rfl (cZ (Ht rfl))) (Y.D_step (Ei:=[(11,_)]) rfl rfl (bQ (bJ rfl rfl) bX) rfl rfl (by kernel_rfl) (dZ rfl (eK A_60 Z_60 (Ht rfl) (i:=2) rfl rfl rfl)) ?_))))
    refine Y.D_step (Ei:=[(77,_)]) rfl rfl (bQ (bZ 2 rfl rfl) bX) rfl rfl (by kernel_rfl) (dZ rfl (bT cD (Ht rfl))) (Y.D_step (Ei:=[(0,_)]) rfl rfl (bQ (bJ rfl rfl) bX) rfl rfl (by kernel_rfl) (dZ rfl (cZ (Ht rfl))) (Y.D_step (Ei:=[(10,_)]) rfl rfl (bQ (bJ rfl rfl) bX) rfl rfl (by kernel_rfl) (dZ rfl (cZ (Ht rfl))) (Y.D_step (Ei:=[(79,_),(80,_)]) rfl rfl (bQ (bZ 4 rfl rfl) (bQ (bZ 5 rfl rfl) bX)) rfl rfl (by kernel_rfl) (dZ rfl (gZ U_26 Z_25 (Ht rfl) (Ht rfl) hqi zo (by rw [Nat.mul_one,Nat.zero_add]))) ?_)))
    refine Y.D_step (Ei:=[(81,_)]) rfl rfl (bQ (bZ 6 rfl rfl) bX) rfl rfl (by kernel_rfl) (dZ rfl (gD A_25 Z_25 (Ht rfl) (j:=0) rfl zo)) (Y.D_step (Ei:=[(10,_)]) rfl rfl (bQ (bJ rfl rfl) bX) rfl rfl (by kernel_rfl) (dZ rfl (cZ (Ht rfl))) (Y.D_step (Ei:=[(82,_),(83,_)]) rfl rfl (bQ (bZ 7 rfl rfl) (bQ (bZ 8 rfl rfl) bX)) rfl rfl (by kernel_rfl) (dZ rfl (iG U_25 Z_60 (Ht rfl) (Ht rfl) hqi (j:=0) rfl zo zo zo)) ?_))
    refine Y.D_step (Ei:=[(84,_)]) rfl rfl (bQ (bZ 9 rfl rfl) bX) rfl rfl (by kernel_rfl) (dZ rfl (kP A_60 Z_60 (Ht rfl) (j:=0) rfl zo zo zo)) (Y.D_step (Ei:=[(78,_),(85,_)]) rfl rfl (bQ (bZ 3 rfl rfl) (bQ (bZ 10 rfl rfl) bX)) rfl rfl (by kernel_rfl) (dZ rfl (bF lV K_64 (tX (x:=(pU U (oT U n k) n q k)) (y:=gm U q q) (L:=G + k * (G + X + 2)) (M:=G) zo) (Ht rfl) ⟨(Ht rfl),trivial⟩)) (Y.D_step (Ei:=[(86,_)]) rfl rfl (bQ (bZ 11 rfl rfl) bX) rfl rfl (by kernel_rfl) (dZ rfl (cZ (Ht rfl))) ?_))
    refine Y.D_step (Ei:=[(74,_)]) rfl rfl (bQ (bZ 12 rfl rfl) bX) rfl rfl (by kernel_rfl) (dZ rfl (eQ (Ht rfl) rfl)) (cQ (Ei:=[(74,_)]) rfl rfl (bQ (bZ 12 rfl rfl) bX) rfl rfl (dZ rfl (eQ (Ht rfl) rfl)) (Y.D_step (Ei:=[(75,_),(76,_)]) rfl rfl (bQ (bZ 0 rfl rfl) (bQ (bZ 1 rfl rfl) bX)) rfl rfl (by kernel_rfl) (dZ rfl (dB U_25 Z_60 (Ht rfl) (Ht rfl) hqi (i:=1) rfl (by rw [List.length_map]; omega) rfl)) ?_))
    refine Y.D_putI (Ei:=[(89,_),(87,_)]) 1 rfl rfl rfl (bQ (bZ 15 rfl rfl) (bQ (bZ 13 rfl rfl) bX)) (.head _) rfl (Li Z_60 (Ht rfl) (Ht rfl) (El.ag rfl) (i:=0) rfl rfl (by rw [List.length_map]; omega)) ?_
    refine Y.D_done aS rfl (by kernel_rfl) rfl (by simp [Y.okP]) rfl rfl (bU (bU (bU (bU (bU (bU (bU (bU (bU (bU (bU (bU (bU (bU (bU (bU (Y.F_putI (Y.F_nil ?_))))))))))))))))))
    refine eW (bM (dQ (rm rfl (ro rfl (iN (Ht rfl) cW (xK zo)) (ra rfl (eW (cM [0,1] rfl (by decide) (gX (k + 1) hjn zo (aQ rfl (aQ rfl (aQ rfl (aZ rfl (aR zo) aX)))) (aU (fun _ _ _ h=>h) (aU (bD (by rw [iR,oT,← hq])) aY))))))))))
  ·obtain rfl : j = n := Nat.le_antisymm hj (a7E (by have h := of_decide_eq_false hc; omega))
   refine gG (i:=1) (tt:=9) rfl rfl fR (gK rfl (ts (rm rfl (ra rfl (ro rfl (cX (cV 0)) (eW (bN rfl (fV (fX rfl) ?_) (fV (fX rfl) ?_))))))))
   ·exact (kH (by rw [he,iK,← hU]; rfl))
   ·exact (aR he.symm)
theorem a2R {M:List (List Qi)} {b:List Qi} {n L:Nat} (hM:cB M n n) (hb:b.length = n) (hf:bE M L) (hfb:bI b L) (hL:1 ≤ L) (h1:1 ≤ n) (hn:n ≤ 32) (hg:6 * lG L n + 4 ≤ 17592186044415) (hx:wN (lG L n) (n + 1) ≤ 17592186044415):bB Tryz.prog 126 [dF M,bC b] (eH [bC (iD (jO M b n) (iK M b n)),aL .i64 (jO M b n)]):=Lp hM hb (Zm.old hM hf hfb hL hg hx) h1 hn
end
section
open Go Go.RowKit
theorem Gv {M:List (List Qi)} {n m:Nat} (hM:cB M n m) (hn:n ≤ 1000) (hm:m ≤ 1000):jM Tryz.prog 195 [dF M,Is (.slice none 0 0)] [] Nat (fun B=>Is (.slice (some ⟨B,0,none⟩) n n)) (fun B=>[qC B 25 60 5 (dO aI M)]) (fun _=>True):=by
 have h:=Gw (M:=M) (bs:=[]) hM (fun b hb=>by cases hb) hn hm (by simp)
 rw [Xf hM] at h
 exact h.arg Zs
theorem a07 {M:List (List Qi)} {n G X:Nat} (hM:cB M n n) (hz:∀ i,i < n → Zm M (ek n i) n G X) (hn:n ≤ 32):bB Tryz.prog 224 [dF M] (eH [dF (iD (pY M n) (rF M n)),aL .i64 (pY M n)]):=by
 have hMl:=hM.1
 refine bB.intro Tryz.func224 rfl Tryz.ntmps224 rfl (fun cx=>(ts (ro rfl (cX cW) (ro rfl (cX (cV 0)) (eW (cU (ts (rm rfl (ro rfl (cJ Tryz.call172 (Hb hM hn) ⟨(Ht rfl),trivial⟩) (ro rfl (eS (Ht rfl)) (eW (jQ (Ht rfl) (by rfl) ?_))))))))))))
 refine cY (ts (rm rfl (oS Tryz.call195 (Gv hM zo zo) ⟨(Ht rfl),cW,trivial⟩ rfl (fun B14 _=>(ra rfl (eW (cU (ts (rm rfl (ro rfl (dY U_26 (Ht rfl) (by rw [List.length_map,hMl])) ?_))))))))))
 refine ro rfl (cJ Tryz.call144 (a7F (n:=n) hn) ⟨(Ht rfl),trivial⟩) (ro rfl (dY U_26 (Ht rfl) aB) (ro rfl (cZ (cV 0)) (eW (eY ?_))))
 refine cP (fun (k : Nat) => k ≤ n ∧ ∀ i, i < k → jO M (ek n i) n = 0) (fun (k : Nat) => n - k) (fun (k : Nat) => [(0, dF M), (4, Is (.slice (some ⟨B14, 0, none⟩) n n)), (17, dF (rQ n)), (18, NT .i64 n), (19, NT .i64 k)]) (fun (k : Nat) => [qC B14 25 60 5 (dO aI (uM M n k 0))]) 0 ⟨Nat.zero_le _, fun i h => by omega⟩
  (aQ rfl (aQ rfl (aQ rfl (aZ rfl (mK (nQ n).1) (zS rfl))))) (aU (fT (congrArg _ (Xu hM))) aY) (fun k ⟨hk,h0⟩=>?_)
 refine ts (ro rfl (gV (Ht rfl) (Ht rfl)) (eW (cU (dX (Ht rfl) (fun hd0=>?_) (fun hd0=>?_)))))
 ·simp only [decide_eq_true_eq] at hd0
  have hel:=a6b hd0
  refine cY (cU (eY (ts (rm rfl (ro rfl (dJ U_26 Z_25 (Ht rfl) (Ht rfl) rfl (eZ (eX (d:=[]) (by rw [(nQ n).1]; exact hd0)))) ?_)))))
  refine ro rfl (dW A_25 Z_25 (Ht rfl)) (ra rfl (ra rfl (eW (ts (rm rfl (rm rfl (ro rfl (cJ Tryz.call126 (Lp (M:=M) (b:=ek n k) (n:=n) (G:=G) (X:=X) hM hel (hz k hd0) zo hn) ⟨(Ht rfl),(Ht rfl),trivial⟩) (rm rfl (ro rfl (eQ (Ht rfl) rfl) (ro rfl (eQ (Ht rfl) rfl) (ra rfl (ra rfl (eW (cU (ts (rm rfl (ro rfl (iM (Ht rfl) cW) (eW (dX (Ht rfl) (fun he=>?_) (fun he=>?_))))))))))))))))))))
  ·have he2 : ¬ jO M (ek n k) n = 0 := by simpa using he
   have hi:=a3z h0 hd0 he2
   refine ts (rm rfl (ro rfl (cX cW) (ra rfl (eW (bN rfl (fV (fX rfl) ?_) (fV (fX rfl) ?_))))))
   ·exact (fun v V h=>by rw [hi,iD,if_neg he2]; exact iP v V h)
   ·exact (aR hi.symm)
  ·have he2 : jO M (ek n k) n = 0 := by simpa using he
   have hxl:(iK M (ek n k) n).length = n:=uY _ _ _
   refine Ay (E':=[(0,_),(4,_),(5,_),(7,_),(17,_),(18,_),(19,_)]) (aQ rfl (aQ rfl (aQ rfl (aZ rfl (kH (Us:=(iK M (ek n k) n).map aI) (by rw [he2]; rfl)) (zS rfl))))) ?_
   refine cY (ts (rm rfl (ro rfl (dY U_25 (Ht rfl) aB) (ro rfl (cZ (cV 0)) (eW (eY ?_))))))
   refine cP (fun (i : Nat) => i ≤ n) (fun (i : Nat) => n - i) (fun (i : Nat) => [(0, dF M), (4, Is (.slice (some ⟨B14, 0, none⟩) n n)), (5, NT .i64 k), (7, bC (iK M (ek n k) n)), (17, dF (rQ n)), (18, NT .i64 n), (19, NT .i64 k), (34, NT .i64 n), (35, NT .i64 i)]) (fun (i : Nat) => [qC B14 25 60 5 (dO aI (uM M n k i))]) 0 (Nat.zero_le _)
    (aQ rfl (aQ rfl (aQ rfl (aQ rfl (aQ rfl (aQ rfl (aQ rfl (aZ rfl (mK hxl) (zS rfl))))))))) (dI.refl _) (fun i hi=>?_)
   refine ts (ro rfl (gV (Ht rfl) (Ht rfl)) (eW (cU (dX (Ht rfl) (fun hf2=>?_) (fun hf2=>?_)))))
   ·simp only [decide_eq_true_eq] at hf2
    have hpl:=(sP M n k i).1
    have hpr:((uM M n k i).getD i []).length = n:=(sP M n k i).row hf2
    refine tD 0 (i) rfl (pJ zo) (fun v=>(cY (cU (eY (ts (rm rfl (ra rfl (eW (fW (m:=9) (dp 4 rfl (cZ (Ht rfl)) (dp 9 rfl (cZ (Ht rfl)) (dE 38 0 39 1 rfl (gZ U_26 Z_25 (Ht rfl) (Ht rfl) rfl zo (by rw [Nat.mul_one,Nat.zero_add])) ?_))))))))))))
    refine dq 40 2 rfl (pR A_25 Z_25 (Ht rfl) (j:=0) rfl) (dp 5 rfl (cZ (Ht rfl)) (dp 7 rfl (cZ (Ht rfl)) (dp 9 rfl (cZ (Ht rfl)) (dE 43 5 44 6 rfl (dJ U_25 Z_60 (Ht rfl) (Ht rfl) rfl (eZ (eX (d:=Qi.zero) zo))) (dq 45 7 rfl (dW A_60 Z_60 (Ht rfl)) (fK aS rfl (by kernel_rfl) (zF (zF (aJ (aV (ro rfl (dB U_25 Z_60 (Ht rfl) (Ht rfl) rfl (i:=1) rfl (by rw [List.length_map]; omega) rfl) ?_)))))))))))
    refine mP Z_60 (Ht rfl) (Ht rfl) (El.ag rfl) (i:=1) rfl rfl (by rw [List.length_map]; omega) rfl ?_
    refine eW (bM (nB 0 1 rfl rfl (by decide) (by simp only [dO,List.length_map]; omega) ?_))
    refine dQ (ro rfl (dK (Ht rfl) (cV 1) z6) (rm rfl (eW (cM [0] rfl (by decide) (gX (i + 1) hf2 zo (zS rfl) (aU (fT (by rw [iR,oA,Xt hf2 hd0])) aY))))))
   ·simp only [decide_eq_false_iff_not] at hf2
    obtain rfl:n = i:=Nat.le_antisymm zo hi
    refine gK rfl (bM (dQ (ro rfl (dK (Ht rfl) (cV 1) z6) (rm rfl (eW ?_)))))
    refine gX (k + 1) ⟨hd0, fun j h => by
     by_cases e:j = k
     ·rw [e]; exact he2
     ·exact h0 j zo⟩ zo (zS rfl) (aU (fT (by rw [a11])) aY)
 ·simp only [decide_eq_false_iff_not] at hd0
  obtain rfl:n = k:=Nat.le_antisymm zo hk
  have hi:=Xs h0
  refine gG (i:=0) (tt:=4) rfl rfl (xY (s:=5) (M:=uM M n n 0) (sP M n n 0).1.symm) (gK rfl (ts (rm rfl (ra rfl (ro rfl (cX (cV 0)) (eW (bN rfl (fV (fX rfl) ?_) (fV (fX rfl) ?_))))))))
  ·exact (kH (by rw [hi,a12]; rfl))
  ·exact (aR hi.symm)
theorem a7G {M:List (List Qi)} {n L:Nat} (hM:cB M n n) (hf:bE M L) (hL:1 ≤ L) (h1:1 ≤ n) (hn:n ≤ 32) (hg:6 * lG L n + 4 ≤ 17592186044415) (hx:wN (lG L n) (n + 1) ≤ 17592186044415):bB Tryz.prog 224 [dF M] (eH [dF (iD (pY M n) (rF M n)),aL .i64 (pY M n)]):=a07 hM (fun i _=>Zm.old hM hf (Qj hL) hL hg hx) hn
theorem a60 {m:Bool} {a b:List (List Qi)} {n i j L M:Nat} (ha:cB a n n) (hb:cB b n n) (hfa:bE a L) (hfb:bE b M) (h1:1 ≤ L) (h2:1 ≤ M) (hg:L + M + 1 ≤ 17592186044415) (hi:i < n) (hj:j < n):bB Tryz.prog 258 [NT .i64 i,NT .i64 j,PT (aH m),PT (dF a),PT (dF b)] (aI (if m = true then gm a i j - gm b i j else gm a i j + gm b i j)):=by
 have hal:=ha.1
 have hbl:=hb.1
 have har:=ha.row hi
 have hbr:=hb.row hi
 haveI f1:aF (gm a i j) L:=hfa.get h1 i j
 haveI f2:aF (gm b i j) M:=hfb.get h2 i j
 refine bB.intro Tryz.func258 rfl Tryz.ntmps258 rfl (fun cx=>(ts (rn rfl (eU (Ts:=[Is (.bool false),Is (.slice none 0 0),Is (.bool false),Is (.slice none 0 0),Is (.slice none 0 0)]) O_60 rfl (fun V=>aW zd (aW zd (aW zd (aW zd (aW zd (aG))))))) fun B7=>(eW (cU (ts (ro rfl (dW A_4 Z_4 (Ht rfl)) (eW (dX (Ht rfl) (fun hm=>?_) (fun hm=>?_))))))))))
 ·refine cU (fW (m := 15) (dp 3 rfl (dW A_26 Z_26 (Ht rfl)) (dp 0 rfl (cZ (Ht rfl)) (dE 9 0 10 1 rfl (dJ U_26 Z_25 (Ht rfl) (Ht rfl) rfl (eZ (eX (d := []) zo))) (dq 11 2 rfl (dW A_25 Z_25 (Ht rfl)) (dp 1 rfl (cZ (Ht rfl)) (dE 12 3 13 4 rfl (dJ U_25 Z_60 (Ht rfl) (Ht rfl) rfl (eZ (eX (d := Qi.zero) zo))) (dq 14 5 rfl (dW A_60 Z_60 (Ht rfl)) (dq 15 6 rfl (bT cD (Ht rfl)) (dp 4 rfl (dW A_26 Z_26 (Ht rfl)) ?_))))))))))
  refine dp 0 rfl (cZ (Ht rfl)) (dE 17 8 18 9 rfl (dJ U_26 Z_25 (Ht rfl) (Ht rfl) rfl (eZ (eX (d:=[]) zo))) (dq 19 10 rfl (dW A_25 Z_25 (Ht rfl)) (dp 1 rfl (cZ (Ht rfl)) (dE 20 11 21 12 rfl (dJ U_25 Z_60 (Ht rfl) (Ht rfl) rfl (eZ (eX (d:=Qi.zero) zo))) (dq 22 13 rfl (dW A_60 Z_60 (Ht rfl)) (fK aS rfl (by kernel_rfl) (zF (zF (zF (aJ (aJ (aJ (aV ?_)))))))))))))
  refine ro rfl (bF lW K_69 (wI (x:=gm a i j) (y:=gm b i j) (L:=L) (M:=M) hg) (Ht rfl) ⟨(Ht rfl),trivial⟩) (gJ Z_60 (Ht rfl) (Ht rfl) rfl (i:=0) rfl (aK rfl) rfl rfl (eW (fU rfl (fV (gQ A_60 Z_60 rfl (i:=0) rfl rfl) ?_))))
  exact (jA (by rw [if_pos hm]))
 ·refine cY (cU (fW (m := 15) (dp 3 rfl (dW A_26 Z_26 (Ht rfl)) (dp 0 rfl (cZ (Ht rfl)) (dE 25 0 26 1 rfl (dJ U_26 Z_25 (Ht rfl) (Ht rfl) rfl (eZ (eX (d := []) zo))) (dq 27 2 rfl (dW A_25 Z_25 (Ht rfl)) (dp 1 rfl (cZ (Ht rfl)) (dE 28 3 29 4 rfl (dJ U_25 Z_60 (Ht rfl) (Ht rfl) rfl (eZ (eX (d := Qi.zero) zo))) (dq 30 5 rfl (dW A_60 Z_60 (Ht rfl)) (dq 31 6 rfl (bT cD (Ht rfl)) (dp 4 rfl (dW A_26 Z_26 (Ht rfl)) ?_)))))))))))
  refine dp 0 rfl (cZ (Ht rfl)) (dE 33 8 34 9 rfl (dJ U_26 Z_25 (Ht rfl) (Ht rfl) rfl (eZ (eX (d:=[]) zo))) (dq 35 10 rfl (dW A_25 Z_25 (Ht rfl)) (dp 1 rfl (cZ (Ht rfl)) (dE 36 11 37 12 rfl (dJ U_25 Z_60 (Ht rfl) (Ht rfl) rfl (eZ (eX (d:=Qi.zero) zo))) (dq 38 13 rfl (dW A_60 Z_60 (Ht rfl)) (fK aS rfl (by kernel_rfl) (zF (zF (zF (aJ (aJ (aJ (aV ?_)))))))))))))
  refine ro rfl (bF lU K_71 (tW (x:=gm a i j) (y:=gm b i j) (L:=L) (M:=M) hg) (Ht rfl) ⟨(Ht rfl),trivial⟩) (gJ Z_60 (Ht rfl) (Ht rfl) rfl (i:=0) rfl (aK rfl) rfl rfl (eW (fU rfl (fV (gQ A_60 Z_60 rfl (i:=0) rfl rfl) ?_))))
  exact (jA (by rw [if_neg (by rw [hm]; decide)]))
theorem a5b {m:Bool} {a b:List (List Qi)} {n L M:Nat} (ha:cB a n n) (hb:cB b n n) (hfa:bE a L) (hfb:bE b M) (h1:1 ≤ L) (h2:1 ≤ M) (hg:L + M + 1 ≤ 17592186044415) (hn:n ≤ 1000):bB Tryz.prog 212 [dF a,dF b,aH m] (dF (pmM m a b n)):=by
 have hal:=ha.1
 refine bB.intro Tryz.func212 rfl Tryz.ntmps212 rfl (fun cx=>(ts (rn rfl (nV (Ht rfl)) fun B3=>(rn rfl (nV (Ht rfl)) fun B4=>(rn rfl (nV (Ht rfl)) fun B5=>(ro rfl (cX cW) (eW (cU (gG (i:=0) (tt:=3) rfl rfl jE (gG (i:=1) (tt:=4) rfl rfl jE (gG (i:=2) (tt:=5) rfl rfl jE (dQ (ro rfl (dW A_26 Z_26 (Ht rfl)) (ro rfl (dY U_26 (Ht rfl) (by rw [List.length_map,hal])) ?_))))))))))))))
 refine ro rfl (lO (γ:=Fin n × Fin n) (Ts:=fun x=>[NT .i64 x.1.1,NT .i64 x.2.1]) (U:=fun x=>aI (if m = true then gm a x.1.1 x.2.1 - gm b x.1.1 x.2.1 else gm a x.1.1 x.2.1 + gm b x.1.1 x.2.1)) Tryz.call258 (fun x=>a60 ha hb hfa hfb h1 h2 hg x.1.2 x.2.2) ⟨(Ht rfl),(Ht rfl),(Ht rfl),trivial⟩) (ro rfl (cJ K_110 (uE (n:=n) (f:=fun i j=>if m = true then gm a i j - gm b i j else gm a i j + gm b i j) hn) ⟨(Ht rfl),(Ht rfl),trivial⟩) (ra rfl (eW ?_)))
 exact fU rfl (fX rfl)
theorem a32 {Y M:List (List Qi)} {n L:Nat} (hM:cB M n n) (hf:bE M L) (hL:1 ≤ L) (h1:1 ≤ n) (hn:n ≤ 32) (hg:6 * lG L n + 4 ≤ 17592186044415) (hx:wN (lG L n) (n + 1) ≤ 17592186044415) (hE:pY M n ≠ 0):bB Tryz.prog 132 [dF Y,dF M] (eH [dF [],aL .i64 5]):=by
 refine bB.intro Tryz.func132 rfl Tryz.ntmps132 rfl (fun cx=>(ts (ro rfl (cX cW) (ro rfl (cX (cV 0)) (eW (ts (rm rfl (ro rfl (cJ Tryz.call224 (a7G hM hf hL h1 hn hg hx) ⟨(Ht rfl),trivial⟩) (rm rfl (ro rfl (eQ (Ht rfl) rfl) (ro rfl (eQ (Ht rfl) rfl) (ra rfl (ra rfl (eW (cU (ts (rm rfl (ro rfl (iM (Ht rfl) cW) (eW (rH (Ht rfl) (by simp [hE]) ?_))))))))))))))))))))
 refine ts (ro rfl (cX cW) (ro rfl (cX (cV 5)) (eW (bN rfl (fV (fX rfl) ?_) (fX rfl)))))
 exact (fun v V h=>iP v V h)
theorem a5N {z:List Qi} {s:List (List Qi)} {L:Nat} (hs:cB s z.length z.length) (hf:bE s L) (hL:1 ≤ L) (h1:1 ≤ z.length) (hn:z.length ≤ 8) (hg:6 * lG (L + 2) z.length + 4 ≤ 17592186044415) (hx:wN (lG (L + 2) z.length) (z.length + 1) ≤ 17592186044415) (hE:pY (pmM true (rQ z.length) s z.length) z.length ≠ 0):bB Tryz.prog 114 [cO z s] (eH [dF [],aL .i64 5]):=by
 have hgl:=rP (L + 2) z.length
 have hid:=nQ z.length
 have hif:bE (rQ z.length) 1:=Ch (Nat.le_refl 1)
 have hpf:bE (pmM true (rQ z.length) s z.length) (L + 2):=by have h:=a4m (m:=true) (n:=z.length) hif hf (Nat.le_refl 1) hL; rw [show L + 2 = 1 + L + 1 by omega]; exact h
 refine bB.intro Tryz.func114 rfl Tryz.ntmps114 rfl (fun cx=>(ts (rn rfl (fY (Ht rfl)) fun B1=>(ro rfl (cX cW) (ro rfl (cX (cV 0)) (eW (ts (ro rfl (eG eP (Ht rfl) rfl) (ro rfl (fZ A_25 Z_25 (Ht rfl) (i:=0) rfl rfl) (ro rfl (dY U_25 (Ht rfl) aB) (ro rfl (cJ Tryz.call144 (a7F (n:=z.length) zo) ⟨(Ht rfl),trivial⟩) (ra rfl (eW (cU (fW (m:=13) (dp 4 rfl (cZ (Ht rfl)) (dp 1 rfl (eG eD (Ht rfl) rfl) (dq 13 1 rfl (fZ A_26 Z_26 (Ht rfl) (i:=0) rfl rfl) ?_))))))))))))))))))
 refine dE 12 0 14 2 rfl (cJ Tryz.call212 (a5b (m:=false) (n:=z.length) (L:=1) (M:=L) hid hs hif hf (Nat.le_refl 1) hL zo zo) ⟨(Ht rfl),(Ht rfl),cW,trivial⟩) (dp 4 rfl (cZ (Ht rfl)) (dp 1 rfl (eG eD (Ht rfl) rfl) (dq 17 5 rfl (fZ A_26 Z_26 (Ht rfl) (i:=0) rfl rfl) (dE 16 4 18 6 rfl (cJ Tryz.call212 (a5b (m:=true) (n:=z.length) (L:=1) (M:=L) hid hs hif hf (Nat.le_refl 1) hL zo zo) ⟨(Ht rfl),(Ht rfl),cW,trivial⟩) (dE 15 3 19 7 rfl (cJ Tryz.call132 (a32 (n:=z.length) (L:=L + 2) a4n hpf zo h1 zo hg hx hE) ⟨(Ht rfl),(Ht rfl),trivial⟩) ?_)))))
 refine dq 20 8 rfl (cZ (Ht rfl)) (dq 11 9 rfl (eQ (Ht rfl) rfl) (dq 11 9 rfl (eQ (Ht rfl) rfl) (dq 21 10 rfl (cX (Ht rfl)) (fK aS rfl (by kernel_rfl) (zF (zF (zF (aJ (aV (ra rfl (eW (cU (ts (rm rfl (ro rfl (iM (Ht rfl) cW) (eW (rH (Ht rfl) (by rfl) ?_)))))))))))))))))
 refine ts (rm rfl (ro rfl (cX cW) (ra rfl (eW (bN rfl (fV (fX rfl) ?_) (fX rfl))))))
 exact (fun v V h=>iP v V h)
end
section
open Go Go.RowKit
theorem nN (x y:Qi):(x + y).conj = x.conj + y.conj:=Qi.ext' rfl (by show -(x.im + y.im) = -x.im + -y.im; grind)
theorem sI (x y:Qi):(x - y).conj = x.conj - y.conj:=Qi.ext' rfl (by show -(x.im - y.im) = -x.im - -y.im; grind)
theorem dS (x y:Qi):(x * y).conj = x.conj * y.conj:=Qi.ext' (by show x.re * y.re - x.im * y.im = x.re * y.re - -x.im * -y.im; grind) (by show -(x.re * y.im + x.im * y.re) = x.re * -y.im + -x.im * y.re; grind)
theorem fN:(0:Qi).conj = 0:=Qi.ext' rfl (by show -(0:Rat) = 0; grind)
theorem jY:(1:Qi).conj = 1:=Qi.ext' rfl (by show -(0:Rat) = 0; grind)
theorem jN (x:Qi):x.conj.conj = x:=Qi.ext' rfl (by show - -x.im = x.im; grind)
theorem nO (n:Nat) (f:Nat → Qi):(aC n f).conj = aC n fun i=>(f i).conj:=by
 induction n with
 | zero=>exact fN
 | succ n ih=>rw [gU,gU,nN,ih]
theorem gY (n:Nat) (a:Qi) (f:Nat → Qi):aC n (fun k=>a * f k) = a * aC n f:=by
 rw [show a * aC n f = aC n f * a by grind,← iL]; exact aA fun _ _=>by grind
def kG (N:Nat) (p q:Nat → Qi) (C:Nat → Nat → Qi):Qi:=aC N fun a=>aC N fun b=>p a * C a b * (q b).conj
theorem mA {N : Nat} {p q p' q' : Nat → Qi} {C C' : Nat → Nat → Qi} (hp : ∀ a, a < N → p a = p' a) (hq : ∀ a, a < N → q a = q' a) (hC : ∀ a b, a < N → b < N → C a b = C' a b) : kG N p q C = kG N p' q' C' :=
 aA fun a ha=>aA fun b hb=>by rw [hp a ha,hq b hb,hC a b ha hb]
theorem a1M {N:Nat} {p q:Nat → Qi} {C D:Nat → Nat → Qi}:kG N p q (fun a b=>C a b + D a b) = kG N p q C + kG N p q D:=by
 rw [kG,kG,kG,← jP]
 refine aA fun a _=>?_
 rw [← jP]
 exact aA fun b _=>by grind
theorem Fh {N:Nat} {p q:Nat → Qi} {C D:Nat → Nat → Qi}:kG N p q (fun a b=>C a b - D a b) = kG N p q C - kG N p q D:=by
 have h:=a1M (N:=N) (p:=p) (q:=q) (C:=fun a b=>C a b - D a b) (D:=D)
 rw [show (fun a b=>C a b - D a b + D a b) = C from funext fun a=>funext fun b=>by grind] at h
 grind
theorem a1N {N:Nat} {p q:Nat → Qi} {C:Nat → Nat → Qi} {t:Qi}:kG N p q (fun a b=>t * C a b) = t * kG N p q C:=by
 rw [kG,kG,← gY]
 refine aA fun a _=>?_
 rw [← gY]
 exact aA fun b _=>by grind
theorem uQ {N M : Nat} {p q : Nat → Qi} {r : Nat → Nat → Qi} {C : Nat → Nat → Qi} :
  kG N p q (fun a b=>kG M (r a) (r b) C) = kG M (fun u=>aC N fun a=>p a * r a u) (fun u=>aC N fun a=>q a * r a u) C:=by
 have e : ∀ u v, (aC N fun a => p a * r a u) * C u v * (aC N fun b => q b * r b v).conj = aC N fun a => aC N fun b => p a * (r a u * C u v * (r b v).conj) * (q b).conj := fun u v => by
  rw [nO,Qi.mul_assoc',← iL]
  refine aA fun a _=>?_
  rw [show p a * r a u * (C u v * aC N fun i=>(q i * r i v).conj) = (p a * r a u * C u v) * aC N fun i=>(q i * r i v).conj by grind,← gY]
  exact aA fun b _=>by rw [dS]; grind
 have r1 : kG M (fun u => aC N fun a => p a * r a u) (fun u => aC N fun a => q a * r a u) C = aC M fun u => aC M fun v => aC N fun a => aC N fun b => p a * (r a u * C u v * (r b v).conj) * (q b).conj :=
  aA fun u _=>aA fun v _=>e u v
 have l1 : kG N p q (fun a b => kG M (r a) (r b) C) = aC N fun a => aC N fun b => aC M fun u => aC M fun v => p a * (r a u * C u v * (r b v).conj) * (q b).conj := by
  refine aA fun a _=>aA fun b _=>?_
  show p a * (aC M fun u=>aC M fun v=>r a u * C u v * (r b v).conj) * (q b).conj = _
  rw [← gY,← iL]
  refine aA fun u _=>?_
  rw [← gY,← iL]
 rw [r1,l1]
 have s1 : ∀ a, (aC N fun b => aC M fun u => aC M fun v => p a * (r a u * C u v * (r b v).conj) * (q b).conj) = aC M fun u => aC M fun v => aC N fun b => p a * (r a u * C u v * (r b v).conj) * (q b).conj := fun a => by
  rw [iX]
  exact aA fun u _=>iX _ _ _
 rw [aA fun a _=>s1 a,iX]
 refine aA fun u _=>?_
 rw [iX]
theorem kR {N : Nat} {p q : Nat → Qi} {d : Nat → Qi} : kG N p q (fun a b => if a = b then d a else 0) = aC N fun k => p k * d k * (q k).conj := aA fun a ha => by
 rw [bO ha (fun b _ hb=>by show p a * (if a = b then d a else 0) * (q b).conj = 0; rw [if_neg (Ne.symm hb)]; grind)]
 show p a * (if a = a then d a else 0) * (q a).conj = _
 rw [if_pos rfl]
theorem qH {p c:List (List Qi)} {N a b:Nat} (hc:c.length = N) (ha:a < p.length) (hb:b < p.length):gm (wC p c) a b = kG N (gm p a) (gm p b) (gm c):=by
 rw [wC,eI ha hb,hc]; rfl
theorem a0l {p c : List (List Qi)} {t : Qi} {N : Nat} (hc : c.length = N) : wC p (sS t c N) = sS t (wC p c) p.length :=
 lB Dx cB.tab fun i hi j hj => by
  rw [qH (c:=sS t c N) (N:=N) (aE _ _) hi hj,show gm (sS t (wC p c) p.length) i j = t * gm (wC p c) i j from eI hi hj,qH hc hi hj,← a1N]
  exact mA (fun _ _=>rfl) (fun _ _=>rfl) fun a b ha hb=>eI ha hb
theorem Tp {z:List Qi} {i j:Nat} (hi:i < z.length) (hj:j < z.length):gm (Eb z) i j = if i = j then gv z i else 0:=by
 have e : gm (Eb z) i j = gv ((tab z.length fun _ => Qi.zero).set i (gv z i)) j := by
  show gv ((Eb z).getD i []) j = _
  rw [Eb,kT hi]
 rw [e,tN (by rw [aE]; exact hi)]
 by_cases c:i = j
 ·rw [if_pos c.symm,if_pos c]
 ·rw [if_neg (Ne.symm c),if_neg c,gF hj]; rfl
theorem qY {z:List Qi} {s:List (List Qi)} {i j:Nat} (hs:s.length = z.length) (hi:i < z.length) (hj:j < z.length):gm (iA z s) i j = (if i = j then gv z i else 0) - aC z.length fun k=>gm s i k * gv z k * (gm s j k).conj:=by
 rw [iA,eI hi hj,Tp hi hj,qH (a0y z).1 zo zo,← kR]
 congr 1
 exact mA (fun _ _=>rfl) (fun _ _=>rfl) fun a b ha hb=>Tp ha hb
section
variable {z:List Qi} {S c:List (List Qi)} {js:List (Int × Int)} {N:Nat}
theorem a3D {k:Nat}:k ∈ jnO js ↔ ∃ y,y < 2 * js.length ∧ gq (dA js) (kV y) = k:=by
 rw [jnO]
 constructor
 ·intro h; obtain ⟨y,hy,e⟩:=dR.1 h; exact ⟨y,hy,e⟩
 ·rintro ⟨y,hy,e⟩; exact dR.2 ⟨y,hy,e⟩
theorem a84 {k:Nat}:k ∈ jnO js ↔ k ∈ lQ js:=by
 rw [a3D,tP]
 constructor
 ·rintro ⟨y,hy,e⟩; exact ⟨kV y,pT hy,e⟩
 ·rintro ⟨y,hy,e⟩; exact ⟨kV y,pT hy,by rw [vR]; exact e⟩
theorem yA {i k:Nat} (hk:k ∉ lQ js):Ai S js i k = if k = i then 1 else 0:=by
 rw [Ai,if_neg fun h=>hk (a84.1 (Um.1 h)),gnB]; rfl
theorem a4C (hj : Jn (dA js) N js.length) {i : Nat} (hi : i < N) (hil : i ∉ lQ js) {r v : Nat → Qi} (h1 : ∀ k, k < N → k ∉ lQ js → r k = if k = i then 1 else 0) (h2 : ∀ y, y < 2 * js.length → r (gq (dA js) (kV y)) = v y) (F : Nat → Qi) :
  aC N (fun k=>r k * F k) = F i + aC (2 * js.length) fun y=>v y * F (gq (dA js) (kV y)):=by
 have e : ∀ k, k < N → r k * F k = (if k = i then F k else 0) + aC (2 * js.length) fun y => if gq (dA js) (kV y) = k then v y * F k else 0 := fun k hk => by
  by_cases c:k ∈ lQ js
  ·obtain ⟨x, hx, e⟩ := tP.1 c
   have hne:¬ k = i:=fun e=>hil (e ▸ c)
   have hp:=pT hx
   rw [if_neg hne, bO (i := kV x) hp (fun y hy hne => if_neg fun e2 => hne (by
    have:=hj.inj _ _ (pT hy) hx (e2.trans e.symm)
    rw [← this,vR])),vR,if_pos e,← h2 (kV x) hp,vR,e]; grind
  ·rw [h1 k hk c, cE fun y hy => if_neg fun e2 => c (tP.2 ⟨kV y, pT hy, e2⟩)]
   by_cases d:k = i
   ·rw [if_pos d,if_pos d]; grind
   ·rw [if_neg d,if_neg d]; grind
 rw [aA e,jP,bO hi (fun k _ hk=>if_neg hk),if_pos rfl,iX]
 congr 1
 exact aA fun y hy => by
  rw [bO (hj.lt (kV y) (pT hy)) (fun k _ hk=>if_neg (Ne.symm hk)),if_pos rfl]
theorem a3F {x:Nat} (hx:x < 2 * js.length) (v:Nat → Qi):aC (2 * js.length) (fun y=>gm (jnT S js) x y * v y) = v x - aC (2 * js.length) fun y=>v y * gm S (gq (dA js) (kV y)) (gq (dA js) x):=by
 have e : ∀ y, y < 2 * js.length → gm (jnT S js) x y * v y = (if y = x then v x else 0) - 1 * (v y * gm S (gq (dA js) (kV y)) (gq (dA js) x)) := fun y hy => by
  have:gm (jnT S js) x y = rdl x y - gm S (gq (dA js) (kV y)) (gq (dA js) x):=eI hx hy
  rw [this,rdl]
  by_cases c:y = x
  ·subst c; rw [if_pos rfl,if_pos rfl,q1]; grind
  ·rw [if_neg c,if_neg (Ne.symm c),show Qi.ofInt 0 = (0:Qi) from rfl]; grind
 rw [aA e,pN,bO hx (fun k _ hk=>if_neg hk),if_pos rfl]; grind
abbrev JK (S:List (List Qi)) (js:List (Int × Int)):Prop:=∀ b,jO (nR S (dA js) (2 * js.length)) b (2 * js.length) = 0
theorem a3E (hk:JK S js) {i x:Nat} (hx:x < 2 * js.length):gv (Uq S js i) x = gm S i (gq (dA js) x) + aC (2 * js.length) fun y=>gv (Uq S js i) y * gm S (gq (dA js) (kV y)) (gq (dA js) x):=by
 have h:=(mC (yF S js) (Qs hk zo (jnV S js i))).1 x hx
 rw [show gv (jnV S js i) x = gm S i (gq (dA js) x) from gF hx] at h
 have h2:=a3F (S:=S) hx (gv (Uq S js i))
 rw [show iK (jnT S js) (jnV S js i) (2 * js.length) = Uq S js i from rfl] at h
 rw [h] at h2
 grind
theorem Ug (hj : Jn (dA js) N js.length) (hk : JK S js) {i : Nat} (hi : i < N) (hil : i ∉ lQ js) (F : Nat → Qi) : aC N (fun k => Ai S js i k * F k) = F i + aC (2 * js.length) fun y => gv (Uq S js i) y * F (gq (dA js) (kV y)) :=
 a4C hj hi hil (fun _ _ h=>yA h) (fun _ hy=>a5k hj hk hil hy) F
theorem a81 (hj:Jn (dA js) N js.length) (hk:JK S js) {i:Nat} (hi:i < N) (hil:i ∉ lQ js) {x:Nat} (hx:x < 2 * js.length):aC N (fun k=>Ai S js i k * gm S k (gq (dA js) x)) = Ai S js i (gq (dA js) (kV x)):=by
 rw [Ug hj hk hi hil,a5k hj hk hil hx,a3E hk hx]
theorem a6j (hj:Jn (dA js) N js.length) (hk:JK S js) {i:Nat} (hi:i < N) (hil:i ∉ lQ js) (b:Nat):aC N (fun k=>Ai S js i k * gm S k b) = zQ S (dA js) (2 * js.length) i b:=by
 rw [Ug hj hk hi hil,zQ]
 congr 1
 have hM:=nS S (dA js) (2 * js.length)
 have hw:=(mC hM (hk (Bf S (dA js) (2 * js.length) b))).1
 have hq : ∀ y, y < 2 * js.length → aC (2 * js.length) (fun x => gv (Uq S js i) x * gm (nR S (dA js) (2 * js.length)) x y) = gm S i (gq (dA js) y) := fun y hy => by
  have h:=(mC (yF S js) (Qs hk zo (jnV S js i))).1 y hy
  rw [show gv (jnV S js i) y = gm S i (gq (dA js) y) from gF hy] at h
  rw [← h]
  exact aA fun x hx=>by rw [Qr hy hx]; show _ = _ * gv (Uq S js i) x; grind
 have e1 : aC (2 * js.length) (fun y => gv (Uq S js i) y * gm S (gq (dA js) (kV y)) b) = aC (2 * js.length) fun y => aC (2 * js.length) fun k => gv (Uq S js i) y * gm (nR S (dA js) (2 * js.length)) y k * gv (iK (nR S (dA js) (2 * js.length)) (Bf S (dA js) (2 * js.length) b) (2 * js.length)) k := aA fun y hy => by
  have h:=hw y hy
  rw [Qn hy] at h
  rw [← h,← gY]
  exact aA fun _ _=>by grind
 rw [e1,iX]
 exact aA fun k hkk=>by rw [iL,hq k hkk]
theorem a1c (G : List Nat) (f : Nat → Qi) : ∀ n, aC n (fun k => if k ∈ G then 0 else f k) = aC (gN G n).length fun a => f (cR (gN G n) a)
 | 0=>rfl
 | n + 1 => by
  rw [gU,a1c G f n,gN]
  by_cases c:n ∈ G
  ·rw [if_pos c,if_pos c,List.append_nil]; grind
  ·rw [if_neg c, if_neg c, List.length_append, show [n].length = 1 from rfl, gU]
   congr 1
   ·exact aA fun a ha=>by simp only [cR,List.getD,List.getElem?_append_left ha]
   ·simp [cR,List.getD]
theorem Mt (hj:Jn (dA js) N js.length) (f:Nat → Qi):aC N f = (aC (gN (lQ js) N).length fun a=>f (cR (gN (lQ js) N) a)) + aC (2 * js.length) fun y=>f (gq (dA js) y):=by
 rw [← a1c]
 have e : ∀ k, k < N → f k = (if k ∈ lQ js then 0 else f k) + aC (2 * js.length) fun y => if gq (dA js) y = k then f k else 0 := fun k hk => by
  by_cases c:k ∈ lQ js
  ·obtain ⟨x, hx, e⟩ := tP.1 c
   rw [if_pos c,bO hx (fun y hy hne=>if_neg fun e2=>hne (hj.inj _ _ hy hx (e2.trans e.symm))),if_pos e]; grind
  ·rw [if_neg c,cE fun y hy=>if_neg fun e2=>c (tP.2 ⟨y,hy,e2⟩)]; grind
 rw [aA e,jP]
 congr 1
 rw [iX]
 exact aA fun y hy=>by rw [bO (hj.lt y hy) (fun k _ hk=>if_neg (Ne.symm hk)),if_pos rfl]
theorem Vr (f : Nat → Qi) : ∀ m, aC (2 * m) (fun y => f (kV y)) = aC (2 * m) f
 | 0=>rfl
 | m + 1 => by
  rw [show 2 * (m + 1) = 2 * m + 1 + 1 by omega,gU,gU,gU,gU,Vr f m,show kV (2 * m) = 2 * m + 1 by unfold kV; split <;> omega,show kV (2 * m + 1) = 2 * m by unfold kV; split <;> omega]; grind
theorem Ew {G:List Nat} {n a:Nat} (h:a < (gN G n).length):cR (gN G n) a ∉ G:=by
 have : ∀ n x, x ∈ gN G n → x ∉ G := fun n => by
  induction n with
  | zero=>intro x h; cases h
  | succ n ih =>
   intro x h
   rcases List.mem_append.1 h with h1 | h1
   ·exact ih x h1
   ·by_cases c : n ∈ G
    ·rw [if_pos c] at h1; cases h1
    ·rw [if_neg c] at h1; rw [List.mem_singleton.1 h1]; exact c
 refine this n _ ?_
 rw [show cR (gN G n) a = (gN G n)[a] by simp [cR,List.getD,h]]; exact List.getElem_mem h
theorem Ur {G:List Nat} {n a:Nat} (h:a < (gN G n).length):cR (gN G n) a < n:=sA (fun _ k=>wX k) h
theorem Hr (G : List Nat) : ∀ n, (gN G n).Pairwise (· < ·)
 | 0=>List.Pairwise.nil
 | n + 1 => by
  rw [gN,List.pairwise_append]
  refine ⟨Hr G n,?_,fun a ha b hb=>?_⟩
  ·split
   ·exact List.Pairwise.nil
   ·exact List.pairwise_singleton _ _
  ·have := wX ha
   split at hb
   ·cases hb
   ·rw [List.mem_singleton.1 hb]; exact this
theorem Mw {G:List Nat} {n a b:Nat} (ha:a < (gN G n).length) (hb:b < (gN G n).length) (e:cR (gN G n) a = cR (gN G n) b):a = b:=by
 have hs:=List.pairwise_iff_getElem.1 (Hr G n)
 have e1:∀ i (h:i < (gN G n).length),cR (gN G n) i = (gN G n)[i]:=fun i h=>by simp [cR,List.getD,h]
 rw [e1 a ha,e1 b hb] at e
 rcases Nat.lt_trichotomy a b with c | c | c
 ·have:=hs a b ha hb c; omega
 ·exact c
 ·have:=hs b a hb ha c; omega
theorem a0U {a k:Nat} (ha:a < (gN (lQ js) N).length) (hk:k < N):gm (Ce S js N) a k = Ai S js (cR (gN (lQ js) N) a) k:=by
 rw [Ce,Qm ha,gF hk]
theorem Te (hS : cB S z.length z.length) (hj : Jn (dA js) z.length js.length) (hk : JK S js) (hz : ∀ y, y < 2 * js.length → gv z (gq (dA js) y) = gv z (gq (dA js) (kV y))) :
  wC (Ce S js z.length) (iA z S) = iA (Bq z js) (Ak z S js):=by
 have hl:(Ce S js z.length).length = (gN (lQ js) z.length).length:=by rw [Ce,List.length_map]
 have hzl:(Bq z js).length = (gN (lQ js) z.length).length:=aE _ _
 have hsl:(Ak z S js).length = (Bq z js).length:=by rw [Ak,aE,hzl]; rfl
 refine lB (n:=(gN (lQ js) z.length).length) (m:=(gN (lQ js) z.length).length) (by rw [← hl]; exact Dx) (by rw [← hzl]; exact lZ _ _) fun a ha b hb=>?_
 have fa:=Ew ha
 have fb:=Ew hb
 have la:=Ur ha
 have lb:=Ur hb
 have hab:a = b ↔ cR (gN (lQ js) z.length) a = cR (gN (lQ js) z.length) b:=⟨fun e=>e ▸ rfl,Mw ha hb⟩
 rw [qH (N:=z.length) (lZ z S).1 zo zo,qY hsl zo zo,hzl]
 have e1:∀ k,k < (gN (lQ js) z.length).length → gm (Ak z S js) a k = zQ S (dA js) (2 * js.length) (cR (gN (lQ js) z.length) a) (cR (gN (lQ js) z.length) k):=fun k hk=>eI ha hk
 have e2:∀ k,k < (gN (lQ js) z.length).length → gm (Ak z S js) b k = zQ S (dA js) (2 * js.length) (cR (gN (lQ js) z.length) b) (cR (gN (lQ js) z.length) k):=fun k hk=>eI hb hk
 have e3:∀ k,k < (gN (lQ js) z.length).length → gv (Bq z js) k = gv z (cR (gN (lQ js) z.length) k):=fun k hk=>gF hk
 rw [e3 a ha,aA fun k hk=>by rw [e1 k hk,e2 k hk,e3 k hk]]
 have q0 : kG z.length (gm (Ce S js z.length) a) (gm (Ce S js z.length) b) (gm (iA z S)) = kG z.length (Ai S js (cR (gN (lQ js) z.length) a)) (Ai S js (cR (gN (lQ js) z.length) b)) (fun u v => (if u = v then gv z u else 0) - kG z.length (gm S u) (gm S v) (fun x y => if x = y then gv z x else 0)) :=
  mA (fun k hk=>a0U ha hk) (fun k hk=>a0U hb hk) fun u v hu hv=>by rw [qY hS.1 hu hv,kR]
 rw [q0,Fh,kR,uQ,kR]
 generalize hA:cR (gN (lQ js) z.length) a = A at *
 generalize hB:cR (gN (lQ js) z.length) b = B at *
 rw [Mt hj,Mt hj (fun k=>(aC z.length fun a_1=>Ai S js A a_1 * gm S a_1 k) * gv z k * (aC z.length fun a_1=>Ai S js B a_1 * gm S a_1 k).conj)]
 have p1 : aC (gN (lQ js) z.length).length (fun k => Ai S js A (cR (gN (lQ js) z.length) k) * gv z (cR (gN (lQ js) z.length) k) * (Ai S js B (cR (gN (lQ js) z.length) k)).conj) = if a = b then gv z A else 0 := by
  rw [bO ha (fun k hk hne => by
   rw [yA (Ew hk),if_neg fun e=>hne (Mw hk ha (e.trans hA.symm))]; grind),hA,yA fa,if_pos rfl,yA fa]
  by_cases c:a = b
  ·rw [if_pos c,if_pos (hab.1 c),jY]; grind
  ·rw [if_neg c,if_neg fun e=>c (hab.2 e),fN]; grind
 have p2 : aC (2 * js.length) (fun y => (aC z.length fun k => Ai S js A k * gm S k (gq (dA js) y)) * gv z (gq (dA js) y) * (aC z.length fun k => Ai S js B k * gm S k (gq (dA js) y)).conj) = aC (2 * js.length) fun y => Ai S js A (gq (dA js) y) * gv z (gq (dA js) y) * (Ai S js B (gq (dA js) y)).conj := by
  rw [← Vr (fun y=>Ai S js A (gq (dA js) y) * gv z (gq (dA js) y) * (Ai S js B (gq (dA js) y)).conj)]
  exact aA fun y hy=>by rw [a81 hj hk la fa hy,a81 hj hk lb fb hy,hz y hy]
 have p3 : aC (gN (lQ js) z.length).length (fun k => (aC z.length fun u => Ai S js A u * gm S u (cR (gN (lQ js) z.length) k)) * gv z (cR (gN (lQ js) z.length) k) * (aC z.length fun u => Ai S js B u * gm S u (cR (gN (lQ js) z.length) k)).conj) = aC (gN (lQ js) z.length).length fun k => zQ S (dA js) (2 * js.length) A (cR (gN (lQ js) z.length) k) * gv z (cR (gN (lQ js) z.length) k) * (zQ S (dA js) (2 * js.length) B (cR (gN (lQ js) z.length) k)).conj :=
  aA fun k _=>by rw [a6j hj hk la fa,a6j hj hk lb fb]
 rw [p1,p2,p3]
 grind
theorem a83 (hd:Be z js = 0) {y:Nat} (hy:y < 2 * js.length):gv z (gq (dA js) y) = gv z (gq (dA js) (kV y)):=by
 have key : ∀ k, k < js.length → gv z (gq (dA js) (2 * k)) = gv z (gq (dA js) (2 * k + 1)) := fun k hk => by
  obtain ⟨_,_,e⟩:=Mu (iC hd k hk)
  rw [(a5q hk).1,(a5q hk).2]; exact e
 have h:=key (y / 2) zo
 by_cases c:y % 2 = 0
 ·rw [show kV y = 2 * (y / 2) + 1 by unfold kV; rw [if_pos c]; omega,← h]; congr 2; omega
 ·rw [show kV y = 2 * (y / 2) by unfold kV; rw [if_neg c]; omega,h]; congr 2; omega
theorem Cf {z zb:List Qi} {k:Nat} (h:k < z.length):gv (z ++ zb) k = gv z k:=by simp only [gv,List.getD,List.getElem?_append_left h]
theorem Jr {z zb:List Qi} {k:Nat}:gv (z ++ zb) (z.length + k) = gv zb k:=by simp only [gv,List.getD,List.getElem?_append_right (Nat.le_add_right _ _),Nat.add_sub_cancel_left]
theorem Nn {z zb:List Qi} {a b:List (List Qi)} (ha:a.length = z.length) (hb:b.length = zb.length):iA (z ++ zb) (nI a b z.length zb.length) = nI (iA z a) (iA zb b) z.length zb.length:=by
 have hl:(z ++ zb).length = z.length + zb.length:=List.length_append
 refine lB (n:=z.length + zb.length) (m:=z.length + zb.length) (by rw [← hl]; exact lZ _ _) (mV _ _ _ _) fun i hi j hj=>?_
 have g1:∀ i k,i < z.length → k < z.length → gm (nI a b z.length zb.length) i k = gm a i k:=fun i k h1 h2=>by rw [dP zo zo,if_pos h1,if_pos h2]
 have g2:∀ i k,i < z.length → k < zb.length → gm (nI a b z.length zb.length) i (z.length + k) = 0:=fun i k h1 h2=>by rw [dP zo zo,if_pos h1,if_neg zo]; rfl
 have g3:∀ i k,i < zb.length → k < z.length → gm (nI a b z.length zb.length) (z.length + i) k = 0:=fun i k h1 h2=>by rw [dP zo zo,if_neg zo,if_neg zo]; rfl
 have g4:∀ i k,i < zb.length → k < zb.length → gm (nI a b z.length zb.length) (z.length + i) (z.length + k) = gm b i k:=fun i k h1 h2=>by rw [dP zo zo,if_neg zo,if_pos zo,Nat.add_sub_cancel_left,Nat.add_sub_cancel_left]
 rw [qY (by rw [(mV _ _ _ _).1,hl]) zo zo,hl,oB]
 by_cases ci:i < z.length
 ·by_cases cj : j < z.length
  ·rw [dP hi hj, if_pos ci, if_pos cj, qY ha ci cj, Cf ci, cE (m := zb.length) fun k hk => by rw [g2 i k ci hk]; grind]
   rw [aA fun k hk=>by rw [g1 i k ci hk,g1 j k cj hk,Cf hk]]; grind
  ·obtain ⟨j', rfl⟩ : ∃ j', j = z.length + j' := ⟨j - z.length, by omega⟩
   rw [dP hi hj,if_pos ci,if_neg cj,if_neg zo,cE (m:=zb.length) (fun k hk=>by rw [g2 i k ci hk]; grind),cE fun k hk=>by rw [g3 j' k zo hk,fN]; grind]
   show _ = (0:Qi); grind
 ·obtain ⟨i', rfl⟩ : ∃ i', i = z.length + i' := ⟨i - z.length, by omega⟩
  by_cases cj:j < z.length
  ·rw [dP hi hj, if_neg ci, if_neg zo, if_neg zo, cE (m := z.length) (fun k hk => by rw [g3 i' k zo hk]; grind), cE fun k hk => by rw [g2 j k cj hk, fN]; grind]
   show _ = (0:Qi); grind
  ·obtain ⟨j', rfl⟩ : ∃ j', j = z.length + j' := ⟨j - z.length, by omega⟩
   rw [dP hi hj,if_neg ci,if_pos (show z.length ≤ z.length + j' by omega),Nat.add_sub_cancel_left,Nat.add_sub_cancel_left,qY hb zo zo,Jr,cE (m:=z.length) fun k hk=>by rw [g3 i' k zo hk]; grind]
   rw [aA fun k hk=>by rw [g4 i' k zo hk,g4 j' k zo hk,Jr]]
   by_cases c:i' = j'
   ·rw [if_pos c,if_pos (show z.length + i' = z.length + j' by omega)]; grind
   ·rw [if_neg c,if_neg (show ¬ z.length + i' = z.length + j' by omega)]; grind
theorem a1X {c d : List (List Qi)} {t : Qi} {x y : Nat} : sS t (nI c d x y) (x + y) = nI (sS t c x) (sS t d y) x y := lB Fm (mV _ _ _ _) fun i hi j hj => by
 rw [sS,eI hi hj,dP hi hj,dP hi hj]
 by_cases ci:i < x
 ·rw [if_pos ci, if_pos ci]
  by_cases cj:j < x
  ·rw [if_pos cj,if_pos cj,sS,eI ci cj]
  ·rw [if_neg cj,if_neg cj]; show t * (0:Qi) = 0; grind
 ·rw [if_neg ci, if_neg ci]
  by_cases cj:x ≤ j
  ·rw [if_pos cj,if_pos cj,sS,eI zo zo]
  ·rw [if_neg cj,if_neg cj]; show t * (0:Qi) = 0; grind
end
end
section
open Go Go.RowKit
section
variable {z w:List Qi} {s:List (List Qi)} {n:Nat}
theorem a71 (hw:w.length = n) {i j:Nat} (hi:i < n) (hj:j < n):gm (Yo z w s) i j = (if i = j then 1 - mB z w i else 0) + (1 + mB z w i) * gm s i j:=by
 subst hw
 have e:gm (Yo z w s) i j = mxE (Zc z w) (Zd z w) s i j:=eI hi hj
 rw [e,mxE,Zc,Zd,gF hi,gF hi]; rfl
theorem a1V (hw:w.length = n) {i j:Nat} (hi:i < n) (hj:j < n):gm (An z w s) i j = (if i = j then 1 + mB z w i else 0) + (1 - mB z w i) * gm s i j:=by
 subst hw
 have e:gm (An z w s) i j = mxE (Zd z w) (Zc z w) s i j:=eI hi hj
 rw [e,mxE,Zc,Zd,gF hi,gF hi]; rfl
theorem Kr (hz:z.length = n) (hw:w.length = n) (h:Lf z w s = 0):w.all eA = true ∧ pY (An z w s) n = 0 ∧ rB z w s = oF (Yo z w s) (rF (An z w s) n) n n n ∧ rnZ z w s = w:=by
 have e:=h
 rw [Lf,if_neg zo] at e
 by_cases c:w.all eA = true
 ·rw [if_pos c] at e
  subst hw
  exact ⟨c,a1E e,by rw [rB,iD,if_pos h],by rw [rnZ,iD,if_pos h]⟩
 ·rw [if_neg c] at e; omega
end
end
section
open Go Go.RowKit
section
variable {z w:List Qi} {s c:List (List Qi)} {n:Nat}
def Va (z w:List Qi) (S:List (List Qi)) (i k:Nat):Qi:=if i = k then (1 + mB z w k) * yB - gm S i k * ((1 - mB z w k) * yB) else -(gm S i k * ((1 - mB z w k) * yB))
def nrM (z w:List Qi) (S:List (List Qi)) (n:Nat):List (List Qi):=tab n fun i=>tab n fun k=>Va z w S i k
theorem a1q {S:List (List Qi)} {i k:Nat}:Va z w S i k = (if i = k then (1 + mB z w k) * yB else 0) - gm S i k * ((1 - mB z w k) * yB):=by
 unfold Va
 by_cases e:i = k
 ·rw [if_pos e,if_pos e]
 ·rw [if_neg e,if_neg e]; grind
theorem Vb (z w:List Qi) (S:List (List Qi)) (n:Nat):cB (nrM z w S n) n n:=cB.tab
theorem a1r {S:List (List Qi)} {i k:Nat} (hi:i < n) (hk:k < n):gm (nrM z w S n) i k = Va z w S i k:=eI hi hk
theorem a74 (hz:z.length = n) (hw:w.length = n) (h:Lf z w s = 0) {i j:Nat} (hi:i < n) (hj:j < n):(aC n fun u=>gm (rB z w s) i u * gm (An z w s) u j) = gm (Yo z w s) i j:=by
 obtain ⟨hq,hiB,hS,-⟩:=Kr hz hw h
 have hBs:cB (An z w s) n n:=by rw [← hw]; exact vM _ _ _ _
 have l:=a5l hBs hiB
 have e1:∀ u,u < n → gm (rB z w s) i u = aC n fun v=>gm (Yo z w s) i v * gm (rF (An z w s) n) v u:=fun u hu=>by rw [hS,nU hi hu]
 have e2:∀ v,v < n → (aC n fun u=>gm (rF (An z w s) n) v u * gm (An z w s) u j) = if v = j then 1 else 0:=fun v hv=>by rw [← nU hv hj,l,wK hv hj]
 have e3 : ∀ u, u < n → gm (rB z w s) i u * gm (An z w s) u j = aC n fun v => gm (Yo z w s) i v * (gm (rF (An z w s) n) v u * gm (An z w s) u j) := fun u hu => by
  rw [e1 u hu,← iL]; exact aA fun v _=>by grind
 rw [aA e3,iX]
 have e4:∀ v,v < n → (aC n fun u=>gm (Yo z w s) i v * (gm (rF (An z w s) n) v u * gm (An z w s) u j)) = gm (Yo z w s) i v * (if v = j then 1 else 0):=fun v hv=>by rw [gY,e2 v hv]
 rw [aA e4,bO hj (fun v _ hne=>by rw [if_neg hne]; grind),if_pos rfl]; grind
theorem a8k (hz : z.length = n) (hw : w.length = n) (h : Lf z w s = 0) {i j : Nat} (hi : i < n) (hj : j < n) :
  (aC n fun u=>gm (rB z w s) i u * ((1 - mB z w u) * gm s u j)) = (if i = j then 1 - mB z w i else 0) + (1 + mB z w i) * gm s i j - gm (rB z w s) i j * (1 + mB z w j):=by
 have a:=a74 hz hw h hi hj
 rw [a71 hw hi hj] at a
 have e : ∀ u, u < n → gm (rB z w s) i u * gm (An z w s) u j = (if u = j then gm (rB z w s) i u * (1 + mB z w u) else 0) + gm (rB z w s) i u * ((1 - mB z w u) * gm s u j) := fun u hu => by
  rw [a1V hw hu hj]
  by_cases k:u = j
  ·rw [if_pos k,if_pos k]; grind
  ·rw [if_neg k,if_neg k]; grind
 rw [aA e,jP,bO hj (fun u _ hne=>if_neg hne),if_pos rfl] at a
 grind
theorem a8F (hz : z.length = n) (hw : w.length = n) (h : Lf z w s = 0) {i j : Nat} (hi : i < n) (hj : j < n) :
  (aC n fun u=>Va z w (rB z w s) i u * gm s u j) = yB * (gm (rB z w s) i j * (1 + mB z w j) - if i = j then 1 - mB z w i else 0):=by
 have e : ∀ u, u < n → Va z w (rB z w s) i u * gm s u j = (if u = i then (1 + mB z w i) * yB * gm s i j else 0) - yB * (gm (rB z w s) i u * ((1 - mB z w u) * gm s u j)) := fun u hu => by
  rw [a1q]
  by_cases k:u = i
  ·subst k; rw [if_pos rfl,if_pos rfl]; grind
  ·rw [if_neg k,if_neg (Ne.symm k)]; grind
 rw [aA e,pN,bO hi (fun u _ hne=>if_neg hne),if_pos rfl,a8k hz hw h hi hj]
 grind
abbrev dl (i k:Nat):Qi:=if i = k then 1 else 0
theorem sU {n:Nat} (f g:Nat → Qi):aC n f - aC n g = aC n fun k=>f k - g k:=by
 rw [aA (f:=fun k=>f k - g k) (g:=fun k=>f k - 1 * g k) (fun k _=>by grind),pN]; grind
theorem a69 {i k:Nat} (e:i = k):dl i k = 1:=if_pos e
theorem a68 {i k:Nat} (e:¬ i = k):dl i k = 0:=if_neg e
theorem o11 (x:Qi):1 * 1 * x = x:=by grind
theorem o10 (x:Qi):1 * 0 * x = 0:=by grind
theorem a3m (i k:Nat):(dl i k).conj = dl i k:=by
 unfold dl
 by_cases e:i = k
 ·rw [if_pos e]; exact jY
 ·rw [if_neg e]; exact fN
theorem a1p {S:List (List Qi)} {i k:Nat}:Va z w S i k = dl i k * ((1 + mB z w k) * yB) - gm S i k * ((1 - mB z w k) * yB):=by
 rw [a1q]
 by_cases e:i = k
 ·rw [if_pos e,a69 e]; grind
 ·rw [if_neg e,a68 e]; grind
theorem a5s (hz : z.length = n) (hw : w.length = n) (h : Lf z w s = 0) {i j : Nat} (hi : i < n) (hj : j < n) :
  (aC n fun u=>Va z w (rB z w s) i u * gm s u j) = yB * (gm (rB z w s) i j * (1 + mB z w j) - dl i j * (1 - mB z w j)):=by
 rw [a8F hz hw h hi hj]
 by_cases e:i = j
 ·rw [if_pos e,a69 e,e]; grind
 ·rw [if_neg e,a68 e]; grind
theorem a6C {a b r x x' y h:Qi} (h4:h * h * 4 = 1):(a * ((1 + r) * h) - x * ((1 - r) * h)) * y * (b * ((1 + r) * h) - x' * ((1 - r) * h)) - (h * (x * (1 + r) - a * (1 - r))) * y * (h * (x' * (1 + r) - b * (1 - r))) = a * b * (r * y) - x * (r * y) * x':=by grind
theorem a0W:yB * yB * 4 = 1:=by rw [show yB * yB * 4 = (yB * 2) * (yB * 2) by grind,a8C]; grind
theorem a0p:yB.conj = yB:=by decide +kernel
theorem vQ {x:Qi} (h:eA x = true):x.conj = x:=by
 have hb:=a6S h
 have e : x.im = 0 := by
  have h2:=(Bv x).2
  rw [hb] at h2
  have hd : ((x.den : Int) : Rat) ≠ 0 := by
   have:=x.den_pos
   intro k
   have:(x.den:Int) = 0:=by exact_mod_cast k
   omega
  have h3:((x.den:Int):Rat) * x.im = 0:=by rw [h2]; rfl
  rcases Rat.mul_eq_zero.1 h3 with k | k
  ·exact absurd k hd
  ·exact k
 exact Qi.ext' rfl (by show -x.im = x.im; rw [e]; rfl)
theorem Nx (hz:z.length = n) (hw:w.length = n) (hp:z.all eA = true) (hq:w.all eA = true) {k:Nat} (hk:k < n):(mB z w k).conj = mB z w k ∧ mB z w k * gv z k = gv w k:=by
 have hne:=nK hp (show k < z.length by omega)
 have e:=rY (x:=gv w k) hne
 have e2:mB z w k * gv z k = gv w k:=e
 have pz : eA (gv z k) = true := by
  rw [List.all_eq_true] at hp
  exact hp _ (by rw [show gv z k = z[k]'zo by simp [gv,List.getD,show k < z.length by omega]]; exact List.getElem_mem _)
 have pw : eA (gv w k) = true := by
  rw [List.all_eq_true] at hq
  exact hq _ (by rw [show gv w k = w[k]'zo by simp [gv,List.getD,show k < w.length by omega]]; exact List.getElem_mem _)
 refine ⟨?_,e2⟩
 have c:=congrArg Qi.conj e2
 rw [dS,vQ pz,vQ pw] at c
 have d:((mB z w k).conj - mB z w k) * gv z k = 0:=by grind
 rcases gL d with k1 | k1
 ·grind
 ·exact absurd k1 hne
theorem a6D (hz:z.length = n) (hw:w.length = n) (hs:cB s n n) (hp:z.all eA = true) (h:Lf z w s = 0):wC (nrM z w (rB z w s) n) (iA z s) = iA w (rB z w s):=by
 obtain ⟨hq,-,hS,-⟩:=Kr hz hw h
 have hS2:cB (rB z w s) n n:=by rw [hS]; exact nT
 have hl:=(Vb z w (rB z w s) n).1
 refine lB (n:=n) (m:=n) (by have:=Dx (p:=nrM z w (rB z w s) n) (c:=iA z s); rwa [hl] at this) (by have:=lZ w (rB z w s); rwa [hw] at this) fun i hi j hj=>?_
 rw [qH (N:=n) (by rw [(lZ z s).1,hz]) zo zo,qY (by rw [hS2.1,hw]) zo zo,hw]
 have q0 : kG n (gm (nrM z w (rB z w s) n) i) (gm (nrM z w (rB z w s) n) j) (gm (iA z s)) = kG n (Va z w (rB z w s) i) (Va z w (rB z w s) j) (fun u v => (if u = v then gv z u else 0) - kG n (gm s u) (gm s v) (fun x y => if x = y then gv z x else 0)) :=
  mA (fun k hk=>a1r hi hk) (fun k hk=>a1r hj hk) fun u v hu hv=>by rw [qY (by rw [hs.1,hz]) zo zo,hz,kR]
 rw [q0,Fh,kR,uQ,kR]
 have t : ∀ k, k < n → Va z w (rB z w s) i k * gv z k * (Va z w (rB z w s) j k).conj - (aC n fun a => Va z w (rB z w s) i a * gm s a k) * gv z k * (aC n fun a => Va z w (rB z w s) j a * gm s a k).conj
   = dl i k * dl j k * gv w k - gm (rB z w s) i k * gv w k * (gm (rB z w s) j k).conj:=fun k hk=>by
  obtain ⟨rc,re⟩:=Nx hz hw hp hq hk
  rw [a5s hz hw h hi hk,a5s hz hw h hj hk,a1p,a1p]
  simp only [sI,dS,nN,jY,a3m,rc,a0p]
  rw [a6C a0W,re]
 rw [sU,aA t,← sU,bO hi (fun k _ hne=>by rw [show dl i k = 0 from if_neg (Ne.symm hne)]; grind),show dl i i = 1 from if_pos rfl]
 congr 1
 by_cases k:i = j
 ·rw [if_pos k,a69 k.symm,o11]
 ·rw [if_neg k,a68 (Ne.symm k),o10]
end
section
variable {z:List Qi} {s:List (List Qi)} {n:Nat}
def Bs (z:List Qi) (s:List (List Qi)) (i k m:Nat):Qi:=(if i = k then 1 / gv z i else 0) - aC m fun m=>(gm s m i).conj * gm s m k / gv z m
def xJ (z:List Qi) (s:List (List Qi)):List (List Qi):=tab z.length fun i=>tab z.length fun k=>Bs z s i k z.length
end
section
variable {z:List Qi} {s:List (List Qi)} {l:List Int}
theorem Er : ∀ (n : Nat) (q : Nat → Nat), (∀ i, i < n → q i < n) → (∀ i j, i < n → j < n → q i = q j → i = j) → ∀ k, k < n → ∃ i, i < n ∧ q i = k
 | 0,_,_,_,k,hk=>by omega
 | n + 1, q, hq, hi, k, hk => by
  have hqn:=hq n zo
  obtain ⟨hlt, hinj⟩ : (∀ i, i < n → (if q i = n then q n else q i) < n) ∧ ∀ i j, i < n → j < n → (if q i = n then q n else q i) = (if q j = n then q n else q j) → i = j := by
   constructor
   ·intro i h
    have a:=hq i zo
    by_cases c:q i = n
    ·rw [if_pos c]
     have:q n ≠ n:=fun e=>by have:=hi i n zo zo (c.trans e.symm); omega
     omega
    ·rw [if_neg c]; omega
   ·intro i j h1 h2 e
    by_cases c:q i = n
    ·by_cases d : q j = n
     ·exact hi i j zo zo (c.trans d.symm)
     ·rw [if_pos c, if_neg d] at e
      have:=hi n j zo zo e; omega
    ·by_cases d : q j = n
     ·rw [if_neg c, if_pos d] at e
      have:=hi i n zo zo e; omega
     ·rw [if_neg c,if_neg d] at e; exact hi i j zo zo e
  by_cases c:k = q n
  ·exact ⟨n,by omega,c.symm⟩
  ·by_cases d : k = n
   ·subst d
    obtain ⟨i,h1,h2⟩:=Er k _ hlt hinj (q k) zo
    by_cases e:q i = k
    ·exact ⟨i,by omega,e⟩
    ·rw [if_neg e] at h2
     have:=hi i k zo zo h2; omega
   ·obtain ⟨i, h1, h2⟩ := Er n _ hlt hinj k zo
    by_cases e:q i = n
    ·rw [if_pos e] at h2; exact absurd h2.symm c
    ·rw [if_neg e] at h2; exact ⟨i,by omega,h2⟩
theorem a1F {Q:List Nat} {n:Nat} (hl:Q.length = n) (hlt:∀ x,x ∈ Q → x < n) (hinj:∀ i j,i < n → j < n → cR Q i = cR Q j → i = j) (f:Nat → Qi):(aC n fun i=>f (cR Q i)) = aC n f:=by
 have hq:∀ i,i < n → cR Q i < n:=fun i hi=>sA hlt zo
 have e1 : (aC n fun i => f (cR Q i)) = aC n fun i => aC n fun k => if cR Q i = k then f k else 0 := aA fun i hi => by
  rw [bO (hq i hi) (fun k _ hne=>if_neg (Ne.symm hne)),if_pos rfl]
 rw [e1,iX]
 exact aA fun k hk => by
  obtain ⟨i,hi,e2⟩:=Er n (cR Q) hq hinj k hk
  rw [bO hi (fun j hj hne=>if_neg fun e3=>hne (hinj j i hj hi (e3.trans e2.symm))),if_pos e2]
end
section
variable {z:List Qi} {s:List (List Qi)} {g t:Qi} {p n:Nat}
theorem a4R (hz:z.length = n) (hs:cB s n n) (hp:p < n) (hn:n ≠ 1) (hd:Vc s g p ≠ 0):ntC z s (sS t (iA z s) n) g t p = sS t (iA (zA z p (n - 1)) (Ox s p (n - 1) (kW s p g))) (n - 1):=by
 have hzl:(z ++ [gv z p]).length = n + 1:=by rw [List.length_append,hz]; rfl
 have hd1:=a2K hz hp
 have hj:=Eu hd1
 rw [hzl] at hj
 have hk : JK (jD s g n) (J1 p n) := fun b => by
  have:=Cn (S:=jD s g n) (p:=p) (q:=n) (bb:=b)
  rw [Xx]; exact this.2 (a00 hp hd)
 have hb:cB (jD s g n) (n + 1) (n + 1):=mV _ _ _ _
 have yB:=Cj hp
 have hl1:=yI hp
 -- the noise of both
 have c1 : nI (sS t (iA z s) n) [[t * (gv z p * (Qi.ofInt 1 - g * g.conj))]] n 1 = sS t (iA (z ++ [gv z p]) (jD s g n)) (n + 1) := by
  rw [← a1d,← a1X]
  congr 1
  have:=Nn (z:=z) (zb:=[gv z p]) (a:=s) (b:=[[g]]) (by rw [hs.1,hz]) rfl
  rw [hz] at this
  exact this.symm
 have c2:=a1s (z:=z) (s:=s) (c:=sS t (iA z s) n) (g:=g) (t:=t) (p:=p) hz hp Fm hd (Qy (z:=z) (g:=g) (t:=t) (p:=p))
 rw [← c2,c1]
 have c3:=Te (z:=z ++ [gv z p]) (S:=jD s g n) (js:=J1 p n) (by rw [hzl]; exact hb) (by rw [hzl]; exact hj) hk fun y hy=>a83 hd1 hy
 rw [hzl] at c3
 have c4:(iA (z ++ [gv z p]) (jD s g n)).length = n + 1:=by rw [(lZ _ _).1,hzl]
 rw [a0l c4,c3]
 have g1:(Ce (jD s g n) (J1 p n) (n + 1)).length = n - 1:=by rw [Ce,List.length_map,yB,hl1]
 have z0 : Bq (z ++ [gv z p]) (J1 p n) = zA z p (n - 1) := by
  rw [Bq,eL,hzl,yB,rR,Oo,tI hp]
  exact bR fun i hi=>Cf (by rw [hz]; exact xC hi hp)
 have s0 : Ak (z ++ [gv z p]) (jD s g n) (J1 p n) = Ox s p (n - 1) (kW s p g) := by
  have e : Ak (z ++ [gv z p]) (jD s g n) (J1 p n) = tab (gN [p] n).length fun x => tab (gN [p] n).length fun y => zQ (jD s g n) (dA (J1 p n)) (2 * (J1 p n).length) (cR (gN [p] n) x) (cR (gN [p] n) y) := by
   rw [Ak,eL,hzl,yB]
  rw [e,hl1]
  refine bR fun x hx=>bR fun y hy=>?_
  have qx:cR (gN [p] n) x = lI p x:=by rw [rR,sW (by rw [tI hp]; exact hx)]
  have qy:cR (gN [p] n) y = lI p y:=by rw [rR,sW (by rw [tI hp]; exact hy)]
  have bx:=xC hx hp
  have bY:=xC hy hp
  have nx:lI p x ≠ p:=by unfold lI; split <;> omega
  have ny:lI p y ≠ p:=by unfold lI; split <;> omega
  rw [qx,qy,← a6j hj hk (show lI p x < n + 1 by omega) (by rw [a6u]; simp only [List.mem_cons,List.not_mem_nil,or_false,not_or]; exact ⟨nx,by omega⟩),gU,La]
  have z1:gm (jD s g n) n (lI p y) = 0:=by rw [dP zo zo,if_neg zo,if_neg zo]; rfl
  have e1 : ∀ k, k < n → Ai (jD s g n) (J1 p n) (lI p x) k * gm (jD s g n) k (lI p y) = (if k = p then gm s (lI p x) p * kW s p g * gm s p (lI p y) else 0) + (if k = lI p x then gm s (lI p x) (lI p y) else 0) := fun k hk2 => by
   rw [Uf hp bx nx zo hd,if_pos hk2,Nj bx hp hk2,dP zo zo,if_pos hk2,if_pos bY]
   by_cases c:k = p
   ·rw [if_pos c,if_pos c,if_neg (fun k2=>nx (k2.symm.trans c)),c]; grind
   ·rw [if_neg c, if_neg c]
    by_cases c2:k = lI p x
    ·rw [if_pos c2,if_pos c2,c2,q1]; grind
    ·rw [if_neg c2,if_neg c2,q0]; grind
  rw [aA e1,jP,bO hp (fun k _ hne=>if_neg hne),if_pos rfl,bO bx (fun k _ hne=>if_neg hne),if_pos rfl,z1]; grind
 rw [z0,s0,g1]
end
end
section
open Go Go.RowKit
theorem Fg {z:List Qi} {s:List (List Qi)} {i k:Nat}:Bs z s i k 0 = if i = k then Qi.ofInt 1 / gv z i else Qi.zero:=by
 have e:Bs z s i k 0 = (if i = k then 1 / gv z i else 0) - 0:=rfl
 rw [e,show (if i = k then 1 / gv z i else (0:Qi)) - 0 = if i = k then 1 / gv z i else 0 by grind]; rfl
theorem Nt {z:List Qi} {s:List (List Qi)} {i k m:Nat}:Bs z s i k (m + 1) = Bs z s i k m - (gm s m i).conj * gm s m k / gv z m:=by
 unfold Bs
 rw [show (aC (m + 1) fun m=>(gm s m i).conj * gm s m k / gv z m) = (aC m fun m=>(gm s m i).conj * gm s m k / gv z m) + (gm s m i).conj * gm s m k / gv z m from rfl]
 grind
theorem Kl {z : List Qi} {s : List (List Qi)} {i k L : Nat} (hz : bI z L) (hs : bE s L) (hL : 1 ≤ L) (hp : z.all eA = true) (hi : i < z.length) : ∀ {m : Nat}, m ≤ z.length → aF (Bs z s i k m) (1 + 3 * L + 2 + m * (6 * L + 5))
 | 0, _ => by
  rw [Fg]
  split
  ·exact (oU lA (hz.get hL i) (nK hp hi)).le zo
  ·exact aF.zero zo
 | m + 1, hm => by
  rw [Nt]
  haveI f1:=Kl (k:=k) hz hs hL hp hi (m:=m) zo
  haveI f2:aF (gm s m i) L:=hs.get hL m i
  haveI f3:aF (gm s m k) L:=hs.get hL m k
  haveI f4:aF (gm s m i).conj L:=fitConj
  haveI f5:aF ((gm s m i).conj * gm s m k) (L + L + 1):=fitMul
  haveI f6:aF ((gm s m i).conj * gm s m k / gv z m) (L + L + 1 + 3 * L + 2):=oU f5 (hz.get hL m) (nK hp zo)
  exact (fitSub (x:=Bs z s i k m) (y:=(gm s m i).conj * gm s m k / gv z m) (L:=1 + 3 * L + 2 + m * (6 * L + 5)) (M:=L + L + 1 + 3 * L + 2)).le (by rw [Nat.succ_mul m]; omega)
theorem Cp {z : List Qi} {s : List (List Qi)} {L : Nat} (hz : bI z L) (hs : bE s L) (hL : 1 ≤ L) (hp : z.all eA = true) (h8 : z.length ≤ 8) : bE (xJ z s) (51 * L + 43) := bE.tab fun i k hi _ => (Kl hz hs hL hp hi (Nat.le_refl _)).le (by
 have:z.length * (6 * L + 5) ≤ 8 * (6 * L + 5):=Nat.mul_le_mul_right _ h8
 omega)
theorem Cq (z:List Qi) (s:List (List Qi)):cB (xJ z s) z.length z.length:=cB.tab
theorem a5U {z:List Qi} {s:List (List Qi)} {n i k L:Nat} (hz:bI z L) (hs:bE s L) (hL:1 ≤ L) (hLb:L ≤ 100000000000) (hp:z.all eA = true) (hsh:cB s z.length z.length) (hn:n = z.length) (h8:n ≤ 8) (hi:i < n) (hk:k < n):bB Tryz.prog 198 [NT .i64 i,NT .i64 k,PT (cO z s)] (aI (Bs z s i k n)):=by
 have hsl:=hsh.1
 haveI f0:=lA
 haveI f1:aF (gv z i) L:=hz.get hL i
 refine bB.intro Tryz.func198 rfl Tryz.ntmps198 rfl (fun cx=>(ts (rn rfl (eU (Ts:=[Is (.bool false),Is (.slice none 0 0),Is (.bool false),Is (.slice none 0 0),Is (.slice none 0 0)]) O_60 rfl (fun V=>aW zd (aW zd (aW zd (aW zd (aW zd (aG))))))) fun B5=>(eW (ts (ro rfl (aM.imp (uZ ) qV) (rn rfl (eU (Ts:=[Is (.bool false),Is (.slice none 0 0),Is (.bool false),Is (.slice none 0 0),Is (.slice none 0 0)]) O_60 rfl (fun V=>aW zd (aW zd (aW zd (aW zd (aW zd (aG))))))) fun B6=>?_)))))))
 refine gJ Z_60 (Ht rfl) (Ht rfl) rfl (i:=1) rfl (aK rfl) rfl rfl (eW (cU (cM [0,1] rfl (by decide) (jU (fun (x:Qi)=>x = Bs z s i k 0) (fun (x:Qi)=>[(0,NT .i64 i),(1,NT .i64 k),(2,PT (cO z s)),(5,cC B5 0),(6,cC B6 0)]) (fun (x:Qi)=>[box B5 60 [Is (.bool false),Is (.slice none 0 0),Is (.bool false),Is (.slice none 0 0),Is (.slice none 0 0)],box B6 60 [aH (decide (x.a < 0)),aN x.a.natAbs,aH (decide (x.b < 0)),aN x.b.natAbs,aN (du x)]]) ?_ (fun x hx=>?_)))))
 ·refine ts (rm rfl (rm rfl (ro rfl (cL (Ht rfl) (Ht rfl)) (eW (dX (Ht rfl) (fun hb => ?_) (fun hb => ?_))))))
  ·have hij : i = k := by simpa using hb
   refine Y.D_start (m:=11) [(10,1,box B6 60 [aH (decide ((Qi.ofInt 1 / gv z i).a < 0)),aN (Qi.ofInt 1 / gv z i).a.natAbs,aH (decide ((Qi.ofInt 1 / gv z i).b < 0)),aN (Qi.ofInt 1 / gv z i).b.natAbs,aN (du (Qi.ofInt 1 / gv z i))])] (Y.D_step (Ei:=[]) rfl rfl bX rfl rfl (by kernel_rfl) (dZ rfl (cJ K_52 (Dq (n:=1) (by decide) (by decide)) ⟨(cV 1),trivial⟩)) (Y.D_step (Ei:=[(2,_)]) rfl rfl (bQ (bJ rfl rfl) bX) rfl rfl (by kernel_rfl) (dZ rfl (gR eP (Ht rfl) rfl)) (Y.D_step (Ei:=[(16,_)]) rfl rfl (bQ (bZ 1 rfl rfl) bX) rfl rfl (by kernel_rfl) (dZ rfl (dW A_25 Z_25 (Ht rfl))) ?_)))
   refine Y.D_step (Ei:=[(0,_)]) rfl rfl (bQ (bJ rfl rfl) bX) rfl rfl (by kernel_rfl) (dZ rfl (cZ (Ht rfl))) (Y.D_step (Ei:=[(17,_),(18,_)]) rfl rfl (bQ (bZ 2 rfl rfl) (bQ (bZ 3 rfl rfl) bX)) rfl rfl (by kernel_rfl) (dZ rfl (dJ U_25 Z_60 (Ht rfl) (Ht rfl) rfl (eZ (eX (d:=Qi.zero) zo)))) (Y.D_step (Ei:=[(19,_)]) rfl rfl (bQ (bZ 4 rfl rfl) bX) rfl rfl (by kernel_rfl) (dZ rfl (dW A_60 Z_60 (Ht rfl))) (Y.D_step (Ei:=[(15,_),(20,_)]) rfl rfl (bQ (bZ 0 rfl rfl) (bQ (bZ 5 rfl rfl) bX)) rfl rfl (by kernel_rfl) (dZ rfl (cJ K_64 (tX (x:=Qi.ofInt 1) (y:=gv z i) (L:=1) (M:=L) zo) ⟨(Ht rfl),(Ht rfl),trivial⟩)) ?_)))
   refine Y.D_step (Ei:=[(21,_)]) rfl rfl (bQ (bZ 6 rfl rfl) bX) rfl rfl (by kernel_rfl) (dZ rfl (cZ (Ht rfl))) (Y.D_step (Ei:=[(14,_)]) rfl rfl (bQ (bZ 7 rfl rfl) bX) rfl rfl (by kernel_rfl) (dZ rfl (eQ (Ht rfl) rfl)) (cQ (Ei:=[(14,_)]) rfl rfl (bQ (bZ 7 rfl rfl) bX) rfl rfl (dZ rfl (eQ (Ht rfl) rfl)) (Y.D_putI (Ei:=[(6,_),(22,_)]) 1 rfl rfl rfl (bQ (bJ rfl rfl) (bQ (bZ 8 rfl rfl) bX)) (.head _) rfl (mO Z_60 (Ht rfl) (Ht rfl) rfl (i:=0) rfl (aK rfl) rfl rfl) ?_)))
   refine Y.D_done aS rfl (by kernel_rfl) rfl (by simp [Y.okP]) rfl rfl (bU (bU (bU (bU (bU (bU (bU (bU (bU (bU (Y.F_putI (Y.F_nil ?_))))))))))))
   refine eW (aT (Qi.ofInt 1 / gv z i) (by rw [Fg,if_pos hij]) (zS rfl) (aU (aD rfl) (aU (aD rfl) aY)))
  ·have hij : ¬ i = k := by simpa using hb
   refine cY (aT Qi.zero (by rw [Fg,if_neg hij]) (zS rfl) (aU (aD rfl) (aU (aD rfl) aY)))
 ·subst hx
  refine cU (ts (ro rfl (gR eD (Ht rfl) rfl) (ro rfl (dW A_26 Z_26 (Ht rfl)) (ro rfl (dY U_26 (Ht rfl) (by rw [List.length_map,hsl])) ?_))))
  refine ro rfl (cZ (cV 0)) (eW (eY ?_))
  refine cP (fun (m : Nat) => m ≤ n) (fun (m : Nat) => n - m) (fun (m : Nat) => [(0, NT .i64 i), (1, NT .i64 k), (2, PT (cO z s)), (5, cC B5 0), (6, cC B6 0), (26, NT .i64 n), (27, NT .i64 m)]) (fun (m : Nat) => [box B5 60 [Is (.bool false), Is (.slice none 0 0), Is (.bool false), Is (.slice none 0 0), Is (.slice none 0 0)], box B6 60 [aH (decide ((Bs z s i k m).a < 0)), aN (Bs z s i k m).a.natAbs, aH (decide ((Bs z s i k m).b < 0)), aN (Bs z s i k m).b.natAbs, aN (du (Bs z s i k m))]]) 0 (Nat.zero_le _)
   (aQ rfl (aQ rfl (aQ rfl (aQ rfl (aQ rfl (aZ rfl (mK hn.symm) (zS rfl))))))) (aU (aD rfl) (aU (aD rfl) aY)) (fun m hm=>?_)
  refine ts (ro rfl (gV (Ht rfl) (Ht rfl)) (eW (cU (dX (Ht rfl) (fun hd=>?_) (fun hd=>?_)))))
  ·have hmn : m < n := by simp only [decide_eq_true_eq] at hd; omega
   have hsr:=hsh.row (i:=m) zo
   haveI f2:aF (gm s m i) L:=hs.get hL m i
   haveI f3:aF (gm s m k) L:=hs.get hL m k
   haveI f4:aF (gv z m) L:=hz.get hL m
   haveI f5:aF (gm s m i).conj L:=fitConj
   haveI f6:aF ((gm s m i).conj * gm s m k) (L + L + 1):=fitMul
   haveI f7:aF ((gm s m i).conj * gm s m k / gv z m) (L + L + 1 + 3 * L + 2):=oU f6 f4 (nK hp zo)
   have f8:=Kl (k:=k) hz hs hL hp (show i < z.length by omega) (m:=m) zo
   haveI f9 : aF (Bs z s i k m) (100 * L + 100) := f8.le (by
    have:m * (6 * L + 5) ≤ 8 * (6 * L + 5):=Nat.mul_le_mul_right _ zo
    omega)
   refine cY (cU (eY (ts (rm rfl (ra rfl (eW (cU (Y.D_start (m:=29) [] (cQ (Ei:=[(2,_)]) rfl rfl (bQ (bJ rfl rfl) bX) rfl rfl (dZ rfl (gR eD (Ht rfl) rfl)) (cQ (Ei:=[(31,_)]) rfl rfl (bQ (bZ 0 rfl rfl) bX) rfl rfl (dZ rfl (dW A_26 Z_26 (Ht rfl))) (cQ (Ei:=[(7,_)]) rfl rfl (bQ (bJ rfl rfl) bX) rfl rfl (dZ rfl (cZ (Ht rfl))) (cQ (Ei:=[(32,_),(33,_)]) rfl rfl (bQ (bZ 1 rfl rfl) (bQ (bZ 2 rfl rfl) bX)) rfl rfl (dZ rfl (dJ U_26 Z_25 (Ht rfl) (Ht rfl) rfl (eZ (eX (d:=[]) zo)))) ?_))))))))))))
   refine cQ (Ei:=[(34,_)]) rfl rfl (bQ (bZ 3 rfl rfl) bX) rfl rfl (dZ rfl (dW A_25 Z_25 (Ht rfl))) (cQ (Ei:=[(0,_)]) rfl rfl (bQ (bJ rfl rfl) bX) rfl rfl (dZ rfl (cZ (Ht rfl))) (cQ (Ei:=[(35,_),(36,_)]) rfl rfl (bQ (bZ 4 rfl rfl) (bQ (bZ 5 rfl rfl) bX)) rfl rfl (dZ rfl (dJ U_25 Z_60 (Ht rfl) (Ht rfl) rfl (eZ (eX (d:=Qi.zero) zo)))) (cQ (Ei:=[(37,_)]) rfl rfl (bQ (bZ 6 rfl rfl) bX) rfl rfl (dZ rfl (dW A_60 Z_60 (Ht rfl))) ?_)))
   refine cQ (Ei:=[(38,_)]) rfl rfl (bQ (bZ 7 rfl rfl) bX) rfl rfl (dZ rfl (cJ Tryz.call173 a03 ⟨(Ht rfl),trivial⟩)) (cQ (Ei:=[(2,_)]) rfl rfl (bQ (bJ rfl rfl) bX) rfl rfl (dZ rfl (gR eD (Ht rfl) rfl)) (cQ (Ei:=[(40,_)]) rfl rfl (bQ (bZ 9 rfl rfl) bX) rfl rfl (dZ rfl (dW A_26 Z_26 (Ht rfl))) (cQ (Ei:=[(7,_)]) rfl rfl (bQ (bJ rfl rfl) bX) rfl rfl (dZ rfl (cZ (Ht rfl))) (cQ (Ei:=[(41,_),(42,_)]) rfl rfl (bQ (bZ 10 rfl rfl) (bQ (bZ 11 rfl rfl) bX)) rfl rfl (dZ rfl (dJ U_26 Z_25 (Ht rfl) (Ht rfl) rfl (eZ (eX (d:=[]) zo)))) ?_))))
   refine cQ (Ei:=[(43,_)]) rfl rfl (bQ (bZ 12 rfl rfl) bX) rfl rfl (dZ rfl (dW A_25 Z_25 (Ht rfl))) (cQ (Ei:=[(1,_)]) rfl rfl (bQ (bJ rfl rfl) bX) rfl rfl (dZ rfl (cZ (Ht rfl))) (cQ (Ei:=[(44,_),(45,_)]) rfl rfl (bQ (bZ 13 rfl rfl) (bQ (bZ 14 rfl rfl) bX)) rfl rfl (dZ rfl (dJ U_25 Z_60 (Ht rfl) (Ht rfl) rfl (eZ (eX (d:=Qi.zero) zo)))) (cQ (Ei:=[(46,_)]) rfl rfl (bQ (bZ 15 rfl rfl) bX) rfl rfl (dZ rfl (dW A_60 Z_60 (Ht rfl))) ?_)))
   refine cQ (Ei:=[(39,_),(47,_)]) rfl rfl (bQ (bZ 8 rfl rfl) (bQ (bZ 16 rfl rfl) bX)) rfl rfl (dZ rfl (cJ K_70 (lS (x:=(gm s m i).conj) (y:=gm s m k) (L:=L) (M:=L) zo) ⟨(Ht rfl),(Ht rfl),trivial⟩)) (cQ (Ei:=[(2,_)]) rfl rfl (bQ (bJ rfl rfl) bX) rfl rfl (dZ rfl (gR eP (Ht rfl) rfl)) (cQ (Ei:=[(49,_)]) rfl rfl (bQ (bZ 18 rfl rfl) bX) rfl rfl (dZ rfl (dW A_25 Z_25 (Ht rfl))) (cQ (Ei:=[(7,_)]) rfl rfl (bQ (bJ rfl rfl) bX) rfl rfl (dZ rfl (cZ (Ht rfl))) ?_)))
   refine cQ (Ei:=[(50,_),(51,_)]) rfl rfl (bQ (bZ 19 rfl rfl) (bQ (bZ 20 rfl rfl) bX)) rfl rfl (dZ rfl (dJ U_25 Z_60 (Ht rfl) (Ht rfl) rfl (eZ (eX (d:=Qi.zero) zo)))) (cQ (Ei:=[(52,_)]) rfl rfl (bQ (bZ 21 rfl rfl) bX) rfl rfl (dZ rfl (dW A_60 Z_60 (Ht rfl))) (cQ (Ei:=[(48,_),(53,_)]) rfl rfl (bQ (bZ 17 rfl rfl) (bQ (bZ 22 rfl rfl) bX)) rfl rfl (dZ rfl (cJ K_64 (tX (x:=(gm s m i).conj * gm s m k) (y:=gv z m) (L:=L + L + 1) (M:=L) zo) ⟨(Ht rfl),(Ht rfl),trivial⟩)) ?_))
   refine cQ (Ei:=[(54,_)]) rfl rfl (bQ (bZ 23 rfl rfl) bX) rfl rfl (dZ rfl (cZ (Ht rfl))) (cQ (Ei:=[(30,_)]) rfl rfl (bQ (bZ 24 rfl rfl) bX) rfl rfl (dZ rfl (eQ (Ht rfl) rfl)) (cQ (Ei:=[(30,_)]) rfl rfl (bQ (bZ 24 rfl rfl) bX) rfl rfl (dZ rfl (eQ (Ht rfl) rfl)) (Y.D_newp (Ei:=[]) (fun bb=>box bb 60 [aH (decide (((gm s m i).conj * gm s m k / gv z m).a < 0)),aN ((gm s m i).conj * gm s m k / gv z m).a.natAbs,aH (decide (((gm s m i).conj * gm s m k / gv z m).b < 0)),aN ((gm s m i).conj * gm s m k / gv z m).b.natAbs,aN (du ((gm s m i).conj * gm s m k / gv z m))]) 28 rfl rfl rfl bX rfl rfl (by kernel_rfl) (eU (Ts:=[Is (.bool false),Is (.slice none 0 0),Is (.bool false),Is (.slice none 0 0),Is (.slice none 0 0)]) O_60 rfl (fun V=>aW zd (aW zd (aW zd (aW zd (aW zd (aG))))))) ?_)))
   refine Y.D_putN (Ei:=[(55,_)]) 27 rfl rfl rfl rfl rfl rfl (bQ (bZ 25 rfl rfl) bX) (fun bb=>mO Z_60 (Ht rfl) (Ht rfl) rfl (i:=0) rfl (aK rfl) rfl rfl) (Y.D_done aS rfl (by kernel_rfl) rfl (by simp [Y.okP]) rfl rfl (bU (bU (bU (bU (bU (bU (bU (bU (bU (bU (bU (bU (bU (bU (bU (bU (bU (bU (bU (bU (bU (bU (bU (bU (bU (bU (bU (Y.F_newp (fun B8=>Y.F_putN (Y.F_nil ?_)))))))))))))))))))))))))))))))
   refine ra rfl (eW (dQ (ro rfl (eK A_60 Z_60 (Ht rfl) (i:=1) rfl rfl rfl) (ro rfl (eK A_60 Z_60 (Ht rfl) (i:=2) rfl rfl rfl) (ro rfl (cJ K_69 (wI (x:=Bs z s i k m) (y:=((gm s m i).conj * gm s m k / gv z m)) (L:=100 * L + 100) (M:=L + L + 1 + 3 * L + 2) zo) ⟨(Ht rfl),(Ht rfl),trivial⟩) (gJ Z_60 (Ht rfl) (Ht rfl) rfl (i:=1) rfl (aK rfl) rfl rfl (eW (bM (dQ (ro rfl (dK (Ht rfl) (cV 1) z6) ?_))))))))))
   refine rm rfl (eW (cM [0,1] rfl (by decide) (gX (m + 1) hmn zo (zS rfl) (aU (aD rfl) (aU (aD (by rw [Nt]; rfl)) aY)))))
  ·have hmn : m = n := by simp only [decide_eq_false_iff_not] at hd; omega
   rw [hmn]
   refine gK rfl (ts (ro rfl (eK A_60 Z_60 (Ht rfl) (i:=1) rfl rfl rfl) (gJ Z_60 (Ht rfl) (Ht rfl) rfl (i:=0) rfl (aK rfl) rfl rfl (eW ?_))))
   exact fU rfl (gQ A_60 Z_60 rfl (i:=0) rfl rfl)
theorem a35 {z:List Qi} {s:List (List Qi)} {L:Nat} (hz:bI z L) (hs:bE s L) (hL:1 ≤ L) (hLb:L ≤ 100000000000) (hp:z.all eA = true) (hsh:cB s z.length z.length) (h8:z.length ≤ 8):bB Tryz.prog 99 [cO z s] (dF (xJ z s)):=by
 refine bB.intro Tryz.func99 rfl Tryz.ntmps99 rfl (fun cx=>(ts (rn rfl (fY (Ht rfl)) fun B1=>(ro rfl (cX cW) (eW (cU (gG (i:=0) (tt:=1) rfl rfl jF (dQ (ro rfl (gR eP (Ht rfl) rfl) (ro rfl (dW A_25 Z_25 (Ht rfl)) (ro rfl (dY U_25 (Ht rfl) aB) (ro rfl (lO (γ:=Fin z.length × Fin z.length) (Ts:=fun x=>[NT .i64 x.1.1,NT .i64 x.2.1]) (U:=fun x=>aI (Bs z s x.1.1 x.2.1 z.length)) Tryz.call198 (fun x=>a5U hz hs hL hLb hp hsh rfl h8 x.1.2 x.2.2) ⟨(Ht rfl),trivial⟩) ?_))))))))))))
 refine ro rfl (cJ K_110 (uE (n:=z.length) (f:=fun i k=>Bs z s i k z.length) zo) ⟨(Ht rfl),(Ht rfl),trivial⟩) (ra rfl (eW ?_))
 exact fU rfl (fX rfl)
end
section
open Go Go.RowKit
def xZ (p : Nat → Bool) : Nat → Nat → Nat
 | 0,k=>k
 | f + 1,k=>if p k = true then k else xZ p f (k + 1)
theorem Jp {p : Nat → Bool} : ∀ {f k r : Nat}, k ≤ r → r ≤ k + f → (∀ j, k ≤ j → j < r → p j = false) → (r < k + f → p r = true) → xZ p f k = r
 | 0,k,r,h1,h2,_,_=>by simp only [xZ]; omega
 | f + 1, k, r, h1, h2, h3, h4 => by
  unfold xZ
  by_cases e:r = k
  ·subst e; rw [if_pos (h4 zo)]
  ·rw [if_neg (by rw [h3 k (Nat.le_refl _) zo]; simp)]
   exact Jp zo zo (fun j a b=>h3 j zo b) (fun h=>h4 zo)
theorem Ah {p : Nat → Bool} : ∀ {f k : Nat}, (k ≤ xZ p f k ∧ xZ p f k ≤ k + f) ∧ (∀ j, k ≤ j → j < xZ p f k → p j = false) ∧ (xZ p f k < k + f → p (xZ p f k) = true)
 | 0,k=>⟨⟨Nat.le_refl _,Nat.le_refl _⟩,fun j a b=>by simp only [xZ] at b; omega,fun h=>by simp only [xZ] at h; omega⟩
 | f + 1, k => by
  unfold xZ
  by_cases e:p k = true
  ·rw [if_pos e]; exact ⟨⟨Nat.le_refl _,by omega⟩,fun j a b=>by omega,fun _=>e⟩
  ·rw [if_neg e]
   obtain ⟨⟨a1,a2⟩,a3,a4⟩:=Ah (p:=p) (f:=f) (k:=k + 1)
   refine ⟨⟨by omega,by omega⟩,fun j a b=>?_,fun h=>a4 zo⟩
   by_cases c:j = k
   ·subst c; simpa using e
   ·exact a3 j zo b
def mxV (x:List Qi) (f:Qi) (y:List Qi):List Qi:=tab x.length fun i=>gv x i + f * gv y i
def Rc (x:Qi):Bool:=decide (Jc x Qi.zero < 0)
def Xg (x:Qi):Qi:=if Rc x = true then -x else x
def crK (G:List (List Qi)) (n i:Nat):Nat:=xZ (fun k=>!decide (gm G i k = 0)) (n - (i + 1)) (i + 1)
def Ac (G:List (List Qi)) (i k:Nat):Qi:=(Xg (gm G k k) + Qi.ofInt 1) / ((gm G i k).norm + (gm G i k).norm)
def crV (G V:List (List Qi)) (i k:Nat):List Qi:=mxV (V.getD k []) (-(Ac G i k) * gm G i k) (V.getD i [])
def Je (G V:List (List Qi)) (n i:Nat):List Qi:=if gm G i i = 0 then (if crK G n i < n then crV G V i (crK G n i) else []) else []
def xT (G:List (List Qi)) (n i k l:Nat):List (List Qi):=tab n fun r=>tab n fun c=>if (i < r ∧ i < c) ∧ (c < k ∨ c = k ∧ r < l) then gm G r c - gm G r i * (gm G i c / gm G i i) else gm G r c
def Ti (G:List (List Qi)) (n i:Nat):List (List Qi):=xT G n i n 0
def pQ (G V:List (List Qi)) (n i k:Nat):List (List Qi):=tab n fun r=>if i < r ∧ r < k then mxV (V.getD r []) (-(gm G i r / gm G i i)) (V.getD i []) else V.getD r []
def gH (h : List (List Qi)) (n : Nat) : Nat → List (List Qi) × List (List Qi)
 | 0=>(h,rQ n)
 | i + 1=>if gm (gH h n i).1 i i = 0 then gH h n i else (Ti (gH h n i).1 n i,pQ (gH h n i).1 (gH h n i).2 n i n)
def Bx (h : List (List Qi)) (n : Nat) : Nat → Nat → Bool × List Qi
 | 0,_=>(true,[])
 | f + 1,i=>if Rc (gm (gH h n i).1 i i) = true then (false,(gH h n i).2.getD i []) else if Je (gH h n i).1 (gH h n i).2 n i ≠ [] then (false,Je (gH h n i).1 (gH h n i).2 n i) else Bx h n f (i + 1)
theorem a65 {G V : List (List Qi)} {i k : Nat} (h : 0 < (V.getD k []).length) : (crV G V i k).map aI ≠ [] := fun e => by
 have:=congrArg List.length e
 rw [List.length_map,crV,mxV,aE] at this
 rw [List.length_nil] at this; omega
theorem Nh {x : Qi} (h : ¬ x = 0) : x.norm + x.norm ≠ 0 := fun e => by
 have e2:x.nrm + x.nrm = 0:=congrArg Qi.re e
 exact h (Qi.nrm_zero.1 (by grind))
theorem rK (G:List (List Qi)) (n i k l:Nat):cB (xT G n i k l) n n:=cB.tab
theorem Xh {G:List (List Qi)} {n i:Nat} (h:cB G n n):xT G n i (i + 1) 0 = G:=by
 have:xT G n i (i + 1) 0 = tab n fun r=>tab n fun c=>gm G r c:=bR fun r _=>bR fun c _=>by rw [if_neg zo]
 rw [this]; exact (vK h).symm
theorem a3l {G : List (List Qi)} {n i k : Nat} : xT G n i k 0 = xT G n i k (i + 1) := bR fun r _ => bR fun c _ => by
 by_cases a:(i < r ∧ i < c) ∧ (c < k ∨ c = k ∧ r < 0)
 ·rw [if_pos a,if_pos zo]
 ·rw [if_neg a,if_neg zo]
theorem a3k {G : List (List Qi)} {n i k : Nat} : xT G n i k n = xT G n i (k + 1) 0 := bR fun r hr => bR fun c _ => by
 by_cases a:(i < r ∧ i < c) ∧ (c < k ∨ c = k ∧ r < n)
 ·rw [if_pos a,if_pos zo]
 ·rw [if_neg a,if_neg zo]
theorem Jg {G:List (List Qi)} {n i k l r c:Nat} (hr:r < n) (hc:c < n) (h:¬ ((i < r ∧ i < c) ∧ (c < k ∨ c = k ∧ r < l))):gm (xT G n i k l) r c = gm G r c:=by rw [xT,eI hr hc,if_neg h]
theorem a0t {G:List (List Qi)} {n i k l:Nat} (hl:l < n) (hk:k < n) (hil:i < l) (hik:i < k):(xT G n i k l).set l ((eC (xT G n i k l) l).set k (gm G l k - gm G l i * (gm G i k / gm G i i))) = xT G n i k (l + 1):=by
 refine lB (n:=n) (m:=n) ⟨by rw [List.length_set]; exact aE _ _,fun r hr=>?_⟩ (rK _ _ _ _ _) fun r hr c hc=>?_
 ·rcases List.mem_or_eq_of_mem_set hr with h1 | h1
  ·exact (rK G n i k l).2 r h1
  ·rw [h1,List.length_set]; exact (rK G n i k l).row hl
 ·have hrl : (eC (xT G n i k l) l).length = n := (rK G n i k l).row hl
  have hlen:(xT G n i k l).length = n:=aE _ _
  show gv (eC ((xT G n i k l).set l _) r) c = _
  by_cases e:r = l
  ·subst e
   rw [Fl zo,tN zo]
   by_cases e2:c = k
   ·subst e2
    rw [if_pos rfl,xT,eI hr hc,if_pos zo]
   ·rw [if_neg e2]
    show gm (xT G n i k r) r c = _
    rw [xT,eI hr hc,xT,eI hr hc]
    by_cases a:(i < r ∧ i < c) ∧ (c < k ∨ c = k ∧ r < r)
    ·rw [if_pos a,if_pos zo]
    ·rw [if_neg a,if_neg zo]
  ·rw [vT (fun x => e x.symm)]
   show gm (xT G n i k l) r c = _
   rw [xT,eI hr hc,xT,eI hr hc]
   by_cases a:(i < r ∧ i < c) ∧ (c < k ∨ c = k ∧ r < l)
   ·rw [if_pos a,if_pos zo]
   ·rw [if_neg a,if_neg zo]
theorem Qf {G V:List (List Qi)} {n i:Nat} (h:V.length = n):pQ G V n i (i + 1) = V:=by
 have:pQ G V n i (i + 1) = tab n fun r=>V.getD r []:=bR fun r _=>by rw [if_neg zo]
 rw [this]; exact (Ky (h:=h)).symm
theorem Xi {G V:List (List Qi)} {n i k:Nat} (hk:k < n) (hik:i < k):(pQ G V n i k).set k (mxV (V.getD k []) (-(gm G i k / gm G i i)) (V.getD i [])) = pQ G V n i (k + 1):=by
 apply List.ext_getElem?
 intro r
 by_cases hr:r < n
 ·by_cases e : r = k
  ·subst e
   rw [List.getElem?_set_self (by rw [pQ,aE]; exact hr),pQ,cH hr,if_pos zo]
  ·rw [List.getElem?_set_ne (Ne.symm e), pQ, pQ, cH hr, cH hr]
   by_cases a:i < r ∧ r < k
   ·rw [if_pos a,if_pos zo]
   ·rw [if_neg a,if_neg zo]
 ·rw [List.getElem?_eq_none (by rw [List.length_set,pQ,aE]; omega),List.getElem?_eq_none (by rw [pQ,aE]; omega)]
theorem Mg {G V:List (List Qi)} {n i k r:Nat} (hr:r < n) (h:¬ (i < r ∧ r < k)):(pQ G V n i k).getD r [] = V.getD r []:=by rw [pQ,kT hr,if_neg h]
theorem Cm (x y:List Qi) (f:Qi):(mxV x f y).length = x.length:=aE _ _
theorem pX {h : List (List Qi)} {n : Nat} (hs : cB h n n) : ∀ i, i ≤ n → cB (gH h n i).1 n n ∧ cB (gH h n i).2 n n
 | 0,_=>⟨hs,nQ n⟩
 | i + 1, hi => by
  obtain ⟨a,b⟩:=pX hs i zo
  simp only [gH]
  split
  ·exact ⟨a,b⟩
  ·refine ⟨rK _ _ _ _ _, ⟨aE _ _, fun r hr => ?_⟩⟩
   obtain ⟨j,hj,rfl⟩:=dR.1 hr
   by_cases c:i < j ∧ j < n
   ·rw [if_pos c,Cm]; exact b.row hj
   ·rw [if_neg c]; exact b.row hj
def nP (h:List (List Qi)) (n:Nat):Bool:=decide (∀ i,i < n → ∀ k,k < n → gm h i k = (gm h k i).conj)
def He (h:List (List Qi)) (n:Nat):Bool:=if nP h n = true then (Bx h n n 0).1 else false
def dfW (h:List (List Qi)) (n:Nat):List Qi:=if nP h n = true then (Bx h n n 0).2 else []
def dfX (h:List (List Qi)) (n:Nat):Int:=if nP h n = true then 0 else 1
theorem a3j {h:List (List Qi)} {n i:Nat} (hi:i < n) (k:Rc (gm (gH h n i).1 i i) = true):Bx h n (n - i) i = (false,(gH h n i).2.getD i []):=by
 rw [show n - i = (n - (i + 1)) + 1 by omega,Bx,if_pos k]
theorem a3i {h:List (List Qi)} {n i:Nat} (hi:i < n) (k:Rc (gm (gH h n i).1 i i) ≠ true) (w:Je (gH h n i).1 (gH h n i).2 n i ≠ []):Bx h n (n - i) i = (false,Je (gH h n i).1 (gH h n i).2 n i):=by
 rw [show n - i = (n - (i + 1)) + 1 by omega,Bx,if_neg k,if_pos w]
theorem a66 {h:List (List Qi)} {n i:Nat} (hi:i < n) (k:Rc (gm (gH h n i).1 i i) ≠ true) (w:Je (gH h n i).1 (gH h n i).2 n i = []):Bx h n (n - i) i = Bx h n (n - (i + 1)) (i + 1):=by
 rw [show n - i = (n - (i + 1)) + 1 by omega,Bx,if_neg k,if_neg (fun e=>e w)]
theorem sJ {h:List (List Qi)} {n i:Nat} (k:gm (gH h n i).1 i i = 0):gH h n (i + 1) = gH h n i:=by rw [gH,if_pos k]
theorem Ad {h:List (List Qi)} {n i:Nat} (k:¬ gm (gH h n i).1 i i = 0):gH h n (i + 1) = (Ti (gH h n i).1 n i,pQ (gH h n i).1 (gH h n i).2 n i n):=by rw [gH,if_neg k]
structure SzD (h:List (List Qi)) (n G V:Nat):Prop where
 g:∀ i,i ≤ n → bE (gH h n i).1 G
 v:∀ i,i ≤ n → bE (gH h n i).2 V
 g1:1 ≤ G
 v1:1 ≤ V
 b:10 * G + 2 * V + 40 ≤ 8796093022208
end
section
open Go Go.RowKit
section
variable {P:Program} {n:Nat} {E:cT} {H:Hp}
variable {d:Option Tmp} {t:TypeId} {pos:String} {af:Array Edge} {g:Option (Nat × Bool)}
theorem Gq {x y : Operand} {i B o' : Nat} {BT : TypeId} {Ts Ws : List Ty} {T : Ty} [hsh : dD T 1 false] (hS : ∀ w, (sizeOf t).run P w = .ok 1 w) (hx : bH E x (cC B o')) (hy : bH E y T)
  (hH:H[i]? = some (box B BT Ts)) (hlt:o' < Ts.length) (hW:Ts.set o' T = Ws) {t':TypeId} {H':Hp} (hH':H.set i (box B BT Ws) = H') :
  W.PutTy P n E H H' ⟨none,.store t x y,t',pos,af,none⟩:=by subst hW; subst hH'; exact a7x hS hx hy hH hlt
theorem Yb {x y : Operand} {m e s : Nat} {tn : TypeId} {i : TypeInfo} {z : Value} {kd kn : IntKind} (ht : P.underlying t = some (.slice e)) (htn : P.underlying tn = some (.int kn)) (hi : P.info? e = some i) (hz : i.zero = some z) (hs : i.size = s) (hzs : z.cells.size = s) (hs0 : 0 < s)
  (hx:bH E x (Is (.slice none 0 0))) (hy:bH E y (aL kd (m:Int))) (h0:0 < m) (hb:m * i.bytes ≤ 281474976710656) (hm:m ≤ 9223372036854775807) {t':TypeId} :
  iT P n E H ⟨d,.call ⟨.builtin .append,#[x,y],#[t,tn]⟩,t',pos,af,g⟩ (Nat × Nat) (fun q=>Is (.slice (some ⟨q.1,0,none⟩) m q.2)) (fun q=>bP e s (.slice (some ⟨q.1,0,none⟩) 0 q.2) []):=iT.of fun cx X a w V hi' hsl=>by
 have ex:a.eval x = .slice none 0 0:=hx n V a hsl
 have ey:a.eval y = .int kd (m:Int):=hy n V a hsl
 have hr:=Lib.run_append_nil_zeros (P:=P) w t tn t' e i z kd kn ht htn hi hz m h0 zo zo hb
 have hge:=grownCap_ge w m 0 e
 have hcm:grownCap w m 0 e ≤ maxLen:=grownCap_le_maxLen w m 0 e (by simp only [maxLen]; omega)
 subst hs
 refine ⟨(w.heap.size,grownCap w m 0 e),_,_,?_,rfl,(hi'.drew).alloc (ob:=.cells (Builtin.zeroCells z.cells m ++ Builtin.zeroCells z.cells (grownCap w m 0 e - m)) e) (fun mm hm'=>⟨[],⟨trivial,by simp,by simp [dH]⟩,.inr ⟨w.heap.size,grownCap w m 0 e,_,rfl,rfl,hm',Nat.zero_le _,hcm,?_,by simp [dH]⟩⟩)⟩
 ·simp [execOp,resolve,invoke,builtin,ex,ey,hr,Sem.run_bind,Result.andThen]
 ·simp only [Array.size_append, size_zeroCells, hzs, ← Nat.add_mul]
  congr 1; omega
theorem Vh {x : Operand} {ad : Option Addr} {l cap : Nat} {e : TypeId} {ta : TypeId} (hU : ∀ w, (underlying ta).run P w = .ok (.slice e) w) (hx : bH E x (Is (.slice ad l cap))) :
  aM P n E H ⟨d,.call ⟨.builtin .cap,#[x],#[ta]⟩,t,pos,af,g⟩ (aL .i64 cap) :=
 eE fun a V w hs => by
  have e1:a.eval x = .slice ad l cap:=hx n V a hs
  exact ⟨.int .i64 cap,by simp [execOp,resolve,e1,invoke,builtin,Builtin.cap_,Sem.run_bind,hU,Result.andThen,goInt],rfl⟩
theorem Hx {x hiO : Operand} {ad : Option Addr} {l cap m s : Nat} {kd : IntKind} {e : TypeId} (hU : ∀ w, (underlying t).run P w = .ok (.slice e) w) (hS : ∀ w, (sizeOf e).run P w = .ok s w) (hx : bH E x (Is (.slice ad l cap))) (hh : bH E hiO (aL kd (m : Int))) (h1 : m ≤ cap) {t' : TypeId} :
  aM P n E H ⟨d,.slice t x none (some hiO) none,t',pos,af,g⟩ (Is (.slice ad m cap)) :=
 eE fun a V w hs => by
  have e1:a.eval x = .slice ad l cap:=hx n V a hs
  have eh:a.eval hiO = .int kd (m:Int):=hh n V a hs
  have had:(ad.map fun x:Addr=>x.add 0) = ad:=by cases ad <;> simp [Addr.add]
  refine ⟨.slice ad m cap,?_,rfl⟩
  simp [execOp,e1,eh,Instr.sliceAt,Instr.slice,Instr.sliceBounds,Instr.sliceBound,asIntOf,Sem.run_bind,hU,hS,Result.andThen,h1,had]
end
end
section
open Go Go.RowKit
section
variable {P:Program} {n:Nat} {E:cT} {H:Hp}
variable {d:Option Tmp} {t:TypeId} {pos:String} {af:Array Edge} {g:Option (Nat × Bool)}
theorem a1z {f : FuncId} {xs : List Operand} {tys : Array TypeId} {Ts : List Ty} {U T0 T1 : Ty} {A : SA} {j tt : Nat} (hc : ∀ args w, (callFunc f args).run P w = .ok (.enter f args) w) (hF : bB P f Ts U)
  (hA:H[j]? = some A) (hl:fS E tt = some T0) (hz:∀ v S V,T0.p v V → A.h S V V → T1.p v V) (hU:∀ v V V',U.p v V → U.p v V') (ha:rD ((tt,T1) :: E) xs Ts) :
  aM P n E H ⟨d,.call ⟨.value (.func f),xs.toArray,tys⟩,t,pos,af,g⟩ U:=fun cx X a w V hi hs K Q hK=>by
 have hrun : (execOp a.eval ⟨d, .call ⟨.value (.func f), xs.toArray, tys⟩, t, pos, af, g⟩).run P w = .ok (.enter f (xs.map a.eval).toArray) w := by
  simp [execOp,resolve,Act.eval,Deferred.ofValue,invoke,hc]
 simp only [Oper.wp,hrun,Oper.upon_enter]
 obtain ⟨F,h1,h2⟩:=hi.hp
 have hjl:=(List.getElem?_eq_some_iff.1 hA).1
 obtain ⟨k1,k2⟩:=h1 j A (by rw [List.getElem?_append_left hjl]; exact hA)
 let V1:bA:=fun b=>if b ∈ F j then w.heap[b]? else V b
 have hle : oE V V1 := fun b o hb => by
  have:b ∉ F j:=fun hf=>by have:=(k2 b hf).1; rw [hb] at this; cases this
  simp only [V1,if_neg this]; exact hb
 have hon : ∀ b o, V1 b = some o → w.heap[b]? = some o := fun b o hb => by
  by_cases hf:b ∈ F j
  ·simp only [V1,if_pos hf] at hb; exact hb
  ·simp only [V1,if_neg hf] at hb; exact hi.on b o hb
 have hA1:A.h (F j) V1 V1:=A.mono (A.loc k1 fun b hb=>by simp only [V1,if_pos hb]; rfl) hle
 have hsl : fE n ((tt, T1) :: E) V1 a := by
  have hs':=hs.mono hle
  refine ⟨hs'.1,hs'.2.1,fun t' T hT=>?_⟩
  rw [dC] at hT
  by_cases e:tt = t'
  ·subst e
   rw [if_pos rfl] at hT; obtain rfl:=Option.some.inj hT
   obtain ⟨v,q1,q2⟩:=hs'.2.2 _ _ hl
   exact ⟨v,q1,hz v (F j) V1 q2 hA1⟩
  ·rw [if_neg e] at hT; exact hs'.2.2 t' T hT
 refine (hF _ V1 w hon (rD.all hsl ha)).mono ?_
 rintro e w' ⟨v,V',rfl,m1,m2,m3,m4,m5⟩
 exact hK v w' V (hi.after (oE.refl V) (fun b o hb=>m2 b o (m1 b o (hle b o hb))) (fun b o hb h0=>by rw [hb] at h0; cases h0) m4) (oE.refl V) (hU v V' V m5)
theorem Ye {x i : Operand} {q : Nat} {Ts : List Ty} {T : Ty} {kd : IntKind} {e : TypeId} {len : Nat} (hU : ∀ w, (underlying t).run P w = .ok (.array len e) w) (hS : ∀ w, (sizeOf e).run P w = .ok 1 w) (hg : ∀ w, (isAgg e).run P w = .ok false w)
  (hx:bH E x (eT Ts)) (hi:bH E i (NT kd q)) (hl:q < len) (hT:Ts[q]? = some T) {t':TypeId}:aM P n E H ⟨d,.index t x i,t',pos,af,g⟩ T :=
 eE fun a V w hs => by
  obtain ⟨vs,e1,e4⟩:=hx n V a hs
  have ei:a.eval i = .int kd (q:Int):=hi n V a hs
  obtain ⟨u,e5,e6⟩:=e4.all.get hT
  exact ⟨u,by simp [execOp,e1,ei,Instr.index,asIntOf,Sem.run_bind,hU,hS,hg,part,Result.andThen,hl,e5],e6⟩
end
end
section
open Go Go.RowKit
section
variable {P:Program} {R:iS} {cx:Cx} {n:Nat} {k:List It} {E:cT} {H:Hp}
theorem HH.two {base:Nat} {w:World} {V:bA} {Z:SA} {X:Hp} (h:HH base w V (Z :: X)):HH base w V [Z,fO (SA.emp :: X)]:=by
 have h1:HH base w V ((Z :: X).set 0 SA.emp ++ [Z]):=h.last rfl
 have h2:HH base w V (fO (SA.emp :: X) :: [Z]):=HH.repack h1
 exact h2.pick (is:=[1,0]) ⟨⟨_,rfl,fun _ _ _ h=>h⟩,⟨_,rfl,fun _ _ _ h=>h⟩,trivial⟩ (by decide)
theorem jM.pack {f : FuncId} {Ts : List Ty} {γ : Type} {U : γ → Ty} {X : γ → Hp} {Q : γ → Prop} (h : jM P f Ts [] γ U X Q) : jM P f Ts [] γ U (fun x => [fO (SA.emp :: X x)]) Q :=
 fun cx Z vs V w h1 h2=>(h cx Z vs V w h1 h2).mono fun e w' ⟨v,V',x,a,b,c,d,e'⟩=>⟨v,V',x,a,b,c.withHH c.hp.two,d,e'⟩
theorem a5J {X Y:Hp} (h:Tr P R cx n k E (X ++ Y)):Tr P R cx n k E (fO X :: Y):=fun a w ⟨V,hin,hs⟩=>h a w ⟨V,hin.withHH hin.hp.unpack,hs⟩
end
namespace W
variable {P:Program} {R:iS} {cx:Cx} {n:Nat} {k:List It} {E:cT} {H:Hp} {Hf:Bool → Hp} {p:Nat}
end W
end
section
open Go Go.RowKit
section
variable {P:Program} {n:Nat} {E:cT} {H:Hp}
variable {d:Option Tmp} {t:TypeId} {pos:String} {af:Array Edge} {g:Option (Nat × Bool)}
theorem kO {x i : Operand} {B o q r s : Nat} {kd : IntKind} {j : Int} {e : TypeId} {len : Nat} (hU : ∀ w, (underlying t).run P w = .ok (.array len e) w) (hS : ∀ w, (sizeOf e).run P w = .ok s w)
  (hx:bH E x (cC B o)) (hi:bH E i (aL kd j)) (hj:j = (q:Int)) (hl:q < len) (hr:o + q * s = r) {t':TypeId}:aM P n E H ⟨d,.indexAddr t x i,t',pos,af,g⟩ (cC B r) :=
 eE fun a V w hs => by
  have e1:a.eval x = .pointer (some ⟨B,o,none⟩):=hx n V a hs
  have ei:a.eval i = .int kd j:=hi n V a hs
  subst hj hr
  exact ⟨.pointer (some ⟨B,o + q * s,none⟩),by simp [execOp,e1,ei,Instr.indexAt,Instr.sureAddr,asIntOf,Sem.run_bind,hU,hS,Result.andThen,hl,gT],rfl⟩
theorem a4c {x : Operand} {arr e : TypeId} {s : Nat} {Us Ws : List Ty} (hU : ∀ w, (underlying arr).run P w = .ok (.array 2 e) w) (hx : bH E x (kU s [eT Us, eT Ws])) (hl : Us.length = s) {t' : TypeId} :
  aM P n E H ⟨d,.sliceToArrayPointer arr x,t',pos,af,g⟩ (PT (eT (Us ++ Ws))) :=
 eE fun a V w hs => by
  obtain ⟨a0,cap,e1,hcap,h3⟩:=hx n V a hs
  obtain ⟨b,o,x0,ea,⟨c,BT,fr,l2,l3⟩,c0,us,rfl,hu⟩:=h3 0 _ rfl
  obtain ⟨b',o',x1,ea',⟨c',BT',fr',l2',l3'⟩,c1,ws,rfl,hw⟩:=h3 1 _ rfl
  subst ea
  obtain ⟨rfl,rfl⟩:b = b' ∧ o = o':=by simpa using ea'
  obtain ⟨rfl,rfl,rfl⟩:c = c' ∧ BT = BT' ∧ fr = fr':=by rw [l2] at l2'; simpa using l2'
  have hlu:us.length = s:=hu.length.trans hl
  refine ⟨.pointer (some ⟨b,o,none⟩),by simp [execOp,e1,Instr.arrayAt,Sem.run_bind,hU,Result.andThen,pure,Sem.run],b,o,.agg (us ++ ws).toArray,rfl,⟨c,BT,fr,l2,fun j u hj=>?_⟩,us ++ ws,rfl,hu.append hw⟩
  simp only [Value.cells,List.getElem?_toArray] at hj
  by_cases c2:j < us.length
  ·rw [List.getElem?_append_left c2] at hj
   have:=l3 j u (by simpa [Value.cells] using hj)
   rw [show o + j = o + 0 * s + j by omega]; exact this
  ·rw [List.getElem?_append_right zo] at hj
   have:=l3' (j - us.length) u (by simpa [Value.cells] using hj)
   rw [show o + j = o + 1 * s + (j - us.length) by omega]; exact this
end
end
section
open Go Go.RowKit
section
variable {P:Program} {R:iS} {cx:Cx} {n:Nat} {k:List It} {E:cT} {H:Hp} {ops:Array Oper} {o:Oper} {rest:List Oper}
variable {d:Option Tmp} {t:TypeId} {pos:String} {af:Array Edge} {g:Option (Nat × Bool)}
def hdr : Option (Nat × Nat) → Nat → Value
 | none,_=>.slice none 0 0
 | some (b,cp),l=>.slice (some ⟨b,0,none⟩) l cp
instance shHdr (x:Option (Nat × Nat)) (l:Nat):dD (Is (hdr x l)) 1 false:=by
 match x with
 | none=>exact inferInstanceAs (dD (Is (.slice none 0 0)) 1 false)
 | some (b,cp)=>exact inferInstanceAs (dD (Is (.slice (some ⟨b,0,none⟩) l cp)) 1 false)
end
end
section
open Go Go.RowKit
theorem gO.mk' {V : bA} : ∀ {Ts : List Ty} {vs : List Value}, vs.length = Ts.length → (∀ (q : Nat) (T : Ty), Ts[q]? = some T → ∃ u, vs[q]? = some u ∧ T.p u V) → gO Ts vs V
 | [],[],_,_=>trivial
 | T :: Ts, v :: vs, h, k => by
  obtain ⟨u,h1,h2⟩:=k 0 T rfl
  simp at h1; subst h1
  exact ⟨h2,gO.mk' (by simpa using h) fun q T hT=>k (q + 1) T (by simpa using hT)⟩
 | [],_ :: _,h,_=>by simp at h
 | _ :: _,[],h,_=>by simp at h
section
variable {P:Program} {R:iS} {cx:Cx} {n:Nat} {k:List It} {E:cT} {H:Hp} {ops:Array Oper} {o:Oper} {rest:List Oper}
variable {d:Option Tmp} {t:TypeId} {pos:String} {af:Array Edge} {g:Option (Nat × Bool)}
theorem iY.frzRows {V : bA} {w : World} {j B e s : Nat} {q : Value → Prop} {BT : TypeId} {Rs : List (List Ty)} (h : iY cx V H w) (hH : H[j]? = some (tQ q B BT e s Rs)) (hm : Rs.length ≤ maxLen) :
  ∃ V',oE V V' ∧ iY cx V' (H.set j (bP BT 1 (.slice (some ⟨B,0,none⟩) Rs.length Rs.length) (Rs.map (kU s)))) w:=by
 have hjl:=(List.getElem?_eq_some_iff.1 hH).1
 obtain ⟨vs, hv⟩ := h.hp.split (γ := {vs : List Value // vs.length = Rs.length}) (A1 := fun vs => box B BT (vs.1.map Is)) (A2 := fun vs => fO (SA.emp :: List.zipWith (bP e s) vs.1 Rs)) hH (fun S ⟨vs, ⟨h1, h1q⟩, h2⟩ => by
  obtain ⟨S1,S2,k1,k2,k3,k4⟩:=fO.split (q:=0) h2 (A:=box B BT (vs.map Is)) (by simp [mx])
  exact ⟨⟨vs,h1⟩,S2,S1,k2,k1,fun b p r=>k3 b r p,fun b=>by rw [k4 b]; exact Or.comm⟩)
 have h3:iY cx V (H.set j (box B BT (vs.1.map Is)) ++ [fO (SA.emp :: List.zipWith (bP e s) vs.1 Rs)]) w:=h.withHH hv
 obtain ⟨V',S,hle,hi',hA⟩:=h3.freeze (i:=H.length) (A:=fO (SA.emp :: List.zipWith (bP e s) vs.1 Rs)) (by rw [List.getElem?_append_right (by simp)]; simp)
 refine ⟨V',hle,?_⟩
 obtain ⟨F,f1,f2⟩:=hi'.hp
 obtain ⟨G,g1,g2,g3⟩:=hA
 refine hi'.withHH ⟨F,fun i A hA=>?_,fun i l b hi hl=>?_⟩
 ·by_cases c : i = j
  ·subst c
   simp [hjl] at hA; subst hA
   obtain ⟨⟨e0,cs,e1,e2⟩,k2⟩:=f1 i (box B BT (vs.1.map Is)) (by rw [List.getElem?_set_ne zo,List.getElem?_append_left (by simpa using hjl)]; simp [hjl])
   refine ⟨⟨cs,⟨?_,fun x hx=>by rw [(e2.pl x hx).cells]; rfl,fun u hu=>?_⟩,.inr ⟨B,Rs.length,cs.toArray,by rw [List.length_map],e0,e1,by rw [List.length_map]; exact Nat.le_refl _,hm,?_,?_⟩⟩,k2⟩
   ·refine gO.mk' (by rw [e2.length, List.length_map, List.length_map, vs.2]) fun q T hT => ?_
    rw [List.getElem?_map] at hT
    obtain ⟨Ts,hR,rfl⟩:=Option.map_eq_some_iff.1 hT
    have hql:=(List.getElem?_eq_some_iff.1 hR).1
    have hvq:vs.1[q]? = some (vs.1[q]'(by rw [vs.2]; exact hql)):=by simp [vs.2,hql]
    obtain ⟨u,u1,u2⟩:=e2.get (i:=q) (T:=Is (vs.1[q]'(by rw [vs.2]; exact hql))) (by simp [vs.2,hql])
    have hrow:=g1 (q + 1) (bP e s (vs.1[q]'(by rw [vs.2]; exact hql)) Ts) (by simp [List.getElem?_zipWith,hvq,hR])
    exact ⟨u,u1,fR u _ V' u2 hrow⟩
   ·obtain ⟨x, hx, hu⟩ := jZ.1 hu
    have:=e2.pl x hx
    rw [this.cells] at hu; simp at hu; subst hu; exact this
   ·have := e2.length
    rw [List.length_map,vs.2] at this
    simp [this]
   ·have := e2.length
    rw [List.length_map,vs.2] at this
    have hf:dH cs = cs:=tM cs fun x hx=>e2.pl x hx
    rw [hf,List.length_map,Nat.mul_one]
    simp [← this]
  ·rw [List.getElem?_set_ne (fun x => c x.symm)] at hA
   have hil:=(List.getElem?_eq_some_iff.1 hA).1
   refine f1 i A ?_
   rw [List.getElem?_set_ne zo,List.getElem?_append_left (by simpa using hil),List.getElem?_set_ne (fun x=>c x.symm)]
   exact hA
 ·simp at hi hl
  exact f2 i l b (by simp; omega) (by simp; omega)
theorem Wo (j : Nat) {B e s : Nat} {q : Value → Prop} {BT : TypeId} {Rs : List (List Ty)} (hH : H[j]? = some (tQ q B BT e s Rs)) (hm : Rs.length ≤ maxLen)
  (h:Tr P R cx n k E (H.set j (bP BT 1 (.slice (some ⟨B,0,none⟩) Rs.length Rs.length) (Rs.map (kU s))))):Tr P R cx n k E H:=fun a w ⟨V,hi,hs⟩=>by
 obtain ⟨V',hle,hi'⟩:=hi.frzRows hH hm
 exact h a w ⟨V',hi',hs.mono hle⟩
theorem Pk (j : Nat) {B e s m : Nat} {q : Value → Prop} {BT : TypeId} {Rs : List (List Ty)} {Us : List Ty} (hH : H[j]? = some (tQ q B BT e s Rs)) (hm : m ≤ maxLen) (hl : Rs.length = m) (hU : Rs.map (kU s) = Us)
  (h:Tr P R cx n k E (H.set j (bP BT 1 (.slice (some ⟨B,0,none⟩) m m) Us))):Tr P R cx n k E H:=by
 subst hl hU; exact Wo j hH hm h
def NlT (s:Nat) (Ts:List Ty):Ty where
 p v V:=(Ts = [] ∧ v = .slice none 0 0) ∨ (Ts ≠ [] ∧ (kU s Ts).p v V)
 mono h k:=h.imp id fun ⟨a,b⟩=>⟨a,(kU s Ts).mono b k⟩
theorem En (tx:TypeId) (x y:Operand) (a b:Option Addr) (l c l' c':Nat):eqGuard .neq tx x y (.slice a l c) (.slice b l' c') = pure ():=rfl
theorem Yf {tx ty : TypeId} {x : Operand} {s : Nat} {Ts : List Ty} {e : TypeId} {q : Bool} (hq : q = true ↔ Ts ≠ []) (hU : ∀ w, (underlying tx).run P w = .ok (.slice e) w) (hx : bH E x (NlT s Ts)) :
  aM P n E H ⟨d,.binOp .neq tx x (.const (.slice none 0 0)) ty,t,pos,af,g⟩ (aH q) :=
 eE fun a V w hs => by
  rcases hx n V a hs with ⟨hT,e1⟩ | ⟨hT,ad,cap,e1,_,e3⟩
  ·have hf : q = false := by cases q; rfl; exact absurd hT (hq.1 rfl)
   subst hf
   refine ⟨.bool false,?_,rfl⟩
   have h:=Cw (P:=P) (tx:=tx) (e:=e) none 0 0 hU
   simp [execOp,e1,tK,En,binOp,h,Sem.run_bind,Result.andThen] at h ⊢
  ·have ht : q = true := hq.2 hT
   subst ht
   cases ad with
   | none =>
    cases Ts with
    | nil=>exact absurd rfl hT
    | cons T Ts=>obtain ⟨b,o,x,h,_⟩:=e3 0 T rfl; cases h
   | some ad =>
    refine ⟨.bool true,?_,rfl⟩
    have h:=Cw (P:=P) (tx:=tx) (e:=e) (some ad) Ts.length cap hU
    simp [execOp,e1,tK,En,binOp,h,Sem.run_bind,Result.andThen] at h ⊢
theorem a2u {f : FuncId} {xs : List Operand} {tys : Array TypeId} {Ts : List Ty} {γ : Type} {U : γ → Ty} {i j : Nat} {A B : SA} {A' B' : γ → SA} {Q : γ → Prop} {dd : Nat} (hc : ∀ args w, (callFunc f args).run P w = .ok (.enter f args) w)
  (hF:jM P f Ts [A,B] γ U (fun x=>[A' x,B' x]) Q) (hA:H[i]? = some A) (hB:H[j]? = some B) (hij:i ≠ j) (ha:rD E xs Ts) (hn:Nat.blt dd n = true) (h:∀ x,Q x → Rg P R cx n ops rest k ((dd,U x) :: E) ((H.set j (B' x)).set i (A' x))) :
  Rg P R cx n ops (⟨some dd,.call ⟨.value (.func f),xs.toArray,tys⟩,t,pos,af,none⟩ :: rest) k E H:=by
 intro a w ⟨V,hi,hs⟩
 unfold wpList
 rw [if_pos (by simp [Region.wanted])]
 left
 have hrun : (execOp a.eval ⟨some dd, .call ⟨.value (.func f), xs.toArray, tys⟩, t, pos, af, none⟩).run P w = .ok (.enter f (xs.map a.eval).toArray) w := by
  simp [execOp,resolve,Act.eval,Deferred.ofValue,invoke,hc]
 simp only [Oper.wp,hrun,Oper.upon_enter]
 have hil:=(List.getElem?_eq_some_iff.1 hA).1
 have hjl:=(List.getElem?_eq_some_iff.1 hB).1
 have h1:=hi.hp.last hA
 have h2:=h1.last (i:=j) (A:=B) (by rw [List.getElem?_append_left (by simpa using hjl),List.getElem?_set_ne hij]; exact hB)
 rw [List.set_append_left _ _ (by simpa using hjl),List.append_assoc] at h2
 have h3:=HH.repack h2
 refine (hF cx _ _ V w (hi.withHH h3) (rD.all hs ha)).mono ?_
 rintro e w' ⟨v,V',x,rfl,m1,m2,m3,m4⟩
 refine h x m4 _ _ ⟨V',m2.withHH ?_,(hs.mono m1).put (aK hn) m3⟩
 have g1:=m2.hp.unpack
 have e1 : (H.set i SA.emp).set j SA.emp ++ [A' x, B' x] = (H.set i SA.emp ++ [A' x]).set j SA.emp ++ [B' x] := by
  rw [List.set_append_left _ _ (by simpa using hjl),List.append_assoc]; rfl
 rw [e1] at g1
 have g2:=g1.unlast (by simp; omega)
 rw [List.set_append_left _ _ (by simpa using hjl),List.set_comm _ _ hij] at g2
 exact g2.unlast (by simpa using hil)
end
end
section
open Go Go.RowKit
theorem a08 {x:Qi} {L:Nat} [hx:aF x L] (h:L + L + 1 ≤ 17592186044415):bB Tryz.prog 50 [aI x] (aI x.norm):=by
 have hxa:=oH hx.fit; have hxb:=oI hx.fit; have hxd:=oJ hx.fit
 have hxp:=x.den_pos; have hdp:=Nat.mul_pos hxp hxp
 have e1:=nD x.a x.a; have e2:=nD x.b x.b; have e5:=Ae x.den x.den
 have e6:=oL (x:=x.a * x.a) (y:=x.b * x.b) (L:=L + L) zo zo
 have hz:(dg (0:Int).natAbs).length ≤ 0:=by rw [show (0:Int).natAbs = 0 from rfl,eO]; exact Nat.le_refl _
 refine bB.intro Tryz.func50 rfl Tryz.ntmps50 rfl (fun cx=>(ts (rn rfl (fY (Ht rfl)) fun B1=>(rn rfl (eU (Ts:=[Is (.bool false),Is (.slice none 0 0),Is (.bool false),Is (.slice none 0 0),Is (.slice none 0 0)]) O_60 rfl (fun V=>aW zd (aW zd (aW zd (aW zd (aW zd (aG))))))) fun B2=>(eW (cU (fW (m:=17) (dp 1 rfl (eG gM (Ht rfl) rfl) (dq 3 0 rfl (eK A_58 Z_58 (Ht rfl) (i:=0) rfl rfl rfl) (dp 1 rfl (eG gM (Ht rfl) rfl) ?_))))))))))
 refine dq 5 2 rfl (eK A_58 Z_58 (Ht rfl) (i:=0) rfl rfl rfl) (dE 4 1 6 3 rfl (cJ K_151 (rJ zo zo) ⟨(Ht rfl),(Ht rfl),trivial⟩) (dp 1 rfl (eG iF (Ht rfl) rfl) (dq 8 5 rfl (eK A_58 Z_58 (Ht rfl) (i:=0) rfl rfl rfl) (dp 1 rfl (eG iF (Ht rfl) rfl) (dq 10 7 rfl (eK A_58 Z_58 (Ht rfl) (i:=0) rfl rfl rfl) (dE 9 6 11 8 rfl (cJ K_151 (rJ zo zo) ⟨(Ht rfl),(Ht rfl),trivial⟩) (dE 7 4 12 9 rfl (cJ K_152 (wT zo zo) ⟨(Ht rfl),(Ht rfl),trivial⟩) ?_)))))))
 refine d0 rfl (aM.imp (Sn ) xF) (dp 1 rfl (eK A_60 Z_60 (Ht rfl) (i:=0) rfl rfl rfl) (dq 15 12 rfl (cJ K_153 pV ⟨(Ht rfl),trivial⟩) (dp 1 rfl (eK A_60 Z_60 (Ht rfl) (i:=0) rfl rfl rfl) (dq 17 14 rfl (cJ K_153 pV ⟨(Ht rfl),trivial⟩) (dE 16 13 18 15 rfl (cJ K_154 (Gz zo zo) ⟨(Ht rfl),(Ht rfl),trivial⟩) (fK aS rfl (by kernel_rfl) (zF (zF (zF (zF (aJ (aV ?_))))))))))))
 refine ro rfl (cJ K_150 (wS (A:=x.a * x.a + x.b * x.b) (B:=0) (D:=x.den * x.den) hdp zo zo zo) ⟨(Ht rfl),(Ht rfl),(Ht rfl),trivial⟩) (gJ Z_60 (Ht rfl) (Ht rfl) rfl (i:=1) rfl (aK rfl) rfl rfl (eW (fU rfl (fV (gQ A_60 Z_60 rfl (i:=1) rfl rfl) ?_))))
 exact (jA (Qi.mk_norm x))
theorem Sw {x y:List Qi} {f:Qi} {n L M N:Nat} (hx:bI x L) (hf:aF f M) (hy:bI y N) (hL:1 ≤ L) (hN:1 ≤ N) (hb:L + M + N + 4 ≤ 17592186044415) (hxl:x.length = n) (hyl:y.length = n) (hn:n ≤ 1000):bB Tryz.prog 197 [bC x,aI f,bC y] (bC (mxV x f y)):=by
 haveI:=hf
 refine bB.intro Tryz.func197 rfl Tryz.ntmps197 rfl (fun cx=>(ts (rn rfl (fY (Ht rfl)) fun B4=>(ro rfl (cX cW) (eW (ts (ro rfl (cX cW) (eW (cU (cU (uA 60 5 (dQ (rm rfl (ro rfl (dY U_25 (Ht rfl) (by rw [List.length_map,hxl])) ?_))))))))))))))
 refine ro rfl (cZ (cV 0)) (eW (eY ?_))
 refine fP (fun (i : Nat) (v : Value) => i ≤ n) (fun (i : Nat) (v : Value) => n - i) (fun (i : Nat) (v : Value) => [(0, bC x), (2, bC y), (4, cC B4 0), (7, Is v), (10, NT .i64 n), (11, NT .i64 i)]) (fun (i : Nat) (v : Value) => [box B4 60 [aH (decide (f.a < 0)), aN f.a.natAbs, aH (decide (f.b < 0)), aN f.b.natAbs, aN (du f)], bP 60 5 v ((tab i (fun i => gv x i + f * gv y i)).map aI)]) 0 _ (Nat.zero_le _)
  (zS rfl) (aU (aD rfl) (aU (bD rfl) aY)) (fun i v hi=>?_)
 refine ts (ro rfl (gV (Ht rfl) (Ht rfl)) (eW (cU (dX (Ht rfl) (fun hd=>?_) (fun hd=>?_)))))
 ·have hin : i < n := by simp only [decide_eq_true_eq] at hd; omega
  haveI f1:aF (gv x i) L:=hx.get hL i
  haveI f2:aF (gv y i) N:=hy.get hN i
  haveI f3:aF (f * gv y i) (M + N + 1):=fitMul
  refine cY (cU (eY (ts (rm rfl (ra rfl (eW (fW (m:=13) (dp 7 rfl (cZ (Ht rfl)) (dp 0 rfl (cZ (Ht rfl)) (dp 8 rfl (cZ (Ht rfl)) (dE 15 1 16 2 rfl (dJ U_25 Z_60 (Ht rfl) (Ht rfl) rfl (eZ (eX (d:=Qi.zero) zo))) (dq 17 3 rfl (dW A_60 Z_60 (Ht rfl)) (dp 4 rfl (eK A_60 Z_60 (Ht rfl) (i:=0) rfl rfl rfl) (dp 2 rfl (cZ (Ht rfl)) (dp 8 rfl (cZ (Ht rfl)) (dE 20 6 21 7 rfl (dJ U_25 Z_60 (Ht rfl) (Ht rfl) rfl (eZ (eX (d:=Qi.zero) zo))) ?_))))))))))))))))
  refine dq 22 8 rfl (dW A_60 Z_60 (Ht rfl)) (dE 19 5 23 9 rfl (cJ K_70 (lS (x:=f) (y:=gv y i) (L:=M) (M:=N) zo) ⟨(Ht rfl),(Ht rfl),trivial⟩) (dE 18 4 24 10 rfl (cJ K_71 (tW (x:=gv x i) (y:=f * gv y i) (L:=L) (M:=M + N + 1) zo) ⟨(Ht rfl),(Ht rfl),trivial⟩) (dq 25 11 rfl (eB (xs:=[.tmp 25]) U_25 Z_60 O_60 (cG (Ht rfl) cK) rfl rfl rfl) (fK aS rfl (by kernel_rfl) (zF (zF (zF (aJ (aV ?_)))))))))
  refine sD (inf:=Tryz.t60) lE jH rfl rfl rfl (Ht rfl) (Ht rfl) (i:=1) rfl (by simp) (fun T hT=>by simp at hT; subst hT; exact El.ag rfl) (by show _ * 88 ≤ _; simp only [List.length_map,aE,List.length_cons,List.length_nil]; omega) (by simp only [List.length_map,aE,List.length_cons,List.length_nil]; omega) rfl (fun v2=>?_)
  refine ra rfl (eW (bM (dQ (ro rfl (dK (Ht rfl) (cV 1) z6) (rm rfl (eW (gX (i + 1,v2) hin (by dsimp only; omega) (zS rfl) (aU (aD rfl) (aU (bD (by rw [mD,List.map_append]; rfl)) aY)))))))))
 ·have hin : i = n := by simp only [decide_eq_false_iff_not] at hd; omega
  rw [hin]
  refine gK rfl (gG (i:=1) (tt:=7) rfl rfl fR (ts (rm rfl (ra rfl (eW (fU rfl (fV (fX rfl) ?_)))))))
  exact (kH (by rw [mxV,hxl]))
theorem Pw {G V:List (List Qi)} {vs:List Value} {n i L M B BV:Nat} (hG:cB G n n) (hV:cB V n n) (hvs:Hds vs n) (hfG:bE G L) (hfV:bE V M) (hL:1 ≤ L) (hM:1 ≤ M) (hb:10 * L + 2 * M + 40 ≤ 8796093022208) (hi:i < n) (hn:n ≤ 32):jM Tryz.prog 196 [Is (.slice (some ⟨B,0,none⟩) n n),Is (.slice (some ⟨BV,0,none⟩) n n),NT .i64 i] [kD B 25 60 5 vs vs (dO aI G),bP 25 1 (.slice (some ⟨BV,0,none⟩) n n) (V.map bC)] (Unit) (fun _=>NlT 5 ((Je G V n i).map aI)) (fun _=>[kD B 25 60 5 vs vs (dO aI G),bP 25 1 (.slice (some ⟨BV,0,none⟩) n n) (V.map bC)]) (fun _=>True):=by
 have hGl:=hG.1
 have hvl:=hvs.len
 haveI h0:=lA
 have hVl:=hV.1
 refine jM.intro Tryz.func196 rfl Tryz.ntmps196 rfl (fun cx Z=>?_)
 haveI g0:aF (gm G i i) L:=hfG.get hL i i
 refine ts (ro rfl (cX cW) (eW (cU (ts (rm rfl (rm rfl (ro rfl (gZ U_26 Z_25 (Ht rfl) (Ht rfl) rfl zo (by rw [Nat.mul_one,Nat.zero_add])) ?_)))))))
 refine ro rfl (gD A_25 Z_25 (Ht rfl) (j:=1) rfl zo) (rm rfl (ro rfl (iG U_25 Z_60 (Ht rfl) (Ht rfl) rfl (j:=1) rfl zo zo (by rw [hG.row zo]; omega)) ?_))
 refine ro rfl (kP A_60 Z_60 (Ht rfl) (j:=1) rfl zo zo (by rw [hG.row zo]; omega)) ?_
 refine ro rfl (cJ Tryz.call82 (xO (x:=gm G i i) (L:=L) zo) ⟨(Ht rfl),trivial⟩) (eW (dX (Ht rfl) (fun h0=>?_) (fun h0=>?_)))
 ·have hne : ¬ gm G i i = Qi.zero := by simpa using h0
  have hz:Je G V n i = []:=by rw [Je,if_neg (show ¬ gm G i i = 0 from hne)]
  refine ts (ro rfl (cX cW) (eW ?_))
  exact lJ () trivial [0,1,2] ⟨⟨_,rfl,fun _ _ _ h=>h⟩,⟨_,rfl,fun _ _ _ h=>h⟩,⟨_,rfl,fun _ _ _ h=>h⟩,trivial⟩ (by decide) (zJ rfl (fV (fX rfl) (fun v V h=>by rw [hz]; exact .inl ⟨rfl,h⟩)))
 ·have hze0 : gm G i i = Qi.zero := by simpa using h0
  have hze:gm G i i = 0:=hze0
  refine cY (cU (ts (rm rfl (ro rfl (dK (Ht rfl) (cV 1) z6) (ra rfl (eW (eY ?_)))))))
  refine cP (fun (k : Nat) => (i + 1 ≤ k ∧ k ≤ n) ∧ ∀ j, i + 1 ≤ j → j < k → gm G i j = Qi.zero) (fun (k : Nat) => n - k) (fun (k : Nat) => [(0, Is (.slice (some ⟨B, 0, none⟩) n n)), (1, Is (.slice (some ⟨BV, 0, none⟩) n n)), (2, NT .i64 i), (7, NT .i64 k)]) (fun (k : Nat) => [Z, kD B 25 60 5 vs vs (dO aI G), bP 25 1 (.slice (some ⟨BV, 0, none⟩) n n) (V.map bC)]) (i + 1) ⟨⟨Nat.le_refl _, hi⟩, fun j h1 h2 => by omega⟩
   (zS rfl) (dI.refl _) (fun k ⟨⟨hk1,hk2⟩,hz0⟩=>?_)
  refine cU (ts (rm rfl (rm rfl (ro rfl (iV U_26 (Ht rfl)) (ro rfl (gV (Ht rfl) (Ht rfl)) (eW (dX (Ht rfl) (fun hc=>?_) (fun hc=>?_))))))))
  ·have hkn : k < n := by simp only [decide_eq_true_eq] at hc; omega
   haveI g1:aF (gm G i k) L:=hfG.get hL i k
   haveI g2:aF (gm G k k) L:=hfG.get hL k k
   have hri:=hG.row hi
   have hrk:=hG.row hkn
   refine cY (cU (eY (cU (ts (rm rfl (rm rfl (ro rfl (gZ U_26 Z_25 (Ht rfl) (Ht rfl) rfl zo (by rw [Nat.mul_one,Nat.zero_add])) ?_)))))))
   refine ro rfl (gD A_25 Z_25 (Ht rfl) (j:=1) rfl zo) (rm rfl (ro rfl (iG U_25 Z_60 (Ht rfl) (Ht rfl) rfl (j:=1) rfl zo zo zo) (ro rfl (kP A_60 Z_60 (Ht rfl) (j:=1) rfl zo zo zo) (ro rfl (cJ Tryz.call82 (xO (x:=gm G i k) (L:=L) zo) ⟨(Ht rfl),trivial⟩) (ro rfl (eS (Ht rfl)) (eW (dX (Ht rfl) (fun hd=>?_) (fun hd=>?_))))))))
   ·have hik : gm G i k = Qi.zero := by simpa using hd
    refine gK rfl (dQ (rm rfl (ro rfl (dK (Ht rfl) (cV 1) z6) (ra rfl (eW ?_)))))
    refine gX (k + 1) ⟨⟨by omega, hkn⟩, fun j h1 h2 => by
      by_cases e:j = k
      ·rw [e]; exact hik
      ·exact hz0 j h1 zo⟩ zo (zS rfl) (dI.refl _)
   ·have hik : ¬ gm G i k = Qi.zero := by simpa using hd
    have hK:crK G n i = k:=Jp hk1 zo (fun j h1 h2=>by rw [show decide (gm G i j = 0) = true from decide_eq_true (hz0 j h1 h2)]; rfl) (fun _=>by rw [show decide (gm G i k = 0) = false from decide_eq_false hik]; rfl)
    have hw:Je G V n i = crV G V i k:=by rw [Je,if_pos hze,hK,if_pos hkn]
    refine cY (ts (rm rfl (rm rfl (ro rfl (gZ U_26 Z_25 (Ht rfl) (Ht rfl) rfl zo (by rw [Nat.mul_one,Nat.zero_add])) ?_))))
    refine ro rfl (gD A_25 Z_25 (Ht rfl) (j:=1) rfl zo) (rm rfl (ro rfl (iG U_25 Z_60 (Ht rfl) (Ht rfl) rfl (j:=1) rfl zo zo zo) (ro rfl (kP A_60 Z_60 (Ht rfl) (j:=1) rfl zo zo zo) (rn rfl (eU (Ts:=[Is (.bool false),Is (.slice none 0 0),Is (.bool false),Is (.slice none 0 0),Is (.slice none 0 0)]) O_60 rfl (fun V=>aW zd (aW zd (aW zd (aW zd (aW zd (aG))))))) fun B8=>?_))))
    refine gJ Z_60 (Ht rfl) (Ht rfl) rfl (i:=3) rfl (aK rfl) rfl rfl (eW (cU (jU (fun (x:Qi)=>x = Xg (gm G k k)) (fun (x:Qi)=>[(0,Is (.slice (some ⟨B,0,none⟩) n n)),(1,Is (.slice (some ⟨BV,0,none⟩) n n)),(2,NT .i64 i),(7,NT .i64 k),(8,cC B8 0)]) (fun (x:Qi)=>[Z,kD B 25 60 5 vs vs (dO aI G),bP 25 1 (.slice (some ⟨BV,0,none⟩) n n) (V.map bC),box B8 60 [aH (decide (x.a < 0)),aN x.a.natAbs,aH (decide (x.b < 0)),aN x.b.natAbs,aN (du x)]]) ?_ (fun x hx=>?_))))
    ·refine ts (ro rfl (eK A_60 Z_60 (Ht rfl) (i := 3) rfl rfl rfl) (ro rfl (aM.imp (uZ ) qV) (ro rfl (cJ Tryz.call51 (a01 (x := gm G k k) (y := Qi.zero) (L := L) (M := 1) (hy := aF.zero (Nat.le_refl 1)) zo) ⟨(Ht rfl), (Ht rfl), trivial⟩) (ro rfl (qW (Ht rfl) cW) (eW (dX (Ht rfl) (fun hn2 => ?_) (fun hn2 => ?_)))))))
     ·refine dQ (ro rfl (eK A_60 Z_60 (Ht rfl) (i:=3) rfl rfl rfl) (ro rfl (cJ Tryz.call168 Sq ⟨(Ht rfl),trivial⟩) (gJ Z_60 (Ht rfl) (Ht rfl) rfl (i:=3) rfl (aK rfl) rfl rfl (eW (aT (-(gm G k k)) (by rw [Xg,Rc,if_pos hn2]) (zS rfl) (dI.refl _))))))
     ·refine cY (aT (gm G k k) (by rw [Xg,Rc,hn2]; rfl) (zS rfl) (dI.refl _))
    ·haveI g3 : aF x L := by
      rw [hx]; unfold Xg; split
      ·exact fitNeg
      ·exact g2
     haveI g4:aF (gm G i k).norm (L + L + 1):=fitNorm
     have hnz:(gm G i k).norm + (gm G i k).norm ≠ 0:=Nh hik
     haveI g5:aF ((gm G i k).norm + (gm G i k).norm) (L + L + 1 + (L + L + 1) + 1):=fitAdd (L:=L + L + 1) (M:=L + L + 1)
     haveI g6:aF (x + Qi.ofInt 1) (L + 1 + 1):=fitAdd (L:=L) (M:=1)
     haveI g7:aF (Ac G i k) (L + 1 + 1 + 3 * (L + L + 1 + (L + L + 1) + 1) + 2):=by rw [Ac,← hx]; exact oU g6 g5 hnz
     refine cU (Y.D_start (m:=26) [] (cQ (Ei:=[(8,_)]) rfl rfl (bQ (bJ rfl rfl) bX) rfl rfl (dZ rfl (eK A_60 Z_60 (Ht rfl) (i:=3) rfl rfl rfl)) (cQ (Ei:=[]) rfl rfl bX rfl rfl (dZ rfl (cJ K_52 (Dq (n:=1) (by decide) (by decide)) ⟨(cV 1),trivial⟩)) (cQ (Ei:=[(50,_),(51,_)]) rfl rfl (bQ (bZ 0 rfl rfl) (bQ (bZ 1 rfl rfl) bX)) rfl rfl (dZ rfl (cJ K_71 (tW (x:=x) (y:=Qi.ofInt 1) (L:=L) (M:=1) zo) ⟨(Ht rfl),(Ht rfl),trivial⟩)) ?_))))
     refine cQ (Ei:=[(0,_)]) rfl rfl (bQ (bJ rfl rfl) bX) rfl rfl (dZ rfl (cZ (Ht rfl))) (cQ (Ei:=[(2,_)]) rfl rfl (bQ (bJ rfl rfl) bX) rfl rfl (dZ rfl (cZ (Ht rfl))) (cQ (Ei:=[(53,_),(54,_)]) rfl rfl (bQ (bZ 3 rfl rfl) (bQ (bZ 4 rfl rfl) bX)) rfl rfl (dZ rfl (gZ U_26 Z_25 (Ht rfl) (Ht rfl) rfl zo (by rw [Nat.mul_one,Nat.zero_add]))) ?_))
     refine cQ (Ei:=[(55,_)]) rfl rfl (bQ (bZ 5 rfl rfl) bX) rfl rfl (dZ rfl (gD A_25 Z_25 (Ht rfl) (j:=1) rfl zo)) (cQ (Ei:=[(7,_)]) rfl rfl (bQ (bJ rfl rfl) bX) rfl rfl (dZ rfl (cZ (Ht rfl))) (cQ (Ei:=[(56,_),(57,_)]) rfl rfl (bQ (bZ 6 rfl rfl) (bQ (bZ 7 rfl rfl) bX)) rfl rfl (dZ rfl (iG U_25 Z_60 (Ht rfl) (Ht rfl) rfl (j:=1) rfl zo zo zo)) (cQ (Ei:=[(58,_)]) rfl rfl (bQ (bZ 8 rfl rfl) bX) rfl rfl (dZ rfl (kP A_60 Z_60 (Ht rfl) (j:=1) rfl zo zo zo)) ?_)))
     refine cQ (Ei:=[(59,_)]) rfl rfl (bQ (bZ 9 rfl rfl) bX) rfl rfl (dZ rfl (cJ Tryz.call50 (a08 (x:=gm G i k) (L:=L) zo) ⟨(Ht rfl),trivial⟩)) (cQ (Ei:=[(0,_)]) rfl rfl (bQ (bJ rfl rfl) bX) rfl rfl (dZ rfl (cZ (Ht rfl))) (cQ (Ei:=[(2,_)]) rfl rfl (bQ (bJ rfl rfl) bX) rfl rfl (dZ rfl (cZ (Ht rfl))) (cQ (Ei:=[(61,_),(62,_)]) rfl rfl (bQ (bZ 11 rfl rfl) (bQ (bZ 12 rfl rfl) bX)) rfl rfl (dZ rfl (gZ U_26 Z_25 (Ht rfl) (Ht rfl) rfl zo (by rw [Nat.mul_one,Nat.zero_add]))) ?_)))
     refine cQ (Ei:=[(63,_)]) rfl rfl (bQ (bZ 13 rfl rfl) bX) rfl rfl (dZ rfl (gD A_25 Z_25 (Ht rfl) (j:=1) rfl zo)) (cQ (Ei:=[(7,_)]) rfl rfl (bQ (bJ rfl rfl) bX) rfl rfl (dZ rfl (cZ (Ht rfl))) (cQ (Ei:=[(64,_),(65,_)]) rfl rfl (bQ (bZ 14 rfl rfl) (bQ (bZ 15 rfl rfl) bX)) rfl rfl (dZ rfl (iG U_25 Z_60 (Ht rfl) (Ht rfl) rfl (j:=1) rfl zo zo zo)) (cQ (Ei:=[(66,_)]) rfl rfl (bQ (bZ 16 rfl rfl) bX) rfl rfl (dZ rfl (kP A_60 Z_60 (Ht rfl) (j:=1) rfl zo zo zo)) ?_)))
     refine cQ (Ei:=[(67,_)]) rfl rfl (bQ (bZ 17 rfl rfl) bX) rfl rfl (dZ rfl (cJ Tryz.call50 (a08 (x:=gm G i k) (L:=L) zo) ⟨(Ht rfl),trivial⟩)) (cQ (Ei:=[(60,_),(68,_)]) rfl rfl (bQ (bZ 10 rfl rfl) (bQ (bZ 18 rfl rfl) bX)) rfl rfl (dZ rfl (cJ K_71 (tW (x:=(gm G i k).norm) (y:=(gm G i k).norm) (L:=L + L + 1) (M:=L + L + 1) zo) ⟨(Ht rfl),(Ht rfl),trivial⟩)) (cQ (Ei:=[(52,_),(69,_)]) rfl rfl (bQ (bZ 2 rfl rfl) (bQ (bZ 19 rfl rfl) bX)) rfl rfl (dZ rfl (cJ K_64 (eJ (tX (x:=x + Qi.ofInt 1) (y:=(gm G i k).norm + (gm G i k).norm) (L:=L + 1 + 1) (M:=L + L + 1 + (L + L + 1) + 1) zo) (by rw [hx]; exact fun _ _ k=>k)) ⟨(Ht rfl),(Ht rfl),trivial⟩)) ?_))
     refine cQ (Ei:=[(70,_)]) rfl rfl (bQ (bZ 20 rfl rfl) bX) rfl rfl (dZ rfl (cZ (Ht rfl))) (cQ (Ei:=[(49,_)]) rfl rfl (bQ (bZ 21 rfl rfl) bX) rfl rfl (dZ rfl (eQ (Ht rfl) rfl)) (cQ (Ei:=[(49,_)]) rfl rfl (bQ (bZ 21 rfl rfl) bX) rfl rfl (dZ rfl (eQ (Ht rfl) rfl)) (Y.D_newp (Ei:=[]) (fun bb=>box bb 60 [aH (decide ((Ac G i k).a < 0)),aN (Ac G i k).a.natAbs,aH (decide ((Ac G i k).b < 0)),aN (Ac G i k).b.natAbs,aN (du (Ac G i k))]) 25 rfl rfl rfl bX rfl rfl (by kernel_rfl) (eU (Ts:=[Is (.bool false),Is (.slice none 0 0),Is (.bool false),Is (.slice none 0 0),Is (.slice none 0 0)]) O_60 rfl (fun V=>aW zd (aW zd (aW zd (aW zd (aW zd (aG))))))) ?_)))
     refine Y.D_putN (Ei:=[(71,_)]) 24 rfl rfl rfl rfl rfl rfl (bQ (bZ 22 rfl rfl) bX) (fun bb=>mO Z_60 (Ht rfl) (Ht rfl) rfl (i:=0) rfl (aK rfl) rfl rfl) (Y.D_done aS rfl (by kernel_rfl) rfl (by simp [Y.okP]) rfl rfl (bU (bU (bU (bU (bU (bU (bU (bU (bU (bU (bU (bU (bU (bU (bU (bU (bU (bU (bU (bU (bU (bU (bU (bU (Y.F_newp (fun B9=>Y.F_putN (Y.F_nil ?_))))))))))))))))))))))))))))
     refine ra rfl (eW (cU ?_))
     haveI g8:aF (-(Ac G i k)) (L + 1 + 1 + 3 * (L + L + 1 + (L + L + 1) + 1) + 2):=fitNeg
     haveI g9:aF (-(Ac G i k) * gm G i k) (L + 1 + 1 + 3 * (L + L + 1 + (L + L + 1) + 1) + 2 + L + 1):=fitMul
     refine fW (m:=18) (dp 1 rfl (cZ (Ht rfl)) (dp 7 rfl (cZ (Ht rfl)) (dE 73 0 74 1 rfl (dB U_26 Z_25 (Ht rfl) (Ht rfl) rfl (i:=2) rfl (by rw [List.length_map]; omega) rfl) ?_)))
     refine dq 75 2 rfl (pS A_25 Z_25 (Ht rfl) (i:=2) rfl rfl (eZ (eX (d:=[]) zo))) (dp 9 rfl (eK A_60 Z_60 (Ht rfl) (i:=4) rfl rfl rfl) (dq 77 4 rfl (cJ Tryz.call168 Sq ⟨(Ht rfl),trivial⟩) (dp 0 rfl (cZ (Ht rfl)) (dp 2 rfl (cZ (Ht rfl)) (dE 79 6 80 7 rfl (gZ U_26 Z_25 (Ht rfl) (Ht rfl) rfl zo (by rw [Nat.mul_one,Nat.zero_add])) ?_)))))
     refine dq 81 8 rfl (gD A_25 Z_25 (Ht rfl) (j:=1) rfl zo) (dp 7 rfl (cZ (Ht rfl)) (dE 82 9 83 10 rfl (iG U_25 Z_60 (Ht rfl) (Ht rfl) rfl (j:=1) rfl zo zo zo) (dq 84 11 rfl (kP A_60 Z_60 (Ht rfl) (j:=1) rfl zo zo zo) (dE 78 5 85 12 rfl (cJ K_70 (lS (x:=-(Ac G i k)) (y:=gm G i k) (L:=L + 1 + 1 + 3 * (L + L + 1 + (L + L + 1) + 1) + 2) (M:=L) zo) ⟨(Ht rfl),(Ht rfl),trivial⟩) (dp 1 rfl (cZ (Ht rfl)) (dp 2 rfl (cZ (Ht rfl)) ?_))))))
     refine dE 87 14 88 15 rfl (dB U_26 Z_25 (Ht rfl) (Ht rfl) rfl (i:=2) rfl (by rw [List.length_map]; omega) rfl) ?_
     refine dq 89 16 rfl (pS A_25 Z_25 (Ht rfl) (i:=2) rfl rfl (eZ (eX (d:=[]) zo))) (fK aS rfl (by kernel_rfl) (zF (zF (zF (zF (aJ (aJ (aV (ro rfl (cJ Tryz.call197 (Sw (x:=V.getD k []) (f:=-(Ac G i k) * gm G i k) (y:=V.getD i []) (n:=n) (L:=M) (N:=M) (hfV.row k) g9 (hfV.row i) hM hM zo (hV.row hkn) (hV.row hi) zo) ⟨(Ht rfl),(Ht rfl),(Ht rfl),trivial⟩) ?_)))))))))
     refine ra rfl (eW ?_)
     exact lJ () trivial [0,1,2] ⟨⟨_,rfl,fun _ _ _ h=>h⟩,⟨_,rfl,fun _ _ _ h=>h⟩,⟨_,rfl,fun _ _ _ h=>h⟩,trivial⟩ (by decide) (zJ rfl (fV (fX rfl) (fun v V h=>by rw [hw]; exact .inr ⟨a65 (by rw [hV.row hkn]; omega),h⟩)))
  ·have hkn : k = n := by simp only [decide_eq_false_iff_not] at hc; omega
   have hK:crK G n i = n:=Jp zo zo (fun j h1 h2=>by rw [show decide (gm G i j = 0) = true from decide_eq_true (hz0 j h1 zo)]; rfl) (fun h=>by omega)
   have hw:Je G V n i = []:=by rw [Je,if_pos hze,hK,if_neg zo]
   refine gK rfl (ts (ro rfl (cX cW) (eW ?_)))
   exact lJ () trivial [0,1,2] ⟨⟨_,rfl,fun _ _ _ h=>h⟩,⟨_,rfl,fun _ _ _ h=>h⟩,⟨_,rfl,fun _ _ _ h=>h⟩,trivial⟩ (by decide) (zJ rfl (fV (fX rfl) (fun v V h=>by rw [hw]; exact .inl ⟨rfl,h⟩)))
end
end Go.Proofs.YtdlciihkiefckaaGreat
