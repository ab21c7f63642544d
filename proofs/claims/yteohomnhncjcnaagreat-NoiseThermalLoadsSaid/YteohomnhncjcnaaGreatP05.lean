/- What functions of the program compute, proved by walks over their code, and the plain mathematics of it; a part of the proof in the last text. -/
import Derived.Test.YteohomnhncjcnaaGreatP04
set_option linter.unusedVariables false
set_option linter.unusedSimpArgs false
set_option maxRecDepth 100000
set_option maxHeartbeats 4000000
namespace Go.Proofs.YteohomnhncjcnaaGreat
section
open Go Go.RowKit
theorem a2K {M:List (List Qi)} {n m G B:Nat} (hs:cI M n m) (hstg:∀ c,c ≤ n → bA (dC M c).1 G) (hG1:1 ≤ G) (hg:6 * G + 4 ≤ 17592186044415) (hnm:n ≤ m) (hm:m ≤ 1000):gG Tryz.prog 194 [Is (.slice (some ⟨B,0,none⟩) n n)] [oF B 29 51 5 (bP aI M)] (Unit) (fun _=>eS [NT .i64 (dC M n).2.1,aT .i64 (dC M n).2.2]) (fun _=>[oF B 29 51 5 (bP aI (dC M n).1)]) (fun _=>True):=by
 have hs1:=hs.1
 refine gG.intro Tryz.func194 rfl Tryz.ntmps194 rfl (fun cx Z=>(ts (ro rfl (cX (cV 0)) (ro rfl (cX (cV 0)) (eZ (ts (ro rfl (cX (cV 0)) (eZ (cU (ts (rm rfl (ro rfl (iD U_30 (Ht rfl)) (ro rfl (cZ (cV 0)) (eZ (eK (Jy 1 rfl (fun vs hvs=>?_)))))))))))))))))
 have hvs2:Hds vs n:=by have h:=hvs; rw [List.length_map,hs1] at h; exact h
 refine zN (fun (c : Nat) (sw : Nat) (vs : List Value) (A : List (List Qi)) => (c ≤ n ∧ sw ≤ c) ∧ dC M c = (A, sw, -1) ∧ Hds vs n) (fun (c : Nat) (sw : Nat) (vs : List Value) (A : List (List Qi)) => n - c) (fun (c : Nat) (sw : Nat) (vs : List Value) (A : List (List Qi)) => [(0, Is (.slice (some ⟨B, 0, none⟩) n n)), (4, NT .i64 sw), (12, NT .i64 n), (13, NT .i64 c)]) (fun (c : Nat) (sw : Nat) (vs : List Value) (A : List (List Qi)) => [Z, kM B 29 51 5 vs vs (bP aI A)]) 0 0 vs M ⟨⟨Nat.zero_le _, Nat.le_refl _⟩, rfl, hvs2⟩
  (zS rfl) (dE.refl _) (fun c sw vs A ⟨⟨hc,hsw⟩,hA,hvs⟩=>?_)
 refine ts (ro rfl (gZ (Ht rfl) (Ht rfl)) (eZ (cU (dX (Ht rfl) (fun hcn=>?_) (fun hcn=>?_)))))
 ·simp only [decide_eq_true_eq] at hcn
  have hvl:=hvs.len
  have hAs:cI A n m:=by have h:=rF hs hc; rw [hA] at h; exact h
  have hAf:bA A G:=by have h:=hstg c hc; rw [hA] at h; exact h
  have hAl:=hAs.1
  refine cY (cU (eK (ts (rm rfl (ra rfl (eZ (ts (rm rfl (ra rfl (eZ (cU (eK ?_))))))))))))
  refine bS (fun (p : Nat) => (c ≤ p ∧ p ≤ n) ∧ ∀ r, c ≤ r → r < p → gm A r c = Qi.zero) (fun (p : Nat) => n - p) (fun (p : Nat) => [(0, Is (.slice (some ⟨B, 0, none⟩) n n)), (4, NT .i64 sw), (5, NT .i64 c), (6, NT .i64 p), (12, NT .i64 n), (13, NT .i64 c)]) (fun (p : Nat) => [Z, kM B 29 51 5 vs vs (bP aI A)]) c ⟨⟨Nat.le_refl _, hc⟩, fun r h1 h2 => by omega⟩
   (zS rfl) (dE.refl _) (fun p ⟨⟨hcp,hpn⟩,hz⟩=>?_)
  haveI fp:aE (gm A p c) G:=hAf.get hG1 p c
  refine cU (ts (rm rfl (rm rfl (ro rfl (iD U_30 (Ht rfl)) (ro rfl (gZ (Ht rfl) (Ht rfl)) (rm rfl (fX rfl rfl (eU rfl rfl (Ht rfl) (fun h=>cZ (Ht rfl))) (fX rfl rfl (eU rfl rfl (Ht rfl) (fun h=>cZ (Ht rfl))) (fX rfl rfl (eU rfl rfl (Ht rfl) (fun h=>gQ U_30 Z_29 (fV rfl h) (fV rfl h) rfl (by first | omega | (simp at h; omega)) (by rw [Nat.mul_one,Nat.zero_add]))) ?_)))))))))
  refine fX rfl rfl (eU rfl rfl (Ht rfl) (fun h=>iC A_29 Z_29 (fV rfl h) (j:=1) rfl (by simp at h; omega))) ?_
  refine fX rfl rfl (eU rfl rfl (Ht rfl) (fun h=>cZ (Ht rfl))) (fX rfl rfl (eU rfl rfl (Ht rfl) (fun h=>kK U_29 Z_51 (fV rfl h) (fV rfl h) rfl (j:=1) rfl zo (by simp at h; omega) (by simp at h; rw [hAs.row h]; omega))) ?_)
  refine fX rfl rfl (eU rfl rfl (Ht rfl) (fun h=>nP A_51 Z_51 (fV rfl h) (j:=1) rfl zo (by simp at h; omega) (by simp at h; rw [hAs.row h]; omega))) ?_
  refine fX rfl rfl (eU rfl rfl (Ht rfl) (fun h=>bI cD (fV rfl h))) (fX rfl rfl (eU rfl rfl (Ht rfl) (fun h=>aP Hx Tryz.call27 (Kd (x:=gm A p c) (L:=G) zo) (fV rfl h) trivial)) (fX rfl rfl (eU rfl rfl (Ht rfl) (fun h=>dR (fV rfl h))) (ro rfl (fC (Ht rfl) (fun h=>(fV rfl h))) (eZ (dX (Ht rfl) (fun he=>?_) (fun he=>?_))))))
  ·have he2 : p < n ∧ gm A p c = Qi.zero := by simpa using he
   refine cY (eK (dQ (rm rfl (ro rfl (dW (Ht rfl) (cV 1) z6) (ra rfl (eZ (bC ?_)))))))
   refine fY (p + 1) ⟨⟨by omega, by omega⟩, fun r h1 h2 => by
     by_cases e:r = p
     ·rw [e]; exact he2.2
     ·exact hz r h1 zo⟩ zo (zS rfl) (dE.refl _)
  ·have hpv : pv A c n = p := a56 hcp hpn hz (fun h => by simp at he; exact he h)
   refine gW rfl (cU (ts (rm rfl (rm rfl (ro rfl (iD U_30 (Ht rfl)) (ro rfl (cT (Ht rfl) (Ht rfl)) (eZ (dX (Ht rfl) (fun hp=>?_) (fun hp=>?_)))))))))
   ·have hp2 : p = n := by simpa using hp
    have hend:=a0S hs1 hA (by rw [hpv]; exact hp2) hcn
    refine ts (rm rfl (rm rfl (ra rfl (ra rfl (eZ ?_)))))
    exact jT () trivial [0,1] ⟨⟨_,rfl,fun _ _ _ h=>h⟩,⟨_,rfl,(fun S w V h=>bF (by rw [hend]) S w V (Gc (by rw [List.length_map]; omega) S w V h))⟩,trivial⟩ (by decide) (a1Y rfl (fZ (eY rfl) (lO (by rw [hend]))) (fZ (eY rfl) (aS (by rw [hend]))))
   ·have hp2 : p < n := by simp at hp; omega
    have hpz:=(mO (M:=A) (c:=c) (n:=n) hc).2.2.2 (by rw [hpv]; exact hp2)
    rw [hpv] at hpz
    have hnx:=Xu hs1 hA hpv hp2
    refine cY (cU (Jx (fun (q:Nat) (us:List Value) (D:List (List Qi))=>(q = sw + (if p = c then 0 else 1) ∧ D = (if p = c then A else swp [] A p c)) ∧ Hds us n) (fun (q:Nat) (us:List Value) (D:List (List Qi))=>[(0,Is (.slice (some ⟨B,0,none⟩) n n)),(4,NT .i64 q),(5,NT .i64 c),(12,NT .i64 n),(13,NT .i64 c)]) (fun (q:Nat) (us:List Value) (D:List (List Qi))=>[Z,kM B 29 51 5 us us (bP aI D)]) ?_ (fun q us D ⟨⟨hq,hD⟩,hus⟩=>?_)))
    ·refine ts (rm rfl (rm rfl (ro rfl (fB (Ht rfl) (Ht rfl)) (eZ (dX (Ht rfl) (fun hpc => ?_) (fun hpc => ?_))))))
     ·have hpc2 : ¬ p = c := by simpa using hpc
      refine cU (Y.D_start (m:=14) [(13,1,kM B 29 51 5 (vs.set p (hd vs c)) vs (bP aI A))] (Y.D_step (Ei:=[(0,_)]) rfl rfl (bQ (bJ rfl rfl) bX) rfl rfl (by kernel_rfl) (dZ rfl (cZ (Ht rfl))) (Y.D_step (Ei:=[(6,_)]) rfl rfl (bQ (bJ rfl rfl) bX) rfl rfl (by kernel_rfl) (dZ rfl (cZ (Ht rfl))) (cQ (Ei:=[(0,_)]) rfl rfl (bQ (bJ rfl rfl) bX) rfl rfl (dZ rfl (cZ (Ht rfl))) (cQ (Ei:=[(5,_)]) rfl rfl (bQ (bJ rfl rfl) bX) rfl rfl (dZ rfl (cZ (Ht rfl))) ?_)))))
      refine Y.D_step (Ei:=[(0,_)]) rfl rfl (bQ (bJ rfl rfl) bX) rfl rfl (by kernel_rfl) (dZ rfl (cZ (Ht rfl))) (Y.D_step (Ei:=[(5,_)]) rfl rfl (bQ (bJ rfl rfl) bX) rfl rfl (by kernel_rfl) (dZ rfl (cZ (Ht rfl))) (Y.D_step (Ei:=[(48,_),(49,_)]) rfl rfl (bQ (bZ 4 rfl rfl) (bQ (bZ 5 rfl rfl) bX)) rfl rfl (by kernel_rfl) (dZ rfl (gQ U_30 Z_29 (Ht rfl) (Ht rfl) rfl zo (by rw [Nat.mul_one,Nat.zero_add]))) ?_))
      refine Y.D_step (Ei:=[(50,_)]) rfl rfl (bQ (bZ 6 rfl rfl) bX) rfl rfl (by kernel_rfl) (dZ rfl (iC A_29 Z_29 (Ht rfl) (j:=1) rfl zo)) (Y.D_step (Ei:=[(0,_)]) rfl rfl (bQ (bJ rfl rfl) bX) rfl rfl (by kernel_rfl) (dZ rfl (cZ (Ht rfl))) (Y.D_step (Ei:=[(6,_)]) rfl rfl (bQ (bJ rfl rfl) bX) rfl rfl (by kernel_rfl) (dZ rfl (cZ (Ht rfl))) (Y.D_step (Ei:=[(52,_),(53,_)]) rfl rfl (bQ (bZ 8 rfl rfl) (bQ (bZ 9 rfl rfl) bX)) rfl rfl (by kernel_rfl) (dZ rfl (gQ U_30 Z_29 (Ht rfl) (Ht rfl) rfl zo (by rw [Nat.mul_one,Nat.zero_add]))) ?_)))
      refine Y.D_step (Ei:=[(54,_)]) rfl rfl (bQ (bZ 10 rfl rfl) bX) rfl rfl (by kernel_rfl) (dZ rfl (iC A_29 Z_29 (Ht rfl) (j:=1) rfl zo)) (Y.D_step (Ei:=[(44,_),(45,_)]) rfl rfl (bQ (bZ 0 rfl rfl) (bQ (bZ 1 rfl rfl) bX)) rfl rfl (by kernel_rfl) (dZ rfl (gQ U_30 Z_29 (Ht rfl) (Ht rfl) rfl zo (by rw [Nat.mul_one,Nat.zero_add]))) ?_)
      refine Y.D_putI (Ei:=[(56,_),(51,_)]) 1 rfl rfl rfl (bQ (bZ 12 rfl rfl) (bQ (bZ 7 rfl rfl) bX)) (.head _) rfl (Qm Z_29 (Ht rfl) (Ht rfl) (hvs.pl c zo) (i:=p) (hs:=vs) zo) (Y.D_done aL rfl (by kernel_rfl) rfl (by simp [Y.okP]) rfl rfl (bU (bU (bU (bU (bU (bU (bU (bU (bU (bU (bU (bU (bU (Y.F_putI (Y.F_nil ?_))))))))))))))))
      refine ro rfl (gQ U_30 Z_29 (Ht rfl) (Ht rfl) rfl zo (by rw [Nat.mul_one,Nat.zero_add])) ?_
      refine Zw Z_29 (Ht rfl) (Ht rfl) (j:=1) rfl (hvs.pl p zo) (by rw [List.length_set]; omega) rfl ?_
      refine eZ (nM 1 rfl (Jb (hs:=swp Gg vs p c) (p:=p) (c:=c) zo zo zo) (dQ (rm rfl (ro rfl (dW (Ht rfl) (cV 1) z6) (ra rfl (eZ (bD (sw + 1,swp Gg vs p c,swp [] A p c) ⟨⟨by rw [if_neg hpc2],by rw [if_neg hpc2]⟩,hvs.swp hp2 hcn⟩ (zS rfl) (dE.refl _))))))))
     ·have hpc2 : p = c := by simpa using hpc
      refine cY (bD (sw,vs,A) ⟨⟨by rw [if_pos hpc2]; rfl,by rw [if_pos hpc2]⟩,hvs⟩ (zS rfl) (dE.refl _))
    ·have hul := hus.len
     rw [← hq,← hD] at hnx
     have hDs:cI D n m:=by rw [hD]; split; exact hAs; exact Ay hAs hp2 hcn
     have hDf:bA D G:=by rw [hD]; split; exact hAf; exact Ee hAf
     have hDl:=hDs.1
     have hDz : gm D c c ≠ Qi.zero := by
      rw [hD]; split
      ·rename_i e; rw [e] at hpz; exact hpz
      ·show gv (dF (swp [] A p c) c) c ≠ _
       rw [wS zo]; exact hpz
     refine ts (rm rfl (ro rfl (dW (Ht rfl) (cV 1) z6) (ra rfl (eZ (eK ?_)))))
     refine bS (fun (r : Nat) => c < r ∧ r ≤ n) (fun (r : Nat) => n - r) (fun (r : Nat) => [(0, Is (.slice (some ⟨B, 0, none⟩) n n)), (4, NT .i64 q), (5, NT .i64 c), (7, NT .i64 r), (12, NT .i64 n), (13, NT .i64 c)]) (fun (r : Nat) => [Z, kM B 29 51 5 us us (bP aI (redM D c r))]) (c + 1) ⟨Nat.lt_succ_self _, hcn⟩
      (zS rfl) (aU (fun _ _ _ h=>h) (aU (qH (congrArg _ Sj)) aY)) (fun r ⟨hcr,hrn⟩=>?_)
     refine cU (ts (rm rfl (rm rfl (ro rfl (iD U_30 (Ht rfl)) (ro rfl (gZ (Ht rfl) (Ht rfl)) (eZ (dX (Ht rfl) (fun hr=>?_) (fun hr=>?_))))))))
     ·simp only [decide_eq_true_eq] at hr
      obtain ⟨X,hX⟩:∃ X,X = redM D c r:=⟨_,rfl⟩
      have hXr:dF X r = dF D r:=by rw [hX]; exact Ap zo zo
      have hXc:dF X c = dF D c:=by rw [hX]; exact Ap zo zo
      have hXl:X.length = n:=by rw [hX,wI]; exact hDl
      have hXrl:(dF X r).length = m:=by rw [hXr]; exact hDs.row hr
      have hXcl:(dF X c).length = m:=by rw [hXc]; exact hDs.row hcn
      have hXrg:(X.getD r []).length = m:=hXrl
      have hXcg:(X.getD c []).length = m:=hXcl
      have hXfr:cB (dF X r) G:=by rw [hXr]; exact hDf.row r
      have hXfc:cB (dF X c) G:=by rw [hXc]; exact hDf.row c
      haveI g1:aE (gm X r c) G:=hXfr.get hG1 c
      haveI g2:aE (gm X c c) G:=hXfc.get hG1 c
      have hXz:gm X c c ≠ Qi.zero:=by show gv (dF X c) c ≠ _; rw [hXc]; exact hDz
      haveI g3:aE (gm X r c / gm X c c) (G + 3 * G + 2):=⟨g1.fit.div g2.fit hXz⟩
      have hend:=a2d (D:=D) (r:=r) (c:=c) zo hcr
      rw [← hX] at hend ⊢
      refine cY (cU (eK (cU (Y.D_start (m:=21) [] (cQ (Ei:=[(0,_)]) rfl rfl (bQ (bJ rfl rfl) bX) rfl rfl (dZ rfl (cZ (Ht rfl))) (cQ (Ei:=[(7,_)]) rfl rfl (bQ (bJ rfl rfl) bX) rfl rfl (dZ rfl (cZ (Ht rfl))) (cQ (Ei:=[(69,_),(70,_)]) rfl rfl (bQ (bZ 0 rfl rfl) (bQ (bZ 1 rfl rfl) bX)) rfl rfl (dZ rfl (gQ U_30 Z_29 (Ht rfl) (Ht rfl) rfl zo (by rw [Nat.mul_one,Nat.zero_add]))) ?_)))))))
      refine cQ (Ei:=[(71,_)]) rfl rfl (bQ (bZ 2 rfl rfl) bX) rfl rfl (dZ rfl (iC A_29 Z_29 (Ht rfl) (j:=1) rfl zo)) (cQ (Ei:=[(5,_)]) rfl rfl (bQ (bJ rfl rfl) bX) rfl rfl (dZ rfl (cZ (Ht rfl))) (cQ (Ei:=[(72,_),(73,_)]) rfl rfl (bQ (bZ 3 rfl rfl) (bQ (bZ 4 rfl rfl) bX)) rfl rfl (dZ rfl (kK U_29 Z_51 (Ht rfl) (Ht rfl) rfl (j:=1) rfl zo zo zo)) (cQ (Ei:=[(74,_)]) rfl rfl (bQ (bZ 5 rfl rfl) bX) rfl rfl (dZ rfl (nP A_51 Z_51 (Ht rfl) (j:=1) rfl zo zo zo)) ?_)))
      refine cQ (Ei:=[(75,_)]) rfl rfl (bQ (bZ 6 rfl rfl) bX) rfl rfl (dZ rfl (bI cD (Ht rfl))) (cQ (Ei:=[(0,_)]) rfl rfl (bQ (bJ rfl rfl) bX) rfl rfl (dZ rfl (cZ (Ht rfl))) (cQ (Ei:=[(5,_)]) rfl rfl (bQ (bJ rfl rfl) bX) rfl rfl (dZ rfl (cZ (Ht rfl))) (cQ (Ei:=[(77,_),(78,_)]) rfl rfl (bQ (bZ 8 rfl rfl) (bQ (bZ 9 rfl rfl) bX)) rfl rfl (dZ rfl (gQ U_30 Z_29 (Ht rfl) (Ht rfl) rfl zo (by rw [Nat.mul_one,Nat.zero_add]))) ?_)))
      refine cQ (Ei:=[(79,_)]) rfl rfl (bQ (bZ 10 rfl rfl) bX) rfl rfl (dZ rfl (iC A_29 Z_29 (Ht rfl) (j:=1) rfl zo)) (cQ (Ei:=[(5,_)]) rfl rfl (bQ (bJ rfl rfl) bX) rfl rfl (dZ rfl (cZ (Ht rfl))) (cQ (Ei:=[(80,_),(81,_)]) rfl rfl (bQ (bZ 11 rfl rfl) (bQ (bZ 12 rfl rfl) bX)) rfl rfl (dZ rfl (kK U_29 Z_51 (Ht rfl) (Ht rfl) rfl (j:=1) rfl zo zo zo)) (cQ (Ei:=[(82,_)]) rfl rfl (bQ (bZ 13 rfl rfl) bX) rfl rfl (dZ rfl (nP A_51 Z_51 (Ht rfl) (j:=1) rfl zo zo zo)) ?_)))
      refine cQ (Ei:=[(76,_),(83,_)]) rfl rfl (bQ (bZ 7 rfl rfl) (bQ (bZ 14 rfl rfl) bX)) rfl rfl (dZ rfl (aP nU K_40 (yH (x:=gm X r c) (y:=gm X c c) (L:=G) (M:=G) zo) (Ht rfl) ⟨(Ht rfl),trivial⟩)) (cQ (Ei:=[(84,_)]) rfl rfl (bQ (bZ 15 rfl rfl) bX) rfl rfl (dZ rfl (cZ (Ht rfl))) (cQ (Ei:=[(68,_)]) rfl rfl (bQ (bZ 16 rfl rfl) bX) rfl rfl (dZ rfl (dU (Ht rfl) rfl)) (cQ (Ei:=[(68,_)]) rfl rfl (bQ (bZ 16 rfl rfl) bX) rfl rfl (dZ rfl (dU (Ht rfl) rfl)) ?_)))
      refine Y.D_newp (Ei:=[]) (fun bb=>box bb 51 [aD (decide ((gm X r c / gm X c c).a < 0)),aH (gm X r c / gm X c c).a.natAbs,aD (decide ((gm X r c / gm X c c).b < 0)),aH (gm X r c / gm X c c).b.natAbs,aH (du (gm X r c / gm X c c))]) 20 rfl rfl rfl bX rfl rfl (by kernel_rfl) (eG (Ts:=[Is (.bool false),Is (.slice none 0 0),Is (.bool false),Is (.slice none 0 0),Is (.slice none 0 0)]) O_51 rfl (fun V=>aW zd (aW zd (aW zd (aW zd (aW zd (aG))))))) ?_
      refine Y.D_putN (Ei:=[(85,_)]) 19 rfl rfl rfl rfl rfl rfl (bQ (bZ 17 rfl rfl) bX) (fun bb=>kQ Z_51 (Ht rfl) (Ht rfl) rfl (i:=0) rfl (aK rfl) rfl rfl) (Y.D_done aL rfl (by kernel_rfl) rfl (by simp [Y.okP]) rfl rfl (bU (bU (bU (bU (bU (bU (bU (bU (bU (bU (bU (bU (bU (bU (bU (bU (bU (bU (bU (Y.F_newp (fun B8=>Y.F_putN (Y.F_nil ?_)))))))))))))))))))))))
      refine ra rfl (eZ (ts (rm rfl (ro rfl (dW (Ht rfl) (cV 1) z6) (ra rfl (eZ (eK ?_)))))))
      refine bS (fun (k : Nat) => c < k ∧ k ≤ m) (fun (k : Nat) => m - k) (fun (k : Nat) => [(0, Is (.slice (some ⟨B, 0, none⟩) n n)), (4, NT .i64 q), (5, NT .i64 c), (7, NT .i64 r), (8, cC B8 0), (10, NT .i64 k), (12, NT .i64 n), (13, NT .i64 c)]) (fun (k : Nat) => [Z, kM B 29 51 5 us us (bP aI (X.set r (mW (dF X r) (dF X c) c k))), box B8 51 [aD (decide ((gm X r c / gm X c c).a < 0)), aH (gm X r c / gm X c c).a.natAbs, aD (decide ((gm X r c / gm X c c).b < 0)), aH (gm X r c / gm X c c).b.natAbs, aH (du (gm X r c / gm X c c))]]) (c + 1) ⟨Nat.lt_succ_self _, by omega⟩
       (zS rfl) (aU (fun _ _ _ h=>h) (aU (qH (by rw [← Sk,a23 zo])) (aU (aB rfl) aY))) (fun k ⟨hck,hkm⟩=>?_)
      obtain ⟨Y,hY⟩:∃ Y,Y = (X.set r (mW (dF X r) (dF X c) c k)):=⟨_,rfl⟩
      have hYl:Y.length = n:=by rw [hY,List.length_set]; exact hXl
      have hYrl:(dF Y r).length = m:=by rw [hY,wO zo,Ar]; exact hXrl
      have hYcl:(dF Y c).length = m:=by rw [hY,qU zo]; exact hXcl
      have hYrg:(Y.getD r []).length = m:=hYrl
      have hYcg:(Y.getD c []).length = m:=hYcl
      rw [← hY]
      refine cU (ts (rm rfl (rm rfl (rm rfl (ro rfl (gQ U_30 Z_29 (Ht rfl) (Ht rfl) rfl zo (by rw [Nat.mul_one,Nat.zero_add])) ?_)))))
      refine ro rfl (iC A_29 Z_29 (Ht rfl) (j:=1) rfl zo) (ro rfl (a3X U_29 (Ht rfl) (j:=1) rfl zo zo) (ro rfl (gZ (Ht rfl) (Ht rfl)) (eZ (dX (Ht rfl) (fun hk=>?_) (fun hk=>?_)))))
      ·have hk2 : k < m := by simp only [decide_eq_true_eq] at hk; omega
       have e1:gm Y r k = gv (dF X r) k:=by rw [hY]; exact a7x zo zo hck
       have e2:gm Y c k = gv (dF X c) k:=by rw [hY]; exact a7w zo
       haveI y1:aE (gm Y r k) G:=by rw [e1]; exact hXfr.get hG1 k
       haveI y2:aE (gm Y c k) G:=by rw [e2]; exact hXfc.get hG1 k
       have hst:=a2c (X:=X) (r:=r) (c:=c) (k:=k) zo zo zo hck
       rw [← hY] at hst
       refine cY (cU (eK (fJ (m:=24) (dp 0 rfl (cZ (Ht rfl)) (dp 7 rfl (cZ (Ht rfl)) (cP 98 0 99 1 rfl (gQ U_30 Z_29 (Ht rfl) (Ht rfl) rfl zo (by rw [Nat.mul_one,Nat.zero_add])) ?_))))))
       refine dq 100 2 rfl (iC A_29 Z_29 (Ht rfl) (j:=1) rfl zo) (dp 10 rfl (cZ (Ht rfl)) (dp 0 rfl (cZ (Ht rfl)) (dp 7 rfl (cZ (Ht rfl)) (cP 103 5 104 6 rfl (gQ U_30 Z_29 (Ht rfl) (Ht rfl) rfl zo (by rw [Nat.mul_one,Nat.zero_add])) ?_))))
       refine dq 105 7 rfl (iC A_29 Z_29 (Ht rfl) (j:=1) rfl zo) (dp 10 rfl (cZ (Ht rfl)) (cP 106 8 107 9 rfl (kK U_29 Z_51 (Ht rfl) (Ht rfl) rfl (j:=1) rfl zo zo zo) (dq 108 10 rfl (nP A_51 Z_51 (Ht rfl) (j:=1) rfl zo zo zo) (dq 109 11 rfl (bI cD (Ht rfl)) (dp 8 rfl (eW A_51 Z_51 (Ht rfl) (i:=2) rfl rfl rfl) (dq 111 13 rfl (bI cD (Ht rfl)) (dp 0 rfl (cZ (Ht rfl)) (dp 5 rfl (cZ (Ht rfl)) (cP 113 15 114 16 rfl (gQ U_30 Z_29 (Ht rfl) (Ht rfl) rfl zo (by rw [Nat.mul_one,Nat.zero_add])) ?_)))))))))
       refine dq 115 17 rfl (iC A_29 Z_29 (Ht rfl) (j:=1) rfl zo) (dp 10 rfl (cZ (Ht rfl)) (cP 116 18 117 19 rfl (kK U_29 Z_51 (Ht rfl) (Ht rfl) rfl (j:=1) rfl zo zo zo) (dq 118 20 rfl (nP A_51 Z_51 (Ht rfl) (j:=1) rfl zo zo zo) (cP 112 14 119 21 rfl (aP dD K_45 (kF (x:=gm X r c / gm X c c) (y:=gm Y c k) (L:=G + 3 * G + 2) (M:=G) zo) (Ht rfl) ⟨(Ht rfl),trivial⟩) (cP 110 12 120 22 rfl (aP kJ K_44 (uD (x:=gm Y r k) (y:=gm X r c / gm X c c * gm Y c k) (L:=G) (M:=G + 3 * G + 2 + G + 1) zo) (Ht rfl) ⟨(Ht rfl),trivial⟩) ?_)))))
       refine fW aL rfl (by kernel_rfl) (zF (zF (zF (zF (zF (zF (aV (ro rfl (kK U_29 Z_51 (Ht rfl) (Ht rfl) rfl (j:=1) rfl zo zo zo) (a4G Z_51 (Ht rfl) (Ht rfl) (j:=1) rfl (El.ag rfl) (F:=aI) (z:=gm Y r k - gm X r c / gm X c c * gm Y c k) zo zo zo rfl (eZ (bC (dQ ?_))))))))))))
       refine rm rfl (ro rfl (dW (Ht rfl) (cV 1) z6) (ra rfl (eZ (fY (k + 1) ⟨by omega,hk2⟩ zo (zS rfl) (aU (fun _ _ _ h=>h) (aU (qH (congrArg _ hst)) (aU (aB rfl) aY)))))))
      ·have hk3 : k = m := by simp only [decide_eq_false_iff_not] at hk; omega
       subst hk3
       refine gW rfl (bC (dQ (rm rfl (ro rfl (dW (Ht rfl) (cV 1) z6) (ra rfl (eZ (bR [0,1] rfl (by decide) (fY (r + 1) ⟨by omega,hr⟩ zo (zS rfl) (aU (fun _ _ _ h=>h) (aU (qH (by rw [hY,← hend,hDs.row hr])) aY))))))))))
     ·simp only [decide_eq_false_iff_not] at hr
      obtain rfl:r = n:=Nat.le_antisymm hrn zo
      refine gW rfl (bC (dQ (ro rfl (dW (Ht rfl) (cV 1) z6) (rm rfl (eZ (fY (c + 1,q,us,redM D c r) ⟨⟨hcn,by show q ≤ c + 1; rw [hq]; split <;> omega⟩,hnx,hus⟩ (by dsimp only; omega) (zS rfl) (dE.refl _)))))))
 ·simp only [decide_eq_false_iff_not] at hcn
  obtain rfl:c = n:=Nat.le_antisymm hc zo
  have hvl:=hvs.len
  have hAs:cI A c m:=by have h:=rF hs hc; rw [hA] at h; exact h
  refine gW rfl (ts (rm rfl (ra rfl (ro rfl (cX cW) (eZ ?_)))))
  exact jT () trivial [0,1] ⟨⟨_,rfl,fun _ _ _ h=>h⟩,⟨_,rfl,(fun S w V h=>bF (by rw [hA]) S w V (Gc (by rw [List.length_map,hAs.1]; exact hvl) S w V h))⟩,trivial⟩ (by decide) (a1Y rfl (fZ (eY rfl) (lO (by rw [hA]))) (fZ (eY rfl) (aS (by rw [hA]))))
end
section
open Go Go.RowKit
abbrev Fk (M bs:List (List Qi)) (i:Nat):List Qi:=dF M i ++ bs.map fun b=>gv b i
def iJ (M bs:List (List Qi)) (n:Nat):List (List Qi):=tab n (Fk M bs)
theorem a35 {r:List Qi} {bs:List (List Qi)} {i j:Nat} (h:j < bs.length):(r ++ (bs.take j).map fun b=>gv b i) ++ [gv (bs.getD j []) i] = r ++ (bs.take (j + 1)).map fun b=>gv b i:=by
 rw [List.append_assoc,List.take_add_one,List.map_append]
 simp [List.getD,h]
theorem kC {M bs:List (List Qi)} {n m:Nat} (h:cI M n m):cI (iJ M bs n) n (m + bs.length):=by
 refine ⟨aN _ _,fun r hr=>?_⟩
 obtain ⟨i,hi,rfl⟩:=fH.1 hr
 rw [List.length_append,List.length_map,h.row hi]
theorem sS {M bs : List (List Qi)} {n L : Nat} (h : bA M L) (hb : bA bs L) (hL : 1 ≤ L) : bA (iJ M bs n) L := fun r hr x hx => by
 obtain ⟨i,hi,rfl⟩:=fH.1 hr
 rcases List.mem_append.1 hx with h1 | h1
 ·exact h.row i x h1
 ·obtain ⟨b, hb1, rfl⟩ := List.mem_map.1 h1
  exact cB.get (hb b hb1) hL i
theorem Xr {M:List (List Qi)} {n m:Nat} (h:cI M n m):iJ M [] n = M:=by
 have:iJ M [] n = tab n (dF M):=cE fun i _=>by simp [Fk]
 rw [this]; exact (Cf (h:=h.1)).symm
def qB (U : List (List Qi)) (x : List Qi) (n c : Nat) : Nat → Qi
 | 0=>gm U c n
 | k + 1=>qB U x n c k - gm U c (c + 1 + k) * gv x (c + 1 + k)
def pH (U : List (List Qi)) (n : Nat) : Nat → List Qi
 | 0=>tab n fun _=>Qi.zero
 | j + 1=>(pH U n j).set (n - (j + 1)) (qB U (pH U n j) n (n - (j + 1)) j / gm U (n - (j + 1)) (n - (j + 1)))
theorem tK (U : List (List Qi)) (n : Nat) : ∀ j, (pH U n j).length = n
 | 0=>aN _ _
 | j + 1=>by rw [pH,List.length_set,tK U n j]
def tZ (M:List (List Qi)) (b:List Qi) (n:Nat):List (List Qi) × Nat × Int:=dC (iJ M [b] n) n
def jX (M:List (List Qi)) (b:List Qi) (n:Nat):Int:=if 0 ≤ (tZ M b n).2.2 then 6 else 0
def jY (M:List (List Qi)) (b:List Qi) (n:Nat):List Qi:=pH (tZ M b n).1 n n
def Ww (G : Nat) : Nat → Nat
 | 0=>G
 | j + 1=>j * (Ww G j + G + 2) + 4 * G + 2
theorem Hj (G j:Nat):Ww G j ≤ Ww G (j + 1):=by
 cases j with
 | zero=>simp only [Ww]; omega
 | succ j =>
  have:Ww G (j + 1) + G + 2 ≤ (j + 1) * (Ww G (j + 1) + G + 2):=Nat.le_mul_of_pos_left _ zo
  rw [show Ww G (j + 1 + 1) = (j + 1) * (Ww G (j + 1) + G + 2) + 4 * G + 2 from rfl]
  omega
theorem Tc (G : Nat) : ∀ j, G ≤ Ww G j
 | 0=>Nat.le_refl _
 | j + 1=>Nat.le_trans (Tc G j) (Hj G j)
theorem Qf (G : Nat) : ∀ {i j : Nat}, i ≤ j → Ww G i ≤ Ww G j
 | i,0,h=>by rw [show i = 0 by omega]; exact Nat.le_refl _
 | i, j + 1, h => by
  by_cases e:i = j + 1
  ·rw [e]; exact Nat.le_refl _
  ·exact Nat.le_trans (Qf G (show i ≤ j by omega)) (Hj G j)
theorem sU {M : List (List Qi)} {n m : Nat} (hs : cI M n m) : ∀ {c : Nat}, c ≤ n → (dC M c).2.2 < 0 → ∀ i, i < c → gm (dC M c).1 i i ≠ Qi.zero
 | 0,_,_,i,hi=>by omega
 | c + 1, hc, hst, i, hi => by
  have sh:=rF hs (c:=c) zo
  obtain ⟨_,i2,i3,i4⟩:=mO (M:=(dC M c).1) (c:=c) (n:=M.length) (by rw [hs.1]; omega)
  simp only [dC] at hst ⊢
  split at hst
  ·rename_i h0; omega
  ·rename_i h0
   rw [if_neg h0]
   split at hst
   ·simp at hst; omega
   ·rename_i h1
    rw [if_neg h1]
    have ih:=sU hs (c:=c) zo zo
    have hl : ∀ X : List (List Qi), X.length = n → gm (redM X c M.length) i i = gm X i i := fun X hX => by
     show gv (dF (redM X c M.length) i) i = _
     rw [Ap zo zo]
    by_cases e:pv (dC M c).1 c M.length = c
    ·rw [if_pos e, hl _ sh.1]
     by_cases e2:i = c
     ·rw [e2]; have:=i4 (by have:=hs.1; omega); rw [e] at this; exact this
     ·exact ih i zo
    ·have hpl : pv (dC M c).1 c M.length < n := by rw [← hs.1]; omega
     rw [if_neg e,hl _ ((Ax _ _ _ _).trans sh.1)]
     by_cases e2:i = c
     ·rw [e2]
      show gv (dF (swp [] _ _ c) c) c ≠ _
      rw [wS (by rw [sh.1]; omega)]
      exact i4 (by have:=hs.1; omega)
     ·have : dF (swp [] (dC M c).1 (pv (dC M c).1 c M.length) c) i = dF (dC M c).1 i := by
       simp only [dF,swp,List.getD]
       rw [List.getElem?_set_ne (Ne.symm e2),List.getElem?_set_ne zo]
      show gv (dF (swp [] _ _ c) i) i ≠ _
      rw [this]; exact ih i zo
theorem Ed {U : List (List Qi)} {x : List Qi} {n c G X : Nat} (hU : bA U G) (hx : cB x X) (hG : 1 ≤ G) (hX : 1 ≤ X) : ∀ k, aE (qB U x n c k) (G + k * (G + X + 2))
 | 0=>(hU.get hG c n).le zo
 | k + 1 => by
  haveI f1:=Ed (n:=n) (c:=c) hU hx hG hX k
  haveI f2:=hU.get hG c (c + 1 + k)
  haveI f3:=hx.get hX (c + 1 + k)
  have:aE (qB U x n c (k + 1)) (G + k * (G + X + 2) + (G + X + 1) + 1):=by unfold qB; infer_instance
  exact this.le (by rw [Nat.add_mul]; omega)
theorem a5y {U:List (List Qi)} {x:List Qi} {n c G X j:Nat} (hU:bA U G) (hx:cB x X) (hG:1 ≤ G) (hX:1 ≤ X) (hz:gm U c c ≠ Qi.zero):aE (qB U x n c j / gm U c c) (j * (X + G + 2) + 4 * G + 2):=by
 have f1:=Ed (n:=n) (c:=c) hU hx hG hX j
 have f2:=hU.get hG c c
 have:aE (qB U x n c j / gm U c c) (G + j * (G + X + 2) + 3 * G + 2):=⟨f1.fit.div f2.fit hz⟩
 exact this.le (by rw [Nat.add_comm X G]; omega)
theorem a0d {U : List (List Qi)} {n G : Nat} (hU : bA U G) (hG : 1 ≤ G) (hz : ∀ i, i < n → gm U i i ≠ Qi.zero) : ∀ j, j ≤ n → cB (pH U n j) (Ww G j)
 | 0,_=>cB.tab fun _ _=>aE.zero hG
 | j + 1, hj => fun y hy => by
  have ih:=a0d hU hG hz j zo
  rcases List.mem_or_eq_of_mem_set hy with h1 | h1
  ·exact (ih y h1).le (Hj G j)
  ·rw [h1]; exact a5y hU ih hG (Nat.le_trans hG (Tc G j)) (hz _ zo)
theorem a28 {M:List (List Qi)} {b:List Qi} {n:Nat} (h:cI M n n):cI (tZ M b n).1 n (n + 1):=rF (kC h) (Nat.le_refl n)
theorem a27 {M:List (List Qi)} {b:List Qi} {n L:Nat} (h:cI M n n) (hM:bA M L) (hb:cB b L) (hL:1 ≤ L):bA (tZ M b n).1 (uU L n):=Fo (kC h) (sS hM (fun r hr=>by simp at hr; subst hr; exact hb) hL) hL (Nat.le_refl n)
def yL (n i:Nat):List Qi:=(tab n fun _=>Qi.zero).set i (Qi.ofInt 1)
def tS (n:Nat):List (List Qi):=tab n (yL n)
theorem pI (n:Nat):cI (tS n) n n:=⟨aN _ _,fun r hr=>by obtain ⟨i,_,rfl⟩:=fH.1 hr; rw [yL,List.length_set,aN]⟩
theorem kS:aE (Qi.ofInt 1) 1:=⟨Qi.Fit.int (L:=1) (by decide) (by decide)⟩
theorem Zj {n i L : Nat} (h : 1 ≤ L) : cB (yL n i) L := fun x hx => by
 rcases List.mem_or_eq_of_mem_set hx with h1 | h1
 ·obtain ⟨_,_,rfl⟩:=fH.1 h1; exact aE.zero h
 ·rw [h1]; exact kS.le h
theorem a3m {n L:Nat} (h:1 ≤ L):bA (tS n) L:=fun r hr=>by obtain ⟨i,_,rfl⟩:=fH.1 hr; exact Zj h
theorem Wn {M:List (List Qi)} {b:List Qi} {n:Nat} (h:¬ 0 ≤ (tZ M b n).2.2):(tZ M b n).2.2 < 0:=by omega
theorem Ef (F:Qi → Ty) (n:Nat):List.replicate n (F Qi.zero) = (tab n fun _=>Qi.zero).map F:=by rw [xW,Wi]
theorem a7i {n j:Nat} (h:(0:Int) ≤ (n:Int) - 1 - (j:Int)):j < n:=by omega
theorem a7j {n j:Nat} (h:(n:Int) - 1 - (j:Int) < 0):n ≤ j:=by omega
end
section
open Go Go.RowKit
theorem Xl  : bE Tryz.prog 174 [bL []] (aD true):=by
 refine bE.intro Tryz.func174 rfl Tryz.ntmps174 rfl (fun cx=>(ts (ro rfl (cX cW) (eZ (ts (rm rfl (ro rfl (cJ Tryz.call240 Fb ⟨(Ht rfl),trivial⟩) (rm rfl (ro rfl (dU (Ht rfl) rfl) (ro rfl (dU (Ht rfl) rfl) (ra rfl (ra rfl (eZ (ts (rm rfl (rm rfl (fX rfl rfl (eU rfl rfl (Ht rfl) (fun h=>cZ (Ht rfl))) (fX rfl rfl (eU rfl rfl (Ht rfl) (fun h=>cZ (Ht rfl))) (fX rfl rfl (eU rfl rfl (Ht rfl) (fun h=>dK U_30 (fV rfl h) aA)) (fX rfl rfl (eU rfl rfl (Ht rfl) (fun h=>cT (fV rfl h) (fV rfl h))) ?_))))))))))))))))))))
 refine ro rfl (fC (Ht rfl) (fun h=>(fV rfl h))) (ra rfl (eZ (fG rfl (fZ (eY rfl) ?_))))
 exact (dN (by simp))
theorem My {M:List (List Qi)} {n:Nat} (h:cI M n n) (h1:1 ≤ n) (hn:n ≤ 32):bE Tryz.prog 174 [bL M] (aD true):=by
 have hl:=h.1
 refine bE.intro Tryz.func174 rfl Tryz.ntmps174 rfl (fun cx=>(ts (ro rfl (cX cW) (eZ (ts (rm rfl (ro rfl (cJ Tryz.call240 (Bg h h1 hn hn) ⟨(Ht rfl),trivial⟩) (rm rfl (ro rfl (dU (Ht rfl) rfl) (ro rfl (dU (Ht rfl) rfl) (ra rfl (ra rfl (eZ (ts (rm rfl (rm rfl (fX rfl rfl (eU rfl rfl (Ht rfl) (fun h=>cZ (Ht rfl))) (fX rfl rfl (eU rfl rfl (Ht rfl) (fun h=>cZ (Ht rfl))) (fX rfl rfl (eU rfl rfl (Ht rfl) (fun h=>dK U_30 (fV rfl h) aA)) (fX rfl rfl (eU rfl rfl (Ht rfl) (fun h=>cT (fV rfl h) (fV rfl h))) ?_))))))))))))))))))))
 refine ro rfl (fC (Ht rfl) (fun h=>(fV rfl h))) (ra rfl (eZ (fG rfl (fZ (eY rfl) ?_))))
 exact (dN (by simp [hl]))
theorem Xm {M:List (List Qi)} {n:Nat} (h:cI M n n) (hn:n ≤ 32):bE Tryz.prog 174 [bL M] (aD true):=by
 by_cases e:n = 0
 ·subst e
  obtain rfl:=List.length_eq_zero_iff.1 h.1
  exact Xl
 ·exact My h zo hn
theorem Ii {M bs:List (List Qi)} {n m:Nat} (hM:cI M n m) (hb:∀ b,b ∈ bs → n ≤ b.length) (hn:n ≤ 1000) (hm:m ≤ 1000) (hbl:bs.length ≤ 1000):gG Tryz.prog 193 [bL M,bL bs] [] (Nat) (fun B=>Is (.slice (some ⟨B,0,none⟩) n n)) (fun B=>[oF B 29 51 5 (bP aI (iJ M bs n))]) (fun _=>True):=by
 have hMl:=hM.1
 refine gG.intro Tryz.func193 rfl Tryz.ntmps193 rfl (fun cx Z=>(ts (ro rfl (cX cW) (eZ (ts (rm rfl (ro rfl (dK U_30 (Ht rfl) aA) (rn rfl (eM (T:=Is (.slice none 0 0)) (i:=Tryz.t29) V_30 nI rfl rfl (Ht rfl) rfl (fun _=>rfl) trivial (by show 24 * _ ≤ _; omega) zo) fun B12=>(ra rfl (eZ (cU (ts (rm rfl (ro rfl (dK U_30 (Ht rfl) aA) (ro rfl (cZ (cV 0)) (eZ (eK (nM 1 rfl (tU (e:=51) (s:=5)) ?_))))))))))))))))))
 refine bS (fun (i : Nat) => i ≤ M.length) (fun (i : Nat) => M.length - i) (fun (i : Nat) => [(0, bL M), (1, bL bs), (5, Is (.slice (some ⟨B12, 0, none⟩) M.length M.length)), (13, bL M), (14, NT .i64 M.length), (15, NT .i64 i)]) (fun (i : Nat) => [Z, oF B12 29 51 5 (bP aI (jC (Fk M bs) [] M.length i))]) 0 (Nat.zero_le _)
  (zS rfl) (aU (fun _ _ _ h=>h) (aU (bF (by rw [← gR,lU]; exact mF aI M.length)) aY)) (fun i hi=>?_)
 refine ts (ro rfl (gZ (Ht rfl) (Ht rfl)) (eZ (cU (dX (Ht rfl) (fun hd0=>?_) (fun hd0=>?_)))))
 ·simp only [decide_eq_true_eq] at hd0
  have hrl:(dF M i).length = m:=hM.row zo
  have hrl2:(M.getD i []).length = m:=hrl
  refine nF 1 (i) rfl (kZ hd0) (fun v0=>(cY (cU (eK (ts (rm rfl (ro rfl (dJ U_30 Z_29 (Ht rfl) (Ht rfl) rfl (eQ (dY (d:=[]) hd0))) (ro rfl (dV A_29 Z_29 (Ht rfl)) (ra rfl (ra rfl (eZ (ts (rm rfl (rm rfl (rm rfl (hJ Tryz.call158 (Mp (l:=M.getD i []) zo) ⟨(Ht rfl),trivial⟩ rfl (fun v1 _=>(ro rfl (gQ U_30 Z_29 (Ht rfl) (Ht rfl) rfl zo (by rw [Nat.mul_one,Nat.zero_add])) ?_))))))))))))))))))
  refine sP Z_29 (Ht rfl) (Ht rfl) (by simp only [bP,List.length_map,eD]; omega) (j:=1) (l:=3) rfl rfl rfl ?_
  refine eZ (ts (rm rfl (ro rfl (dK U_30 (Ht rfl) aA) (ro rfl (cZ (cV 0)) (eZ (eK (bR [0,1,3] rfl (by decide) ?_)))))))
  refine gA (fun (j : Nat) (v : Value) => j ≤ bs.length) (fun (j : Nat) (v : Value) => bs.length - j) (fun (j : Nat) (v : Value) => [(0, bL M), (1, bL bs), (5, Is (.slice (some ⟨B12, 0, none⟩) M.length M.length)), (6, NT .i64 i), (13, bL M), (14, NT .i64 M.length), (15, NT .i64 i), (25, bL bs), (26, NT .i64 bs.length), (27, NT .i64 j)]) (fun (j : Nat) (v : Value) => [Z, Hw B12 29 51 5 (bP aI (jC (Fk M bs) [] M.length i)) i v, cL 51 5 v ((dF M i ++ (bs.take j).map fun b => gv b i).map aI)]) 0 v1 (Nat.zero_le _)
   (zS rfl) (aU (fun _ _ _ h=>h) (aU (fun _ _ _ h=>h) (aU (bO (by simp)) aY))) (fun j v hj=>?_)
  refine ts (ro rfl (gZ (Ht rfl) (Ht rfl)) (eZ (cU (dX (Ht rfl) (fun he=>?_) (fun he=>?_)))))
  ·simp only [decide_eq_true_eq] at he
   have hbj:i < (bs.getD j []).length:=by have h1:=hb (bs.getD j []) (by rw [Kx he]; exact List.getElem_mem _); omega
   refine cY (cU (eK (ts (ro rfl (dJ U_30 Z_29 (Ht rfl) (Ht rfl) rfl (eQ (dY (d:=[]) he))) (ro rfl (dV A_29 Z_29 (Ht rfl)) (ra rfl (eZ (Y.D_startA (m:=12) [] 11 2 rfl rfl (cQ (Ei:=[(5,_)]) rfl rfl (bQ (bJ rfl rfl) bX) rfl rfl (dZ rfl (cZ (Ht rfl))) (cQ (Ei:=[(6,_)]) rfl rfl (bQ (bJ rfl rfl) bX) rfl rfl (dZ rfl (cZ (Ht rfl))) (cQ (Ei:=[(5,_)]) rfl rfl (bQ (bJ rfl rfl) bX) rfl rfl (dZ rfl (cZ (Ht rfl))) ?_)))))))))))
   refine cQ (Ei:=[(6,_)]) rfl rfl (bQ (bJ rfl rfl) bX) rfl rfl (dZ rfl (cZ (Ht rfl))) (cQ (Ei:=[(33,_),(34,_)]) rfl rfl (bQ (bZ 2 rfl rfl) (bQ (bZ 3 rfl rfl) bX)) rfl rfl (dZ rfl (gQ U_30 Z_29 (Ht rfl) (Ht rfl) rfl zo (by rw [Nat.mul_one,Nat.zero_add]))) ?_)
   refine cQ (Ei:=[(35,_)]) rfl rfl (bQ (bZ 4 rfl rfl) bX) rfl rfl (dZ rfl (gI A_29 Z_29 (Ht rfl) (j:=1) rfl)) (cQ (Ei:=[(9,_)]) rfl rfl (bQ (bJ rfl rfl) bX) rfl rfl (dZ rfl (cZ (Ht rfl))) (cQ (Ei:=[(6,_)]) rfl rfl (bQ (bJ rfl rfl) bX) rfl rfl (dZ rfl (cZ (Ht rfl))) (cQ (Ei:=[(37,_),(38,_)]) rfl rfl (bQ (bZ 6 rfl rfl) (bQ (bZ 7 rfl rfl) bX)) rfl rfl (dZ rfl (dJ U_29 Z_51 (Ht rfl) (Ht rfl) rfl (eQ (dY (d:=Qi.zero) hbj)))) ?_)))
   refine cQ (Ei:=[(39,_)]) rfl rfl (bQ (bZ 8 rfl rfl) bX) rfl rfl (dZ rfl (dV A_51 Z_51 (Ht rfl))) (cQ (Ei:=[(40,_)]) rfl rfl (bQ (bZ 9 rfl rfl) bX) rfl rfl (dZ rfl (dB (xs:=[.tmp 40]) U_29 Z_51 O_51 (cG (Ht rfl) cK) rfl rfl rfl)) (Y.D_app (Ei:=[(36,_),(41,_)]) rfl rfl rfl rfl (bQ (bZ 5 rfl rfl) (bQ (bZ 10 rfl rfl) bX)) rfl (qW (inf:=Tryz.t51) nR lH rfl rfl rfl (Ht rfl) (Ht rfl) (by simp) (fun T hT=>by simp at hT; subst hT; exact El.ag rfl) (by show _ * 88 ≤ _; simp only [List.length_map,List.length_append,List.length_take,List.length_cons,List.length_nil]; omega) (by simp only [List.length_map,List.length_append,List.length_take,List.length_cons,List.length_nil]; omega)) ?_))
   refine Y.D_done aL rfl (by kernel_rfl) rfl (by simp [Y.okP]) rfl rfl (bU (bU (bU (bU (bU (bU (bU (bU (bU (bU (bU (Y.F_app (fun v2=>Y.F_nil ?_)))))))))))))
   refine ro rfl (gQ U_30 Z_29 (Ht rfl) (Ht rfl) rfl zo (by rw [Nat.mul_one,Nat.zero_add])) ?_
   refine sP Z_29 (Ht rfl) (Ht rfl) (by simp only [bP,List.length_map,eD]; omega) (j:=1) (l:=3) rfl rfl rfl ?_
   refine eZ (bC (dQ (ro rfl (dW (Ht rfl) (cV 1) z6) (rm rfl (eZ (bR [0,1,3] rfl (by decide) (fY (j + 1,v2) he (by dsimp only; omega) (zS rfl) (aU (fun _ _ _ h=>h) (aU (fun _ _ _ h=>h) (aU (bO ((rA aI _ (gv (bs.getD j []) i)).trans (congrArg _ (a35 he)))) aY))))))))))
  ·simp only [decide_eq_false_iff_not] at he
   obtain rfl:bs.length = j:=Nat.le_antisymm zo hj
   refine gW rfl (bC (dL 1 2 rfl rfl (by decide) (by simp only [bP,List.length_map,eD]; omega) ?_))
   refine dQ (ro rfl (dW (Ht rfl) (cV 1) z6) (rm rfl (eZ (bR [0,1] rfl (by decide) (fY (i + 1) hd0 zo (zS rfl) (aU (fun _ _ _ h=>h) (aU (bF (by rw [List.take_length,eE,← jJ (f:=Fk M bs)])) aY)))))))
 ·simp only [decide_eq_false_iff_not] at hd0
  obtain rfl:i = M.length:=Nat.le_antisymm hi zo
  subst hMl
  refine gW rfl (ts (rm rfl (ra rfl (eZ ?_))))
  exact jT B12 trivial [0,1] ⟨⟨_,rfl,fun _ _ _ h=>h⟩,⟨_,rfl,(bF (by rw [jI]; rfl))⟩,trivial⟩ (by decide) (wN rfl (eY rfl))
end
section
open Go Go.RowKit
abbrev ek (n k:Nat):List Qi:=(tS n).getD k []
theorem a0R {n k:Nat} (h:k < n):(ek n k).length = n:=(pI n).row h
theorem Rn {n k L:Nat} (h:1 ≤ L):cB (ek n k) L:=(a3m h).row k
def oM (M:List (List Qi)) (n:Nat):Int:=mC (fun k=>jX M (ek n k) n) n
def nN (M:List (List Qi)) (n:Nat):List (List Qi):=tab n fun r=>tab n fun j=>gv (jY M (ek n j) n) r
theorem rN {α:Type} {n i:Nat} {f:Nat → α} {d:α} (h:i < n):(tab n f).getD i d = f i:=by simp [List.getD,cH h]
def uX (M:List (List Qi)) (n k i:Nat):List (List Qi):=tab n fun r=>tab n fun j=>if j < k ∨ j = k ∧ r < i then gv (jY M (ek n j) n) r else gm M r j
theorem sZ (M:List (List Qi)) (n k i:Nat):cI (uX M n k i) n n:=cI.tab
theorem Yc {M:List (List Qi)} {n:Nat} (h:cI M n n):M = uX M n 0 0:=by
 rw [uX]
 conv=>lhs; rw [sB h]
 exact cE fun r _=>cE fun j _=>by rw [if_neg zo]
theorem a18 (M : List (List Qi)) (n k : Nat) : uX M n k n = uX M n (k + 1) 0 := cE fun r hr => cE fun j _ => by
 by_cases h:j < k ∨ j = k ∧ r < n
 ·rw [if_pos h,if_pos zo]
 ·rw [if_neg h,if_neg zo]
theorem a19 (M:List (List Qi)) (n:Nat):uX M n n 0 = nN M n:=cE fun r _=>cE fun j hj=>by rw [if_pos zo]
theorem Yb {M:List (List Qi)} {n k i:Nat} (hi:i < n) (hk:k < n):(uX M n k i).set i (((uX M n k i).getD i []).set k (gv (jY M (ek n k) n) i)) = uX M n k (i + 1):=by
 apply List.ext_getElem?
 intro r
 by_cases hr:r < n
 ·by_cases e : r = i
  ·subst e
   rw [List.getElem?_set_self (by rw [(sZ _ _ _ _).1]; exact hr),uX,uX,cH (f:=fun r=>tab n fun j=>if j < k ∨ j = k ∧ r < _ + 1 then gv (jY M (ek n j) n) r else gm M r j) hr]
   congr 1
   have:(tab n fun x=>tab n fun j=>if j < k ∨ j = k ∧ x < r then gv (jY M (ek n j) n) x else gm M x j).getD r [] = tab n fun j=>if j < k ∨ j = k ∧ r < r then gv (jY M (ek n j) n) r else gm M r j:=rN hr
   rw [this]
   apply List.ext_getElem?
   intro j
   by_cases hj:j < n
   ·by_cases e2 : j = k
    ·subst e2
     rw [List.getElem?_set_self (by rw [aN]; exact hj),cH hj,if_pos zo]
    ·rw [List.getElem?_set_ne (Ne.symm e2), cH hj, cH hj]
     by_cases e3:j < k
     ·rw [if_pos (.inl e3),if_pos (.inl e3)]
     ·rw [if_neg zo,if_neg zo]
   ·rw [List.getElem?_eq_none (by rw [List.length_set,aN]; omega),List.getElem?_eq_none (by rw [aN]; omega)]
  ·rw [List.getElem?_set_ne (Ne.symm e), uX, uX, cH hr, cH hr]
   congr 1
   refine cE fun j _=>?_
   by_cases e3:j < k ∨ j = k ∧ r < i
   ·rw [if_pos e3,if_pos zo]
   ·rw [if_neg e3,if_neg zo]
 ·rw [List.getElem?_eq_none (by rw [List.length_set,(sZ _ _ _ _).1]; omega),List.getElem?_eq_none (by rw [(sZ _ _ _ _).1]; omega)]
theorem Uz {M:List (List Qi)} {n k:Nat} (h:∀ i,i < k → jX M (ek n i) n = 0) (hk:k < n) (hx:jX M (ek n k) n ≠ 0):oM M n = jX M (ek n k) n:=Bq h hx hk
theorem Iy {M:List (List Qi)} {n:Nat} (h:∀ i,i < n → jX M (ek n i) n = 0):oM M n = 0:=lD h
theorem a04 {T : Ty} {s : Nat} : ∀ vs V, iF [T, Is (.slice none 0 0)] vs V → iF [T, lM s []] vs V
 | [_,_],_,⟨h1,h2,h3⟩=>⟨h1,iL _ _ h2,h3⟩
 | [],_,h=>h.elim
 | [_],_,h=>h.2.elim
 | _ :: _ :: _ :: _,_,h=>h.2.2.elim
theorem gG.arg {P : Program} {f : FuncId} {Ts Ts' : List Ty} {As : Hp} {γ : Type} {U : γ → Ty} {As' : γ → Hp} {Q : γ → Prop} (h : gG P f Ts As γ U As' Q) (i : ∀ vs V, iF Ts' vs V → iF Ts vs V) : gG P f Ts' As γ U As' Q :=
 fun cx Z vs V w h1 h2=>h cx Z vs V w h1 (i _ _ h2)
end
section
open Go Go.RowKit
section
variable {P:Program} {R:iW} {cx:Cx} {n:Nat} {k:List It} {E:dI} {H:Hp}
theorem Ew (i l off : Nat) {B : Nat} {BT : TypeId} {Us : List Ty} {v : Value} {A : SA} {T : Ty} (hB : H[i]? = some (box B BT Us)) (hU : Us[off]? = some (Is v)) (hL : H[l]? = some A) (hne : i ≠ l) (hT : ∀ S V, A.h S V V → T.p v V)
  (h:Tr P R cx n k E ((H.set l SA.emp).set i (box B BT (Us.set off T)))):Tr P R cx n k E H:=fun a w ⟨V,hi,hs⟩=>by
 obtain ⟨V',S,hle,hi',hA⟩:=hi.freeze hL
 have hT:=hT S V' hA
 refine h a w ⟨V',hi'.withHH ?_,hs.mono hle⟩
 obtain ⟨F,h1,h2⟩:=hi'.hp
 have hB':(H.set l SA.emp)[i]? = some (box B BT Us):=by rw [List.getElem?_set_ne (Ne.symm hne)]; exact hB
 have hil:=(List.getElem?_eq_some_iff.1 hB').1
 refine ⟨F,fun q A hq=>?_,fun q r b hq hr=>h2 q r b (by simpa using hq) (by simpa using hr)⟩
 by_cases c:i = q
 ·subst c
  rw [List.getElem?_set_self hil] at hq
  obtain rfl:=Option.some.inj hq
  obtain ⟨⟨k1,cs,k2,k3⟩,k4⟩:=h1 i _ hB'
  obtain ⟨u,u1,u2⟩:=k3.get hU
  obtain rfl:u = v:=u2
  have hset : cs.set off u = cs := by
   apply List.ext_getElem?
   intro j
   by_cases cj:off = j
   ·subst cj; rw [List.getElem?_set_self (List.getElem?_eq_some_iff.1 u1).1,u1]
   ·rw [List.getElem?_set_ne cj]
  refine ⟨⟨k1,cs,k2,?_⟩,k4⟩
  have:=k3.set off (v:=u) hT (k3.pl u (List.mem_of_getElem? u1))
  rwa [hset] at this
 ·rw [List.getElem?_set_ne c] at hq
  exact h1 q A hq
theorem a7A {B e l : Nat} {BT : TypeId} {F : Qi → Ty} {q : Value → Prop} {M : List (List Qi)} (hl : l = M.length) : ∀ S V, (jU q B BT e 5 (bP F M)).h S V V → (lM 1 (M.map fun r => lM 5 (r.map F))).p (.slice (some ⟨B, 0, none⟩) l l) V := fun S V h =>
 fL (s:=5) (M:=M) hl _ S V rfl h
end
def mR (p i:Nat):Nat:=if i < p then i else i + 1
abbrev pM (l:List Nat):Ty:=lM 1 (l.map (NT .i64))
def Fw (p n:Nat):List Nat:=tab n fun j=>mR p j + 1
def Xq (p i:Nat):Nat:=if i ≤ p then i else i - 1
theorem xC {p n:Nat} (h:p < n):Xq p n = n - 1:=by unfold Xq; split <;> omega
theorem Cb {p i n:Nat} (h:i < n - 1) (hp:p < n):mR p i < n:=by unfold mR; split <;> omega
theorem Vi {p n j:Nat} (h:j < n):(Fw p n)[j]? = some (mR p j + 1):=cH h
def yC (z:List Qi) (p m:Nat):List Qi:=tab m fun i=>gv z (mR p i)
def a7M (s:List (List Qi)) (p m:Nat):List (List Qi):=tab m fun i=>tab m fun j=>gm s (mR p i) (mR p j)
def Mc (s:List (List Qi)) (p:Nat) (f:Qi) (i j:Nat):Qi:=gm s (mR p i) (mR p j) + gm s (mR p i) p * (f * gm s p (mR p j))
def Ch (s:List (List Qi)) (p m:Nat) (f:Qi):List (List Qi):=tab m fun i=>tab m fun j=>Mc s p f i j
def jZ (s:List (List Qi)) (p:Nat) (g:Qi):Qi:=g / (Qi.ofInt 1 - gm s p p * g)
def rO (z : List Qi) (s : List (List Qi)) (port : Int) (g : Qi) : Int :=
 if ¬ (1 ≤ port ∧ port ≤ z.length) then 1 else if z.length = 1 then 4 else if Qi.ofInt 1 - gm s (port - 1).toNat (port - 1).toNat * g = Qi.zero then 6 else 0
def He (z:List Qi) (s:List (List Qi)) (port:Int) (g:Qi):List Qi:=dA (rO z s port g) (yC z (port - 1).toNat (z.length - 1))
def wU (z:List Qi) (s:List (List Qi)) (port:Int) (g:Qi):List (List Qi):=dA (rO z s port g) (Ch s (port - 1).toNat (z.length - 1) (jZ s (port - 1).toNat g))
theorem Md {z:List Qi} {s:List (List Qi)} {port:Int} {g:Qi} {e:Int} (h:rO z s port g = e) (he:e ≠ 0):∀ v V,(iT [] []).p v V → (iT (He z s port g) (wU z s port g)).p v V:=by
 rw [He,wU,dA,dA,h,if_neg he,if_neg he]; exact fun _ _ k=>k
theorem a5a (p:Nat):((p:Int) + 1 - 1).toNat = p:=by omega
theorem a2l {z:List Qi} {s:List (List Qi)} {p:Nat} {g:Qi} (h:rO z s ((p:Int) + 1) g = 0):∀ v V,(iT (yC z p (z.length - 1)) (Ch s p (z.length - 1) (jZ s p g))).p v V → (iT (He z s ((p:Int) + 1) g) (wU z s ((p:Int) + 1) g)).p v V:=by
 rw [He,wU,dA,dA,h,if_pos rfl,if_pos rfl,a5a]; exact fun _ _ k=>k
theorem a6Y {z:List Qi} {s:List (List Qi)} {port:Int} {g:Qi} (h:¬ (1 ≤ port ∧ port ≤ z.length)):rO z s port g = 1:=by rw [rO,if_pos h]
theorem a6Z {z:List Qi} {s:List (List Qi)} {port:Int} {g:Qi} (h:1 ≤ port ∧ port ≤ z.length) (h1:z.length = 1):rO z s port g = 4:=by rw [rO,if_neg (fun k=>k h),if_pos h1]
theorem a70 {z:List Qi} {s:List (List Qi)} {p:Nat} {g:Qi} (h:p < z.length) (h1:¬ z.length = 1):rO z s ((p:Int) + 1) g = if Qi.ofInt 1 - gm s p p * g = Qi.zero then 6 else 0:=by
 rw [rO,if_neg (fun k=>k zo),if_neg h1,a5a]
theorem Qc {s:List (List Qi)} {p L:Nat} {g:Qi} (hs:bA s L) (hg:aE g L) (hL:1 ≤ L) (hd:Qi.ofInt 1 - gm s p p * g ≠ Qi.zero):aE (jZ s p g) (7 * L + 11):=by
 haveI f0:=kS
 haveI f1:=hs.get hL p p
 haveI f2:=hg
 have f3:aE (Qi.ofInt 1 - gm s p p * g) (1 + (L + L + 1) + 1):=@fitSub _ _ _ _ f0 inferInstance
 have:aE (jZ s p g) (L + 3 * (1 + (L + L + 1) + 1) + 2):=⟨f2.fit.div f3.fit hd⟩
 exact this.le zo
end
section
open Go Go.RowKit
namespace Qi
def npow' (x : Qi) : Nat → Qi
 | 0=>Qi.ofInt 1
 | k + 1=>npow' x k * x
theorem one_mul2 (x:Qi):Qi.ofInt 1 * x = x:=ext' (by show ((1:Int):Rat) * x.re - 0 * x.im = x.re; grind) (by show ((1:Int):Rat) * x.im + 0 * x.re = x.im; grind)
theorem mul_one2 (x:Qi):x * Qi.ofInt 1 = x:=by rw [mul_comm',one_mul2]
end Qi
instance qiField:Lean.Grind.CommRing Qi where
 natCast:=⟨fun n=>Qi.ofInt n⟩
 ofNat n:=⟨Qi.ofInt n⟩
 nsmul:=⟨fun n x=>Qi.ofInt n * x⟩
 npow:=⟨Qi.npow'⟩
 add_zero:=Qi.add_zero'
 add_comm:=Qi.add_comm'
 add_assoc:=Qi.add_assoc'
 mul_assoc:=Qi.mul_assoc'
 mul_comm:=Qi.mul_comm'
 mul_one:=Qi.mul_one2
 one_mul:=Qi.one_mul2
 left_distrib:=Qi.mul_add'
 right_distrib:=Qi.add_mul'
 zero_mul:=Qi.zero_mul'
 mul_zero:=Qi.mul_zero'
 pow_zero _:=rfl
 pow_succ _ _:=rfl
 ofNat_succ n:=Qi.ext' (by show (((n + 1:Nat):Int):Rat) = ((n:Int):Rat) + ((1:Int):Rat); rw [Int.natCast_add,Rat.intCast_add]; rfl) (by show (0:Rat) = 0 + 0; grind)
 intCast:=⟨Qi.ofInt⟩
 zsmul:=⟨fun n x=>Qi.ofInt n * x⟩
 neg_add_cancel x:=Qi.ext' (by show -x.re + x.re = ((0:Int):Rat); grind) (by show -x.im + x.im = 0; grind)
 sub_eq_add_neg:=Qi.sub_def
 neg_zsmul i x:=Qi.ext' (by show ((-i:Int):Rat) * x.re - 0 * x.im = -((i:Rat) * x.re - 0 * x.im); rw [Rat.intCast_neg]; grind) (by show ((-i:Int):Rat) * x.im + 0 * x.re = -((i:Rat) * x.im + 0 * x.re); rw [Rat.intCast_neg]; grind)
 intCast_neg i:=Qi.ext' (Rat.intCast_neg i) (by show (0:Rat) = -0; grind)
theorem q0:Qi.zero = 0:=rfl
theorem q1:Qi.ofInt 1 = 1:=rfl
theorem pS {x:Qi} (h:x ≠ 0):x * Qi.inv x = 1:=by
 have hn:x.nrm ≠ 0:=fun e=>h (Qi.nrm_zero.1 e)
 have e:x.re * x.re + x.im * x.im = x.nrm:=rfl
 refine Qi.ext' ?_ ?_
 ·show x.re * (x.re / x.nrm) - x.im * (-x.im / x.nrm) = ((1 : Int) : Rat)
  grind
 ·show x.re * (-x.im / x.nrm) + x.im * (x.re / x.nrm) = 0
  grind
theorem sJ {x y:Qi} (h:y ≠ 0):x / y * y = x:=by
 rw [Qi.div_def]
 have:=pS h
 grind
theorem Kv {x y z:Qi} (h:y ≠ 0) (e:x = z * y):x / y = z:=by
 have h1:=sJ (x:=x) h
 have h2:=pS h
 grind
theorem jL {x y:Qi} (h:x * y = 0):x = 0 ∨ y = 0:=by
 by_cases e:x = 0
 ·exact .inl e
 ·right; have:=pS e; grind
end
section
open Go Go.RowKit
theorem pW (m:Nat) (f:Qi) (a b:Nat → Qi):aF m (fun k=>a k - f * b k) = aF m a - f * aF m b:=by
 induction m with
 | zero=>simp only [aF,q0]; grind
 | succ m ih=>simp only [aF,ih]; grind
theorem cF {m i:Nat} (hi:i < m) {f:Nat → Qi} (h:∀ k,k < m → k ≠ i → f k = 0):aF m f = f i:=by
 induction m with
 | zero=>omega
 | succ m ih =>
  by_cases e:i = m
  ·subst e
   have : aF i f = 0 := by
    rw [← q0,← Ce i]
    exact aC fun k hk=>h k zo zo
   simp only [aF,this]; grind
  ·have h1 := ih zo (fun k hk => h k zo)
   have h2:=h m zo zo
   simp only [aF,h1,h2]; grind
theorem a2f {m i c:Nat} (hi:i < m) (hc:c < m) (hic:i ≠ c) {f:Nat → Qi} (h:∀ k,k < m → k ≠ i → k ≠ c → f k = 0):aF m f = f i + f c:=by
 have e : aF m f = aF m fun k => (if k = i then f i else 0) + (if k = c then f c else 0) := aC fun k hk => by
  by_cases e1:k = i
  ·subst e1; rw [if_pos rfl,if_neg hic]; grind
  ·by_cases e2 : k = c
   ·subst e2; rw [if_neg e1,if_pos rfl]; grind
   ·rw [if_neg e1,if_neg e2,h k hk e1 e2]; grind
 rw [e,lP,cF hi (fun k _ hk=>if_neg hk),cF hc (fun k _ hk=>if_neg hk),if_pos rfl,if_pos rfl]
theorem gU {m:Nat} {f:Nat → Qi} (h:∀ k,k < m → f k = 0):aF m f = 0:=by
 rw [← q0,← Ce m]; exact aC h
def Ker (M:List (List Qi)) (n m:Nat) (x:Nat → Qi):Prop:=∀ i,i < n → aF m (fun k=>gm M i k * x k) = 0
def jD (rr rc:List Qi) (c k:Nat):List Qi:=tab rr.length fun j=>if c ≤ j ∧ j < k then gv rr j - gv rr c / gv rc c * gv rc j else gv rr j
def redJ (M:List (List Qi)) (c r:Nat):List (List Qi):=tab M.length fun i=>if i ≠ c ∧ i < r then jD (dF M i) (dF M c) c (dF M i).length else dF M i
def pP (M : List (List Qi)) : Nat → Option (List (List Qi))
 | 0=>some M
 | c + 1=>(pP M c).bind fun A=>if pv A c M.length = M.length then none else some (redJ (swp [] A (pv A c M.length) c) c M.length)
theorem wH (M:List (List Qi)) (c r:Nat):(redJ M c r).length = M.length:=aN _ _
theorem tD (rr rc:List Qi) (c k:Nat):(jD rr rc c k).length = rr.length:=aN _ _
theorem Ph {M:List (List Qi)} {c r i:Nat} (hi:i < M.length):dF (redJ M c r) i = if i ≠ c ∧ i < r then jD (dF M i) (dF M c) c (dF M i).length else dF M i:=by
 simp only [dF,redJ,List.getD]; rw [cH hi]; rfl
theorem a1Q {M:List (List Qi)} {n m c r:Nat} (h:cI M n m):cI (redJ M c r) n m:=by
 refine ⟨(wH _ _ _).trans h.1,fun x hx=>?_⟩
 obtain ⟨i,hi,rfl⟩:=fH.1 hx
 have hr:=h.row (i:=i) (by rw [← h.1]; exact hi)
 show (if i ≠ c ∧ i < r then jD (dF M i) (dF M c) c (dF M i).length else dF M i).length = m
 split
 ·rw [tD]; exact hr
 ·exact hr
theorem Dz {M:List (List Qi)} {n m c i j:Nat} (h:cI M n m) (hi:i < n) (hj:j < m):gm (redJ M c n) i j = if i ≠ c ∧ c ≤ j then gm M i j - gm M i c / gm M c c * gm M c j else gm M i j:=by
 have hr:(dF M i).length = m:=h.row hi
 show gv (dF (redJ M c n) i) j = _
 rw [Ph (by rw [h.1]; exact hi)]
 by_cases e:i = c
 ·rw [if_neg (fun k=>k.1 e),if_neg (fun k=>k.1 e)]
 ·rw [if_pos ⟨e, hi⟩, jD, gP zo]
  by_cases e2:c ≤ j
  ·rw [if_pos ⟨e2,by omega⟩,if_pos ⟨e,e2⟩]
  ·rw [if_neg (fun k=>e2 k.1),if_neg (fun k=>e2 k.2)]
theorem Su {M:List (List Qi)} {p c i:Nat} (hp:p < M.length) (hc:c < M.length):dF (swp [] M p c) i = dF M (if i = c then p else if i = p then c else i):=by
 simp only [dF,swp,List.getD]
 by_cases e:i = c
 ·subst e; rw [List.getElem?_set_self (by simpa using hc),if_pos rfl]; rfl
 ·rw [List.getElem?_set_ne (Ne.symm e), if_neg e]
  by_cases e2:i = p
  ·subst e2; rw [List.getElem?_set_self hp,if_pos rfl]; rfl
  ·rw [List.getElem?_set_ne (Ne.symm e2),if_neg e2]
theorem a3u {M:List (List Qi)} {n m p c:Nat} {x:Nat → Qi} (hl:M.length = n) (hp:p < n) (hc:c < n):Ker (swp [] M p c) n m x ↔ Ker M n m x:=by
 have key : ∀ i, gm (swp [] M p c) i = gm M (if i = c then p else if i = p then c else i) := fun i => by
  funext j; exact congrArg (fun r=>gv r j) (Su zo zo)
 constructor
 ·intro h i hi
  have h1:=h (if i = c then p else if i = p then c else i) (by split <;> (try split) <;> omega)
  rw [key] at h1
  have e : (if (if i = c then p else if i = p then c else i) = c then p else if (if i = c then p else if i = p then c else i) = p then c else (if i = c then p else if i = p then c else i)) = i := by
   by_cases e1:i = c
   ·subst e1; rw [if_pos rfl]
    by_cases e2:p = i
    ·rw [if_pos e2]; exact e2
    ·rw [if_neg e2,if_pos rfl]
   ·rw [if_neg e1]
    by_cases e2:i = p
    ·subst e2; rw [if_pos rfl,if_pos rfl]
    ·rw [if_neg e2,if_neg e1,if_neg e2]
  rw [e] at h1; exact h1
 ·intro h i hi
  rw [key]; exact h _ (by split <;> (try split) <;> omega)
theorem a3t {M:List (List Qi)} {n m c:Nat} {x:Nat → Qi} (hs:cI M n m) (hc:c < n) (hz:∀ j,j < c → gm M c j = 0):Ker (redJ M c n) n m x ↔ Ker M n m x:=by
 have key : ∀ i, i < n → i ≠ c → aF m (fun k => gm (redJ M c n) i k * x k) = aF m (fun k => gm M i k * x k) - gm M i c / gm M c c * aF m (fun k => gm M c k * x k) := fun i hi e => by
  rw [← pW]
  refine aC fun k hk=>?_
  rw [Dz hs hi hk]
  by_cases e2:c ≤ k
  ·rw [if_pos ⟨e,e2⟩]; grind
  ·rw [if_neg (fun h=>e2 h.2),hz k zo]; grind
 have keyc:aF m (fun k=>gm (redJ M c n) c k * x k) = aF m (fun k=>gm M c k * x k):=aC fun k hk=>by rw [Dz hs hc hk,if_neg (fun h=>h.1 rfl)]
 constructor
 ·intro h i hi
  have h0:=h c hc
  rw [keyc] at h0
  by_cases e:i = c
  ·rw [e]; exact h0
  ·have h1 := h i hi
   rw [key i hi e,h0] at h1
   grind
 ·intro h i hi
  have h0:=h c hc
  by_cases e:i = c
  ·rw [e,keyc]; exact h0
  ·rw [key i hi e,h0,h i hi]; grind
structure GJ (M A:List (List Qi)) (n m c:Nat):Prop where
 sh:cI A n m
 ker:∀ x,Ker A n m x ↔ Ker M n m x
 off:∀ j,j < c → ∀ i,i < n → i ≠ j → gm A i j = 0
 dg:∀ j,j < c → gm A j j ≠ 0
theorem GJ.next {M A:List (List Qi)} {n m c p:Nat} (h:GJ M A n m c) (hc:c < n) (hnm:n ≤ m) (hcp:c ≤ p) (hp:p < n) (hz:gm A p c ≠ 0):GJ M (redJ (swp [] A p c) c n) n m (c + 1):=by
 have hs:cI (swp [] A p c) n m:=Ay h.sh hp hc
 have hl:=h.sh.1
 have key : ∀ i, gm (swp [] A p c) i = gm A (if i = c then p else if i = p then c else i) := fun i => by
  funext j; exact congrArg (fun r=>gv r j) (Su zo zo)
 have hcc:gm (swp [] A p c) c c ≠ 0:=by rw [key,if_pos rfl]; exact hz
 have hoff : ∀ j, j < c → ∀ i, i < n → i ≠ j → gm (swp [] A p c) i j = 0 := fun j hj i hi hij => by
  rw [key]
  by_cases e1:i = c
  ·rw [if_pos e1]; exact h.off j hj p hp zo
  ·rw [if_neg e1]
   by_cases e2:i = p
   ·rw [if_pos e2]; exact h.off j hj c hc zo
   ·rw [if_neg e2]; exact h.off j hj i hi hij
 refine ⟨a1Q hs,fun x=>(a3t hs hc (fun j hj=>hoff j hj c hc zo)).trans ((a3u hl hp hc).trans (h.ker x)),fun j hj i hi hij=>?_,fun j hj=>?_⟩
 ·rw [Dz hs hi zo]
  by_cases e:j = c
  ·subst e
   rw [if_pos ⟨hij,Nat.le_refl _⟩]
   have:=sJ (x:=gm (swp [] A p j) i j) hcc
   grind
  ·rw [if_neg (fun k=>by omega)]; exact hoff j zo i hi hij
 ·rw [Dz hs zo zo]
  by_cases e:j = c
  ·subst e; rw [if_neg (fun k=>k.1 rfl)]; exact hcc
  ·rw [if_neg (fun k=>by omega),key,if_neg zo,if_neg zo]; exact h.dg j zo
theorem yY {M : List (List Qi)} {n m : Nat} (hs : cI M n m) (hnm : n ≤ m) : ∀ {c : Nat} {A : List (List Qi)}, c ≤ n → pP M c = some A → GJ M A n m c
 | 0, A, _, h => by
  obtain rfl:=Option.some.inj h
  exact ⟨hs,fun _=>Iff.rfl,fun j hj=>by omega,fun j hj=>by omega⟩
 | c + 1, A, hc, h => by
  simp only [pP] at h
  obtain ⟨B,h1,h2⟩:=Option.bind_eq_some_iff.1 h
  split at h2
  ·cases h2
  ·rename_i e
   obtain rfl:=Option.some.inj h2
   have ih:=yY hs hnm (c:=c) zo h1
   rw [hs.1] at e ⊢
   obtain ⟨_,i2,i3,i4⟩:=mO (M:=B) (c:=c) (n:=n) zo
   exact ih.next zo hnm i2 zo (i4 zo)
theorem Uu {M : List (List Qi)} : ∀ {n : Nat}, pP M n = none → ∃ c A, c < n ∧ pP M c = some A ∧ pv A c M.length = M.length
 | 0,h=>by cases h
 | c + 1, h => by
  cases e:pP M c with
  | none =>
   obtain ⟨d,A,h1,h2,h3⟩:=Uu e
   exact ⟨d,A,by omega,h2,h3⟩
  | some A =>
   refine ⟨c,A,by omega,e,?_⟩
   simp only [pP,e,Option.bind_some] at h
   by_cases e2:pv A c M.length = M.length
   ·exact e2
   ·rw [if_neg e2] at h; cases h
theorem a63 {M A : List (List Qi)} {n : Nat} (h : GJ M A n (n + 1) n) : Ker M n (n + 1) fun k => if k < n then gm A k n / gm A k k else -1 := (h.ker _).1 fun i hi => by
 have hd:=h.dg i hi
 have e : aF n (fun k => gm A i k * if k < n then gm A k n / gm A k k else -1) = gm A i n := by
  rw [cF hi (fun k hk hki=>by rw [h.off k hk i hi (Ne.symm hki)]; grind),if_pos hi]
  have:=sJ (x:=gm A i n) hd
  grind
 simp only [aF,e]
 rw [if_neg zo]; grind
theorem a3j {M A : List (List Qi)} {n : Nat} (h : GJ M A n (n + 1) n) {x : Nat → Qi} (hx : Ker M n (n + 1) x) (h0 : x n = 0) : ∀ k, k < n → x k = 0 := fun k hk => by
 have h1:=(h.ker x).2 hx k hk
 have e:aF n (fun j=>gm A k j * x j) = gm A k k * x k:=cF hk (fun j hj hjk=>by rw [h.off j hj k hk (Ne.symm hjk)]; grind)
 simp only [aF,e,h0] at h1
 rcases jL (x:=gm A k k) (y:=x k) (by grind) with h2 | h2
 ·exact absurd h2 (h.dg k hk)
 ·exact h2
theorem a3i {M A : List (List Qi)} {n m c : Nat} (h : GJ M A n m c) (hc : c < n) (hnm : n ≤ m) (hz : ∀ r, c ≤ r → r < n → gm A r c = 0) : Ker M n m fun k => if k < c then -(gm A k c / gm A k k) else if k = c then 1 else 0 := (h.ker _).1 fun i hi => by
 by_cases e:i < c
 ·rw [a2f (i := i) (c := c) zo zo zo (fun k hk h1 h2 => ?_)]
  ·rw [if_pos e, if_neg zo, if_pos rfl]
   have:=sJ (x:=gm A i c) (h.dg i e)
   grind
  ·by_cases e2 : k < c
   ·rw [h.off k e2 i hi (Ne.symm h1)]; grind
   ·rw [if_neg e2,if_neg h2]; grind
 ·refine gU fun k hk => ?_
  by_cases e2:k < c
  ·rw [h.off k e2 i hi zo]; grind
  ·rw [if_neg e2]
   by_cases e3:k = c
   ·rw [e3,hz i zo hi]; grind
   ·rw [if_neg e3]; grind
def gjX (M:List (List Qi)) (b:List Qi) (n:Nat):Option (List Qi):=(pP (iJ M [b] n) n).map fun A=>tab n fun i=>gm A i n / gm A i i
theorem a66 {l:List Qi} {z:Qi} {k:Nat} (h:k < l.length):gv (l ++ [z]) k = gv l k:=by
 simp only [gv,List.getD]; rw [List.getElem?_append_left h]
theorem a67 {l:List Qi} {z:Qi}:gv (l ++ [z]) l.length = z:=by
 simp [gv,List.getD]
theorem a7t {M:List (List Qi)} {b:List Qi} {n i:Nat} (h:cI M n n) (hi:i < n):(∀ k,k < n → gm (iJ M [b] n) i k = gm M i k) ∧ gm (iJ M [b] n) i n = gv b i:=by
 obtain ⟨r,hr⟩:∃ r,r = dF M i:=⟨_,rfl⟩
 have hl:r.length = n:=by rw [hr]; exact h.row hi
 have e : dF (iJ M [b] n) i = r ++ [gv b i] := by
  rw [hr]; simp only [dF,iJ,List.getD]; rw [cH hi]; rfl
 refine ⟨fun k hk=>?_,?_⟩
 ·show gv (dF (iJ M [b] n) i) k = gv (dF M i) k
  rw [e,← hr,a66 zo]
 ·show gv (dF (iJ M [b] n) i) n = gv b i
  rw [e,← hl,a67]
theorem Bo {M:List (List Qi)} {b:List Qi} {n i:Nat} (h:cI M n n) (hi:i < n) (x:Nat → Qi):aF (n + 1) (fun k=>gm (iJ M [b] n) i k * x k) = aF n (fun k=>gm M i k * x k) + gv b i * x n:=by
 obtain ⟨h1,h2⟩:=a7t (b:=b) h hi
 simp only [aF,h2]
 rw [aC (fun k hk=>by rw [h1 k hk])]
theorem Ny {M:List (List Qi)} {b X:List Qi} {n:Nat} (h:cI M n n) (hX:gjX M b n = some X):X.length = n ∧ (∀ i,i < n → aF n (fun k=>gm M i k * gv X k) = gv b i) ∧ ∀ y:Nat → Qi,(∀ i,i < n → aF n (fun k=>gm M i k * y k) = 0) → ∀ k,k < n → y k = 0:=by
 obtain ⟨A,hA,rfl⟩:=Option.map_eq_some_iff.1 hX
 have hg:=yY (kC (bs:=[b]) h) (Nat.le_succ n) (Nat.le_refl n) hA
 refine ⟨aN _ _,fun i hi=>?_,fun y hy k hk=>?_⟩
 ·have h1 := a63 hg i hi
  rw [Bo h hi] at h1
  have e:aF n (fun k=>gm M i k * if k < n then gm A k n / gm A k k else -1) = aF n (fun k=>gm M i k * gv (tab n fun i=>gm A i n / gm A i i) k):=aC fun k hk=>by rw [if_pos hk,gP hk]
  rw [e,if_neg zo] at h1
  grind
 ·have h1 := a3j hg (x := fun k => if k < n then y k else 0) (fun i hi => ?_) (if_neg zo) k hk
  ·simpa [hk] using h1
  ·rw [Bo h hi,if_neg zo,aC (fun k hk=>by rw [if_pos hk]),hy i hi]; grind
theorem a10 {M:List (List Qi)} {b:List Qi} {n:Nat} (h:cI M n n) (hX:gjX M b n = none):∃ y:Nat → Qi,(∀ i,i < n → aF n (fun k=>gm M i k * y k) = 0) ∧ ∃ k,k < n ∧ y k ≠ 0:=by
 have hcs:cI (iJ M [b] n) n (n + 1):=kC h
 obtain ⟨c,A,hc,hA,hp⟩:=Uu (Option.map_eq_none_iff.1 hX)
 have hg:=yY hcs (Nat.le_succ n) zo hA
 rw [hcs.1] at hp
 have hz:=(mO (M:=A) (c:=c) (n:=n) zo).1
 rw [hp] at hz
 have hk:=a3i hg hc (Nat.le_succ n) hz
 refine ⟨fun k=>if k < c then -(gm A k c / gm A k k) else if k = c then 1 else 0,fun i hi=>?_,c,hc,?_⟩
 ·have h1 := hk i hi
  rw [Bo h hi,if_neg zo,if_neg zo] at h1
  grind
 ·show (if c < c then -(gm A c c / gm A c c) else if c = c then (1 : Qi) else 0) ≠ 0
  rw [if_neg zo,if_pos rfl]
  intro e
  have:=congrArg Qi.re e
  exact absurd this (by decide)
theorem Ys {rr rc : List Qi} {L c k : Nat} (h1 : cB rr L) (h2 : cB rc L) (hL : 1 ≤ L) (hp : gv rc c ≠ Qi.zero) : cB (jD rr rc c k) (6 * L + 4) := cB.tab fun j _ => by
 split
 ·exact Up h1 h2 hL hp
 ·exact (h1.get hL j).le zo
theorem a1P {M : List (List Qi)} {L c r : Nat} (h : bA M L) (hL : 1 ≤ L) (hp : gm M c c ≠ Qi.zero) : bA (redJ M c r) (6 * L + 4) := fun x hx => by
 obtain ⟨i,hi,rfl⟩:=fH.1 hx
 show cB (if i ≠ c ∧ i < r then jD (dF M i) (dF M c) c (dF M i).length else dF M i) _
 split
 ·exact Ys (h.row i) (h.row c) hL hp
 ·exact (h.row i).le zo
theorem a12 {M : List (List Qi)} {n m L : Nat} (hs : cI M n m) (hnm : n ≤ m) (h : bA M L) (hL : 1 ≤ L) : ∀ {c : Nat} {A : List (List Qi)}, c ≤ n → pP M c = some A → bA A (uU L c)
 | 0,A,_,e=>by obtain rfl:=Option.some.inj e; exact h
 | c + 1, A, hc, e => by
  simp only [pP] at e
  obtain ⟨B,h1,h2⟩:=Option.bind_eq_some_iff.1 e
  split at h2
  ·cases h2
  ·rename_i e3
   obtain rfl:=Option.some.inj h2
   have ih:=a12 hs hnm h hL (c:=c) zo h1
   have hsB:=(yY hs hnm (c:=c) zo h1).sh
   rw [hs.1] at e3 ⊢
   obtain ⟨_,i2,i3,i4⟩:=mO (M:=B) (c:=c) (n:=n) zo
   refine a1P (Ee ih) (Nat.le_trans hL (Du L c)) ?_
   show gv (dF (swp [] _ _ c) c) c ≠ _
   rw [wS (by rw [hsB.1]; omega)]
   exact i4 zo
theorem Pg {rr rc:List Qi} {c:Nat}:rr = jD rr rc c c:=by
 unfold jD
 have:(tab rr.length fun j=>if c ≤ j ∧ j < c then gv rr j - gv rr c / gv rc c * gv rc j else gv rr j) = tab rr.length (gv rr):=cE fun j _=>by rw [if_neg zo]
 rw [this]; exact Ai rfl
theorem Ji {rr rc:List Qi} {c k:Nat} (hk:k < rr.length):gv (jD rr rc c k) k = gv rr k:=by
 rw [jD,gP hk,if_neg zo]
theorem Sh {rr rc:List Qi} {c k:Nat} (hk:k < rr.length) (h:c ≤ k):(jD rr rc c k).set k (gv (jD rr rc c k) k - gv rr c / gv rc c * gv rc k) = jD rr rc c (k + 1):=by
 rw [Ji hk]
 apply List.ext_getElem?
 intro j
 by_cases hj:j < rr.length
 ·by_cases e : j = k
  ·subst e
   rw [List.getElem?_set_self (by rw [tD]; exact hj),jD,cH hj,if_pos zo]
  ·rw [List.getElem?_set_ne (Ne.symm e), jD, jD, cH hj, cH hj]
   by_cases e2:c ≤ j ∧ j < k
   ·rw [if_pos e2,if_pos zo]
   ·rw [if_neg e2,if_neg zo]
 ·rw [List.getElem?_eq_none (by rw [List.length_set,tD]; omega),List.getElem?_eq_none (by rw [tD]; omega)]
theorem Si {M:List (List Qi)} {c:Nat}:M = redJ M c 0:=by
 unfold redJ
 have:(tab M.length fun i=>if i ≠ c ∧ i < 0 then jD (dF M i) (dF M c) c (dF M i).length else dF M i) = tab M.length (dF M):=cE fun i _=>by rw [if_neg zo]
 rw [this]; exact Cf (h:=rfl)
theorem Dy {M:List (List Qi)} {c r i:Nat} (hi:i < M.length) (h:¬ (i ≠ c ∧ i < r)):dF (redJ M c r) i = dF M i:=by rw [Ph hi,if_neg h]
theorem Yu {M : List (List Qi)} {c : Nat} : redJ M c c = redJ M c (c + 1) := cE fun i _ => by
 by_cases e:i ≠ c ∧ i < c
 ·rw [if_pos e,if_pos zo]
 ·rw [if_neg e,if_neg zo]
theorem Yt {M:List (List Qi)} {c r:Nat} (hr:r < M.length) (h:r ≠ c):(redJ M c r).set r (jD (dF M r) (dF M c) c (dF M r).length) = redJ M c (r + 1):=by
 apply List.ext_getElem?
 intro j
 by_cases hj:j < M.length
 ·by_cases e : j = r
  ·subst e
   rw [List.getElem?_set_self (by rw [wH]; exact hj),redJ,cH hj,if_pos ⟨h,by omega⟩]
  ·rw [List.getElem?_set_ne (Ne.symm e), redJ, redJ, cH hj, cH hj]
   by_cases e2:j ≠ c ∧ j < r
   ·rw [if_pos e2,if_pos ⟨e2.1,by omega⟩]
   ·rw [if_neg e2,if_neg (fun k=>e2 ⟨k.1,by omega⟩)]
 ·rw [List.getElem?_eq_none (by rw [List.length_set,wH]; omega),List.getElem?_eq_none (by rw [wH]; omega)]
theorem Zf {D : List (List Qi)} {r c : Nat} (hr : r < D.length) (h : r ≠ c) (hc : c < D.length) :
  (redJ D c r).set r (jD (dF (redJ D c r) r) (dF (redJ D c r) c) c (dF (redJ D c r) r).length) = redJ D c (r + 1):=by
 rw [Dy hr zo,Dy hc zo]; exact Yt hr h
theorem Ze {X : List (List Qi)} {r c k : Nat} (hr : r < X.length) (hne : r ≠ c) (hk : k < (dF X r).length) (hck : c ≤ k) :
  (X.set r (jD (dF X r) (dF X c) c k)).set r ((dF (X.set r (jD (dF X r) (dF X c) c k)) r).set k (gm (X.set r (jD (dF X r) (dF X c) c k)) r k - gm X r c / gm X c c * gm (X.set r (jD (dF X r) (dF X c) c k)) c k)) = X.set r (jD (dF X r) (dF X c) c (k + 1)):=by
 rw [Pr,wO hr]
 have e1:gm (X.set r (jD (dF X r) (dF X c) c k)) r k = gv (jD (dF X r) (dF X c) c k) k:=by show gv (dF (X.set r _) r) k = _; rw [wO hr]
 have e2:gm (X.set r (jD (dF X r) (dF X c) c k)) c k = gv (dF X c) k:=by show gv (dF (X.set r _) c) k = _; rw [qU hne]
 rw [e1,e2]
 exact congrArg _ (Sh hk hck)
theorem a5X {X:List (List Qi)} {r c k:Nat} (hr:r < X.length) (hk:k < (dF X r).length):gm (X.set r (jD (dF X r) (dF X c) c k)) r k = gv (dF X r) k:=by
 show gv (dF (X.set r _) r) k = _
 rw [wO hr,Ji hk]
theorem a5W {X:List (List Qi)} {r c k j:Nat} (h:r ≠ c):gm (X.set r (jD (dF X r) (dF X c) c k)) c j = gv (dF X c) j:=by
 show gv (dF (X.set r _) c) j = _
 rw [qU h]
theorem a3h {M A:List (List Qi)} {n c p:Nat} (hl:M.length = n) (hA:pP M c = some A) (hp:pv A c n = p) (hpn:p < n):pP M (c + 1) = some (redJ (swp [] A p c) c n):=by
 simp only [pP,hA,Option.bind_some,hl,hp]
 rw [if_neg zo]
theorem a11 {M A : List (List Qi)} {n c : Nat} (hl : M.length = n) (hA : pP M c = some A) (hp : pv A c n = n) : ∀ {d : Nat}, c < d → pP M d = none
 | 0,h=>by omega
 | d + 1, h => by
  simp only [pP]
  by_cases e:c = d
  ·rw [← e,hA,Option.bind_some,hl,if_pos hp]
  ·rw [a11 hl hA hp (d:=d) zo]; rfl
def gjL (M:List (List Qi)) (b:List Qi) (n:Nat):List Qi:=(gjX M b n).getD []
def gjE (M:List (List Qi)) (b:List Qi) (n:Nat):Int:=if (gjX M b n).isSome then 0 else 6
end
section
open Go Go.RowKit
def a6Q (a b:List (List Qi)) (x y i:Nat):List Qi:=tab (x + y) fun j=>if i < x then (if j < x then gm a i j else Qi.zero) else (if x ≤ j then gm b (i - x) (j - x) else Qi.zero)
def tF (a b:List (List Qi)) (x y:Nat):List (List Qi):=tab (x + y) (a6Q a b x y)
theorem wQ (a b:List (List Qi)) (x y:Nat):cI (tF a b x y) (x + y) (x + y):=⟨aN _ _,fun r hr=>by obtain ⟨i,_,rfl⟩:=fH.1 hr; exact aN _ _⟩
theorem iE {a b:List (List Qi)} {x y i j:Nat} (hi:i < x + y) (hj:j < x + y):gm (tF a b x y) i j = if i < x then (if j < x then gm a i j else Qi.zero) else (if x ≤ j then gm b (i - x) (j - x) else Qi.zero):=by
 have e:(tF a b x y).getD i [] = a6Q a b x y i:=by rw [tF,List.getD,cH hi]; rfl
 show gv ((tF a b x y).getD i []) j = _
 rw [e,a6Q,gP hj]
end
section
open Go Go.RowKit
abbrev pA (ps:List (Nat × Nat)) (k:Nat):Nat:=(ps.getD k (0,0)).1
abbrev pB (ps:List (Nat × Nat)) (k:Nat):Nat:=(ps.getD k (0,0)).2
def oC (val:Nat → Nat → Qi) (n m k i:Nat):List (List Qi):=tab n fun r=>tab m fun j=>if j < k ∨ j = k ∧ r < i then val r j else Qi.zero
theorem mB (val:Nat → Nat → Qi) (n m k i:Nat):cI (oC val n m k i) n m:=cI.tab
theorem xD (val:Nat → Nat → Qi) (n m:Nat):mI n m = oC val n m 0 0:=cE fun r _=>cE fun j _=>by rw [if_neg zo]
theorem zT (val : Nat → Nat → Qi) (n m k : Nat) : oC val n m k n = oC val n m (k + 1) 0 := cE fun r hr => cE fun j _ => by
 by_cases h:j < k ∨ j = k ∧ r < n
 ·rw [if_pos h,if_pos zo]
 ·rw [if_neg h,if_neg zo]
theorem zU (val:Nat → Nat → Qi) (n m:Nat):oC val n m m 0 = tab n fun r=>tab m fun j=>val r j:=cE fun r _=>cE fun j hj=>by rw [if_pos zo]
theorem sR {val:Nat → Nat → Qi} {n m k i:Nat} (hi:i < n) (hk:k < m):(oC val n m k i).set i (((oC val n m k i).getD i []).set k (val i k)) = oC val n m k (i + 1):=by
 apply List.ext_getElem?
 intro r
 by_cases hr:r < n
 ·by_cases e : r = i
  ·subst e
   rw [List.getElem?_set_self (by rw [(mB _ _ _ _ _).1]; exact hr),oC,oC,cH (f:=fun r=>tab m fun j=>if j < k ∨ j = k ∧ r < _ + 1 then val r j else Qi.zero) hr]
   congr 1
   have:(tab n fun x=>tab m fun j=>if j < k ∨ j = k ∧ x < r then val x j else Qi.zero).getD r [] = tab m fun j=>if j < k ∨ j = k ∧ r < r then val r j else Qi.zero:=rN hr
   rw [this]
   apply List.ext_getElem?
   intro j
   by_cases hj:j < m
   ·by_cases e2 : j = k
    ·subst e2
     rw [List.getElem?_set_self (by rw [aN]; exact hj),cH hj,if_pos zo]
    ·rw [List.getElem?_set_ne (Ne.symm e2), cH hj, cH hj]
     by_cases e3:j < k
     ·rw [if_pos (.inl e3),if_pos (.inl e3)]
     ·rw [if_neg zo,if_neg zo]
   ·rw [List.getElem?_eq_none (by rw [List.length_set,aN]; omega),List.getElem?_eq_none (by rw [aN]; omega)]
  ·rw [List.getElem?_set_ne (Ne.symm e), oC, oC, cH hr, cH hr]
   congr 1
   refine cE fun j _=>?_
   by_cases e3:j < k ∨ j = k ∧ r < i
   ·rw [if_pos e3,if_pos zo]
   ·rw [if_neg e3,if_neg zo]
 ·rw [List.getElem?_eq_none (by rw [List.length_set,(mB _ _ _ _ _).1]; omega),List.getElem?_eq_none (by rw [(mB _ _ _ _ _).1]; omega)]
end
section
open Go Go.RowKit
theorem uV {l:List Qi} {t k:Nat} {v:Qi} (ht:t < l.length):gv (l.set t v) k = if k = t then v else gv l k:=by
 simp only [gv,List.getD]
 by_cases e:k = t
 ·subst e; rw [if_pos rfl,List.getElem?_set_self ht]; rfl
 ·rw [if_neg e,List.getElem?_set_ne (Ne.symm e)]
end
section
open Go Go.RowKit
def zJ (A:List (List Qi)) (c i j:Nat):Qi:=if j < c ∧ j < i then 0 else gm A i j
def zK (F:Nat → Nat → Qi) (n m:Nat) (x:Nat → Qi):Prop:=∀ i,i < n → aF m (fun k=>F i k * x k) = 0
theorem Fu {F G:Nat → Nat → Qi} {n m:Nat} {x:Nat → Qi} (h:∀ i,i < n → ∀ j,j < m → F i j = G i j):zK F n m x ↔ zK G n m x:=by
 have e:∀ i,i < n → aF m (fun k=>F i k * x k) = aF m (fun k=>G i k * x k):=fun i hi=>aC fun k hk=>by rw [h i hi k hk]
 exact ⟨fun k i hi=>by rw [← e i hi]; exact k i hi,fun k i hi=>by rw [e i hi]; exact k i hi⟩
def Wp (p c i:Nat):Nat:=if i = c then p else if i = p then c else i
theorem Mb {p c i n:Nat} (hp:p < n) (hc:c < n) (hi:i < n):Wp p c i < n:=by unfold Wp; split <;> (try split) <;> omega
theorem Wq (p c i:Nat):Wp p c (Wp p c i) = i:=by
 unfold Wp
 by_cases e1:i = c
 ·subst e1
  rw [if_pos rfl]
  by_cases e2:p = i
  ·rw [if_pos e2]; exact e2
  ·rw [if_neg e2,if_pos rfl]
 ·rw [if_neg e1]
  by_cases e2:i = p
  ·subst e2; rw [if_pos rfl,if_pos rfl]
  ·rw [if_neg e2,if_neg e1,if_neg e2]
theorem Oh {F : Nat → Nat → Qi} {n m p c : Nat} {x : Nat → Qi} (hp : p < n) (hc : c < n) : zK (fun i => F (Wp p c i)) n m x ↔ zK F n m x :=
 ⟨fun h i hi=>by have:=h _ (Mb hp hc hi); simp only [Wq] at this; exact this,fun h i hi=>h _ (Mb hp hc hi)⟩
theorem a1e {F G:Nat → Nat → Qi} {n m c:Nat} {x f:Nat → Qi} (hc:c < n) (hG:∀ i,i < n → ∀ j,j < m → G i j = if c < i then F i j - f i * F c j else F i j):zK G n m x ↔ zK F n m x:=by
 have key : ∀ i, i < n → aF m (fun k => G i k * x k) = if c < i then aF m (fun k => F i k * x k) - f i * aF m (fun k => F c k * x k) else aF m (fun k => F i k * x k) := fun i hi => by
  by_cases e:c < i
  ·rw [if_pos e, ← pW]
   exact aC fun k hk=>by rw [hG i hi k hk,if_pos e]; grind
  ·rw [if_neg e]
   exact aC fun k hk=>by rw [hG i hi k hk,if_neg e]
 have kc:=key c hc
 rw [if_neg zo] at kc
 constructor
 ·intro h i hi
  have h0:=h c hc
  rw [kc] at h0
  have h1:=h i hi
  rw [key i hi] at h1
  by_cases e:c < i
  ·rw [if_pos e,h0] at h1; grind
  ·rw [if_neg e] at h1; exact h1
 ·intro h i hi
  rw [key i hi]
  by_cases e:c < i
  ·rw [if_pos e,h i hi,h c hc]; grind
  ·rw [if_neg e]; exact h i hi
theorem a4c {M:List (List Qi)} {n m c i j:Nat} (h:cI M n m) (hi:i < n) (hj:j < m):gm (redM M c n) i j = if c < i ∧ c < j then gm M i j - gm M i c / gm M c c * gm M c j else gm M i j:=by
 have hr:(dF M i).length = m:=h.row hi
 have e0 : dF (redM M c n) i = if c < i ∧ i < n then mW (dF M i) (dF M c) c (dF M i).length else dF M i := by
  simp only [dF,redM,List.getD]; rw [cH (by rw [h.1]; exact hi)]; rfl
 show gv (dF (redM M c n) i) j = _
 rw [e0]
 by_cases e:c < i
 ·rw [if_pos ⟨e, hi⟩, mW, gP zo]
  by_cases e2:c < j
  ·rw [if_pos ⟨e2,by omega⟩,if_pos ⟨e,e2⟩]
  ·rw [if_neg (fun k=>e2 k.1),if_neg (fun k=>e2 k.2)]
 ·rw [if_neg (fun k=>e k.1),if_neg (fun k=>e k.1)]
theorem a2Z {A:List (List Qi)} {p c i j:Nat} (hc:c < A.length) (hp:p < A.length) (hcp:c ≤ p):zJ (swp [] A p c) c i j = zJ A c (Wp p c i) j:=by
 have key:gm (swp [] A p c) i j = gm A (Wp p c i) j:=congrArg (fun r=>gv r j) (Su zo zo)
 unfold zJ
 rw [key]
 have e:(j < c ∧ j < i) ↔ (j < c ∧ j < Wp p c i):=by unfold Wp; split <;> (try split) <;> omega
 by_cases h:j < c ∧ j < i
 ·rw [if_pos h,if_pos (e.1 h)]
 ·rw [if_neg h,if_neg (fun k=>h (e.2 k))]
structure EL (M A:List (List Qi)) (n m c:Nat):Prop where
 sh:cI A n m
 ker:∀ x,zK (zJ A c) n m x ↔ zK (gm M) n m x
theorem EL.next {M A:List (List Qi)} {n m c p:Nat} (h:EL M A n m c) (hc:c < n) (hcm:c < m) (hcp:c ≤ p) (hp:p < n) (hz:gm A p c ≠ 0):EL M (redM (if p = c then A else swp [] A p c) c n) n m (c + 1):=by
 have hl:=h.sh.1
 obtain ⟨B,hB⟩:∃ B,B = if p = c then A else swp [] A p c:=⟨_,rfl⟩
 have hs : cI B n m := by
  rw [hB]; split
  ·exact h.sh
  ·exact Ay h.sh hp hc
 have hBk : ∀ x, zK (zJ B c) n m x ↔ zK (gm M) n m x := fun x => by
  rw [hB]; split
  ·exact h.ker x
  ·exact (Fu (G:=fun i=>zJ A c (Wp p c i)) fun i hi j hj=>a2Z zo zo hcp).trans ((Oh hp hc).trans (h.ker x))
 have hBz : gm B c c ≠ 0 := by
  rw [hB]; split
  ·rename_i e; rw [← e] at hz ⊢; exact hz
  ·show gv (dF (swp [] A p c) c) c ≠ 0
   rw [wS zo]; exact hz
 rw [← hB]
 refine ⟨Pj hs,fun x=>(a1e (f:=fun i=>gm B i c / gm B c c) hc fun i hi j hj=>?_).trans (hBk x)⟩
 have hd:=sJ (x:=gm B i c) hBz
 unfold zJ
 rw [a4c hs hi hj]
 by_cases e:c < i
 ·rw [if_pos e]
  by_cases e1:j < c
  ·rw [if_pos zo,if_pos zo,if_pos zo]; grind
  ·by_cases e2 : j = c
   ·subst e2
    rw [if_pos zo,if_neg zo,if_neg zo]; grind
   ·rw [if_neg zo,if_pos zo,if_neg zo,if_neg zo]
 ·rw [if_neg e, if_neg (show ¬ (c < i ∧ c < j) from fun k => e k.1)]
  by_cases e1:j < i
  ·rw [if_pos (show j < c + 1 ∧ j < i by omega),if_pos (show j < c ∧ j < i by omega)]
  ·rw [if_neg (show ¬ (j < c + 1 ∧ j < i) by omega),if_neg (show ¬ (j < c ∧ j < i) by omega)]
theorem Ku {M : List (List Qi)} {n m : Nat} (hs : cI M n m) (hnm : n ≤ m) : ∀ {c : Nat}, c ≤ n → (dC M c).2.2 < 0 → EL M (dC M c).1 n m c
 | 0,_,_=>⟨hs,fun x=>Fu fun i _ j _=>by unfold zJ; rw [if_neg zo]; rfl⟩
 | c + 1, hc, h => by
  obtain ⟨i1,i2,i3,i4⟩:=mO (M:=(dC M c).1) (c:=c) (n:=M.length) (by rw [hs.1]; omega)
  simp only [dC] at h ⊢
  by_cases e:0 ≤ (dC M c).2.2
  ·rw [if_pos e] at h; omega
  ·rw [if_neg e] at h ⊢
   have ih:=Ku hs hnm (c:=c) zo zo
   by_cases e2:pv (dC M c).1 c M.length = M.length
   ·rw [if_pos e2] at h; simp only at h; omega
   ·rw [if_neg e2]
    rw [hs.1] at i3 i4 e2 ⊢
    exact ih.next zo zo (by rw [hs.1] at i2; exact i2) zo (i4 zo)
theorem Iq {M : List (List Qi)} : ∀ {n : Nat}, 0 ≤ (dC M n).2.2 → ∃ c, c < n ∧ (dC M c).2.2 < 0 ∧ pv (dC M c).1 c M.length = M.length
 | 0,h=>absurd h (by show ¬ (0:Int) ≤ -1; omega)
 | c + 1, h => by
  by_cases e:0 ≤ (dC M c).2.2
  ·obtain ⟨d, h1, h2⟩ := Iq e
   exact ⟨d,by omega,h2⟩
  ·simp only [dC] at h
   rw [if_neg e] at h
   by_cases e2:pv (dC M c).1 c M.length = M.length
   ·exact ⟨c,by omega,by omega,e2⟩
   ·rw [if_neg e2] at h; simp only at h; omega
theorem zH {U : List (List Qi)} {x y : List Qi} {n c : Nat} : ∀ {K : Nat}, (∀ k, k < K → gv x (c + 1 + k) = gv y (c + 1 + k)) → qB U x n c K = qB U y n c K
 | 0,_=>rfl
 | K + 1,h=>by rw [qB,qB,zH (fun k hk=>h k zo),h K zo]
theorem Px (U : List (List Qi)) (x : List Qi) (n c : Nat) : ∀ K, qB U x n c K = gm U c n - aF K (fun k => gm U c (c + 1 + k) * gv x (c + 1 + k))
 | 0=>by simp only [qB,aF,q0]; grind
 | K + 1=>by simp only [qB,aF,Px U x n c K]; grind
theorem a0c {U : List (List Qi)} {n : Nat} : ∀ {j : Nat}, j ≤ n → ∀ c, n - j ≤ c → c < n → gv (pH U n j) c = qB U (pH U n j) n c (n - 1 - c) / gm U c c
 | 0,_,c,h1,h2=>by omega
 | j + 1, hj, c, h1, h2 => by
  have hl:=tK U n j
  rw [pH]
  by_cases e:c = n - (j + 1)
  ·subst e
   rw [uV zo,if_pos rfl,show n - 1 - (n - (j + 1)) = j by omega]
   rw [zH (x:=(pH U n j).set _ _) (y:=pH U n j) fun k hk=>by rw [uV zo,if_neg zo]]
  ·rw [uV zo, if_neg e, a0c (j := j) zo c zo h2]
   rw [zH (x:=(pH U n j).set _ _) (y:=pH U n j) fun k hk=>by rw [uV zo,if_neg zo]]
theorem tG (a : Nat) (f : Nat → Qi) : ∀ b, aF (a + b) f = aF a f + aF b fun k => f (a + k)
 | 0=>by simp only [aF,q0,Nat.add_zero]; grind
 | b + 1=>by rw [← Nat.add_assoc]; simp only [aF,tG a f b]; grind
theorem Wt {U:List (List Qi)} {n i:Nat} (hi:i < n) (y:Nat → Qi):aF n (fun k=>zJ U n i k * y k) = gm U i i * y i + aF (n - 1 - i) fun k=>gm U i (i + 1 + k) * y (i + 1 + k):=by
 have e:n = i + 1 + (n - 1 - i):=by omega
 have h1:aF i (fun k=>zJ U n i k * y k) = 0:=gU fun k hk=>by unfold zJ; rw [if_pos zo]; grind
 have h2:zJ U n i i = gm U i i:=by unfold zJ; rw [if_neg zo]
 have h3:aF (n - 1 - i) (fun k=>zJ U n i (i + 1 + k) * y (i + 1 + k)) = aF (n - 1 - i) fun k=>gm U i (i + 1 + k) * y (i + 1 + k):=aC fun k hk=>by unfold zJ; rw [if_neg zo]
 have h4:=tG (i + 1) (fun k=>zJ U n i k * y k) (n - 1 - i)
 rw [← e] at h4
 rw [h4,h3]
 simp only [aF,h1,h2]; grind
theorem Wr {U:List (List Qi)} {n i:Nat} (hd:∀ j,j < n → gm U j j ≠ 0) (hi:i < n):aF n (fun k=>zJ U n i k * gv (pH U n n) k) = gm U i n:=by
 rw [Wt hi,a0c (Nat.le_refl n) i zo hi,Px]
 have:=sJ (x:=gm U i n - aF (n - 1 - i) (fun k=>gm U i (i + 1 + k) * gv (pH U n n) (i + 1 + k))) (hd i hi)
 grind
theorem Qb {U : List (List Qi)} {n : Nat} (hd : ∀ j, j < n → gm U j j ≠ 0) {y : Nat → Qi} (h : ∀ i, i < n → aF n (fun k => zJ U n i k * y k) = 0) : ∀ t k, n - t ≤ k → k < n → y k = 0
 | 0,k,h1,h2=>by omega
 | t + 1, k, h1, h2 => by
  have h3:=h k h2
  rw [Wt h2,gU (fun j hj=>by rw [Qb hd h t (k + 1 + j) zo zo]; grind)] at h3
  rcases jL (x:=gm U k k) (y:=y k) (by grind) with h4 | h4
  ·exact absurd h4 (hd k h2)
  ·exact h4
theorem nE {M:List (List Qi)} {b:List Qi} {n:Nat} (h:cI M n n) (hE:jX M b n = 0):(∀ i,i < n → aF n (fun k=>gm M i k * gv (jY M b n) k) = gv b i) ∧ ∀ y:Nat → Qi,(∀ i,i < n → aF n (fun k=>gm M i k * y k) = 0) → ∀ k,k < n → y k = 0:=by
 have hcs:cI (iJ M [b] n) n (n + 1):=kC h
 have hst : (tZ M b n).2.2 < 0 := by
  unfold jX at hE
  by_cases e:0 ≤ (tZ M b n).2.2
  ·rw [if_pos e] at hE; omega
  ·omega
 have hg:=Ku hcs (Nat.le_succ n) (Nat.le_refl n) hst
 have hd:=sU hcs (Nat.le_refl n) hst
 obtain ⟨U,hU⟩:∃ U,U = (tZ M b n).1:=⟨_,rfl⟩
 have hX:jY M b n = pH U n n:=by rw [hU]; rfl
 have hU2:(dC (iJ M [b] n) n).1 = U:=hU.symm
 rw [hU2] at hg hd
 rw [hX]
 refine ⟨fun i hi=>?_,fun y hy k hk=>?_⟩
 ·have h1 := (hg.ker fun k => if k < n then gv (pH U n n) k else -1).1 (fun i hi => by
   simp only [aF]
   rw [aC (g:=fun k=>zJ U n i k * gv (pH U n n) k) (fun k hk=>by rw [if_pos hk]),Wr hd hi,if_neg zo,show zJ U n i n = gm U i n by unfold zJ; rw [if_neg zo]]
   grind) i hi
  rw [Bo h hi,aC (g:=fun k=>gm M i k * gv (pH U n n) k) (fun k hk=>by rw [if_pos hk]),if_neg zo] at h1
  grind
 ·have h1 := (hg.ker fun k => if k < n then y k else 0).2 (fun i hi => by
   rw [Bo h hi,aC (g:=fun k=>gm M i k * y k) (fun k hk=>by rw [if_pos hk]),if_neg zo,hy i hi]; grind)
  refine Qb (y:=y) hd (fun i hi=>?_) n k zo hk
  have h2:=h1 i hi
  simp only [aF] at h2
  rw [aC (g:=fun k=>zJ U n i k * y k) (fun k hk=>by rw [if_pos hk]),if_neg zo] at h2
  grind
theorem Gx {M:List (List Qi)} {b:List Qi} {n:Nat} (h:cI M n n) (hE:jX M b n ≠ 0):∃ y:Nat → Qi,(∀ i,i < n → aF n (fun k=>gm M i k * y k) = 0) ∧ ∃ k,k < n ∧ y k ≠ 0:=by
 have hcs:cI (iJ M [b] n) n (n + 1):=kC h
 have hst : 0 ≤ (tZ M b n).2.2 := by
  unfold jX at hE
  by_cases e:0 ≤ (tZ M b n).2.2
  ·exact e
  ·rw [if_neg e] at hE; exact absurd rfl hE
 obtain ⟨c,hc,hA,hp⟩:=Iq hst
 have hg:=Ku hcs (Nat.le_succ n) zo hA
 have hd:=sU hcs zo hA
 obtain ⟨U,hU⟩:∃ U,U = (dC (iJ M [b] n) c).1:=⟨_,rfl⟩
 rw [← hU] at hg hd hp
 rw [hcs.1] at hp
 have hz:=(mO (M:=U) (c:=c) (n:=n) zo).1
 rw [hp] at hz
 have key := (hg.ker fun k => if k < c then gv (pH U c c) k else if k = c then -1 else 0).1 (fun i hi => by
  have e:n + 1 = c + (1 + (n - c)):=by omega
  rw [e,tG,tG]
  have z3:aF (n - c) (fun k=>zJ U c i (c + (1 + k)) * (if c + (1 + k) < c then gv (pH U c c) (c + (1 + k)) else if c + (1 + k) = c then -1 else 0)) = 0:=gU fun k hk=>by rw [if_neg zo,if_neg zo]; grind
  have z2 : aF 1 (fun k => zJ U c i (c + k) * (if c + k < c then gv (pH U c c) (c + k) else if c + k = c then -1 else 0)) = zJ U c i c * -1 := by
   rw [Gy,if_neg zo,if_pos zo]; rfl
  have z1:aF c (fun k=>zJ U c i k * (if k < c then gv (pH U c c) k else if k = c then -1 else 0)) = aF c (fun k=>zJ U c i k * gv (pH U c c) k):=aC fun k hk=>by rw [if_pos hk]
  rw [z1,z2,z3]
  have zc:zJ U c i c = gm U i c:=by unfold zJ; rw [if_neg zo]
  rw [zc]
  by_cases e2:i < c
  ·rw [Wr hd e2]; grind
  ·rw [hz i zo hi,gU (fun k hk=>by unfold zJ; rw [if_pos zo]; grind),q0]; grind)
 refine ⟨fun k=>if k < c then gv (pH U c c) k else if k = c then -1 else 0,fun i hi=>?_,c,hc,?_⟩
 ·have h1 := key i hi
  rw [Bo h hi,if_neg zo,if_neg zo] at h1
  grind
 ·show (if c < c then gv (pH U c c) c else if c = c then (-1 : Qi) else 0) ≠ 0
  rw [if_neg zo,if_pos rfl]
  intro e
  exact absurd (congrArg Qi.re e) (by decide)
theorem a2a {M:List (List Qi)} {b:List Qi} {n:Nat} (h:cI M n n):jX M b n = gjE M b n ∧ (jX M b n = 0 → jY M b n = gjL M b n):=by
 by_cases hE:jX M b n = 0
 ·obtain ⟨h1, h2⟩ := nE h hE
  cases hX:gjX M b n with
  | none =>
   obtain ⟨y,h3,k,h4,h5⟩:=a10 h hX
   exact absurd (h2 y h3 k h4) h5
  | some X =>
   obtain ⟨h3,h4,_⟩:=Ny h hX
   refine ⟨by rw [hE]; simp only [gjE,hX,Option.isSome_some,if_true],fun _=>?_⟩
   simp only [gjL,hX,Option.getD_some]
   have hk : ∀ k, k < n → gv (jY M b n) k = gv X k := fun k hk => by
    have := h2 (fun k => gv (jY M b n) k - 1 * gv X k) (fun i hi => by
     have e:aF n (fun k=>gm M i k * (gv (jY M b n) k - 1 * gv X k)) = aF n (fun k=>gm M i k * gv (jY M b n) k - 1 * (gm M i k * gv X k)):=aC fun k _=>by grind
     rw [e,pW,h1 i hi,h4 i hi]; grind) k hk
    grind
   have hl:(jY M b n).length = n:=tK _ _ _
   apply List.ext_getElem?
   intro k
   by_cases c:k < n
   ·have := hk k c
    simp only [gv,List.getD] at this
    rw [List.getElem?_eq_getElem zo,List.getElem?_eq_getElem zo] at this ⊢
    exact congrArg some this
   ·rw [List.getElem?_eq_none zo,List.getElem?_eq_none zo]
 ·obtain ⟨y, h3, k, h4, h5⟩ := Gx (b := b) h hE
  have h6 : jX M b n = 6 := by
   unfold jX at hE ⊢
   split
   ·rfl
   ·rename_i e; rw [if_neg e] at hE; exact absurd rfl hE
  refine ⟨?_,fun e=>absurd e hE⟩
  cases hX:gjX M b n with
  | none=>rw [h6]; simp only [gjE,hX,Option.isSome_none]; rfl
  | some X =>
   obtain ⟨_,_,h7⟩:=Ny h hX
   exact absurd (h7 y h3 k h4) h5
end
section
open Go Go.RowKit
abbrev gnI (G:List Nat):List Int:=G.map fun (q:Nat)=>(q:Int) + 1
def iQ (G : List Nat) : Nat → List Nat
 | 0=>[]
 | k + 1=>iQ G k ++ (if k ∈ G then [] else [k])
theorem Ld (G : List Nat) : ∀ k, (iQ G k).length ≤ k
 | 0=>Nat.le_refl _
 | k + 1 => by
  have:=Ld G k
  simp only [iQ,List.length_append]
  split
  ·simp; omega
  ·simp; omega
theorem Le {G : List Nat} : ∀ {k x : Nat}, x ∈ iQ G k → x < k
 | 0,x,h=>by cases h
 | k + 1, x, h => by
  rcases List.mem_append.1 h with h1 | h1
  ·have:=Le h1; omega
  ·split at h1
   ·cases h1
   ·have:=List.mem_singleton.1 h1; omega
theorem tT {p : Nat} : ∀ {k : Nat}, iQ [p] k = tab (Xq p k) (mR p)
 | 0=>by rw [iQ,show Xq p 0 = 0 by unfold Xq; split <;> omega]; rfl
 | k + 1 => by
  rw [iQ,tT]
  by_cases c:k = p
  ·subst c
   rw [if_pos (by simp),List.append_nil,show Xq k (k + 1) = Xq k k by unfold Xq; split <;> split <;> omega]
  ·rw [if_neg (by simpa using c)]
   have e1:mR p (Xq p k) = k:=by unfold mR Xq; split <;> split <;> omega
   have e2:Xq p (k + 1) = Xq p k + 1:=by unfold Xq; split <;> split <;> omega
   rw [e2,wT,e1]
theorem a3v {p n:Nat} (h:p < n):(iQ [p] n).map Nat.succ = Fw p (n - 1):=by rw [tT,xC h,xW]; rfl
theorem a14 {G:List Nat} {i:Nat}:((gnI G).any fun x=>decide (((i + 1:Nat):Int) = x)) = decide (i ∈ G):=by
 rw [Bool.eq_iff_iff]
 simp only [gnI,List.any_map,List.any_eq_true,Function.comp,decide_eq_true_eq]
 constructor
 ·rintro ⟨q, h1, h2⟩
  obtain rfl:i = q:=by omega
  exact h1
 ·intro h; exact ⟨i,h,by omega⟩
abbrev gY (Q:List Nat) (i:Nat):Nat:=Q.getD i 0
def yD (z:List Qi) (Q:List Nat):List Qi:=tab Q.length fun i=>gv z (gY Q i)
def pE (s:List (List Qi)) (Q:List Nat):List (List Qi):=tab Q.length fun i=>tab Q.length fun j=>gm s (gY Q i) (gY Q j)
theorem rL {Q:List Nat} {n i:Nat} (h:∀ x,x ∈ Q → x < n) (hi:i < Q.length):gY Q i < n:=h _ (by rw [show gY Q i = Q[i] by simp [gY,List.getD,hi]]; exact List.getElem_mem hi)
theorem Aw {Q:List Nat} {i:Nat} (h:i < Q.length):(Q.map Nat.succ)[i]? = some (gY Q i + 1):=by simp [gY,List.getD,h]
theorem tH {m i:Nat} {p:Nat} (h:i < m):gY (tab m (mR p)) i = mR p i:=rN h
theorem Py (z:List Qi) (p m:Nat):yD z (tab m (mR p)) = yC z p m:=by
 rw [yD,aN]; exact cE fun i hi=>by rw [tH hi]
theorem a2e (s:List (List Qi)) (p m:Nat):pE s (tab m (mR p)) = a7M s p m:=by
 rw [pE,aN]; exact cE fun i hi=>cE fun j hj=>by rw [tH hi,tH hj]
theorem a4w {p m n : Nat} (hp : p < n) (hm : m = n - 1) : ∀ x, x ∈ tab m (mR p) → x < n := fun x hx => by
 obtain ⟨i,hi,rfl⟩:=fH.1 hx; exact Cb zo hp
theorem a3x (p m:Nat):(tab m (mR p)).map Nat.succ = Fw p m:=by rw [xW]; rfl
end
section
open Go Go.RowKit
def gq (ps:List (Nat × Nat)) (x:Nat):Nat:=if x % 2 = 0 then pA ps (x / 2) else pB ps (x / 2)
def qA (x:Nat):Nat:=if x % 2 = 0 then x + 1 else x - 1
theorem xR (x:Nat):qA (qA x) = x:=by unfold qA; split <;> split <;> omega
theorem tY {x k:Nat} (h:x < 2 * k):qA x < 2 * k:=by unfold qA; split <;> omega
theorem a3k (ps:List (Nat × Nat)) (k:Nat):gq ps (2 * k) = pA ps k:=by unfold gq; rw [if_pos zo,show 2 * k / 2 = k by omega]
theorem a65 (ps:List (Nat × Nat)) (k:Nat):gq ps (2 * k + 1) = pB ps k:=by unfold gq; rw [if_neg zo,show (2 * k + 1) / 2 = k by omega]
structure Jn (ps:List (Nat × Nat)) (n K:Nat):Prop where
 lt:∀ x,x < 2 * K → gq ps x < n
 inj:∀ x y,x < 2 * K → y < 2 * K → gq ps x = gq ps y → x = y
theorem Jn.le {ps:List (Nat × Nat)} {n K k:Nat} (h:Jn ps n K) (hk:k ≤ K):Jn ps n k:=⟨fun x hx=>h.lt x zo,fun x y hx hy=>h.inj x y zo zo⟩
def xL (S:List (List Qi)) (ps:List (Nat × Nat)) (m:Nat):List (List Qi):=tab m fun x=>tab m fun y=>(if x = y then Qi.ofInt 1 else Qi.ofInt 0) - gm S (gq ps (qA x)) (gq ps y)
def jnB (S:List (List Qi)) (ps:List (Nat × Nat)) (m b:Nat):List Qi:=tab m fun x=>gm S (gq ps (qA x)) b
theorem Af (S:List (List Qi)) (ps:List (Nat × Nat)) (m:Nat):cI (xL S ps m) m m:=cI.tab
theorem Ve {S:List (List Qi)} {ps:List (Nat × Nat)} {m x:Nat} (hx:x < m) (v:Nat → Qi):aF m (fun y=>gm (xL S ps m) x y * v y) = v x - aF m fun y=>gm S (gq ps (qA x)) (gq ps y) * v y:=by
 have e : ∀ y, y < m → gm (xL S ps m) x y * v y = (if y = x then v x else 0) - 1 * (gm S (gq ps (qA x)) (gq ps y) * v y) := fun y hy => by
  have : gm (xL S ps m) x y = (if x = y then Qi.ofInt 1 else Qi.ofInt 0) - gm S (gq ps (qA x)) (gq ps y) := by
   show gv ((xL S ps m).getD x []) y = _
   rw [xL,rN hx,gP hy]
  rw [this]
  by_cases c:y = x
  ·subst c; rw [if_pos rfl,if_pos rfl,q1]; grind
  ·rw [if_neg c,if_neg (Ne.symm c),show Qi.ofInt 0 = (0:Qi) from rfl]; grind
 rw [aC e,pW,cF hx (fun k _ hk=>if_neg hk),if_pos rfl]; grind
theorem a6g {S:List (List Qi)} {ps:List (Nat × Nat)} {m b x:Nat} (hx:x < m):gv (jnB S ps m b) x = gm S (gq ps (qA x)) b:=gP hx
def jnX (S:List (List Qi)) (ps:List (Nat × Nat)) (m a b:Nat):Qi:=gm S a b + aF m fun y=>gm S a (gq ps y) * gv (jY (xL S ps m) (jnB S ps m b) m) y
end
section
open Go Go.RowKit
def gH (n:Nat) (p:Int) (o:List Int):Int:=if ¬ (1 ≤ p ∧ p ≤ n) then 1 else if (o.any fun x=>decide (p = x)) = true then 8 else 0
def uI (n:Nat) (l:List Int):Int:=mC (fun i=>gH n (l.getD i 0) (l.take i)) l.length
def jW (l:List Int):List Nat:=l.map fun p=>(p - 1).toNat
theorem wF (l:List Int):(jW l).length = l.length:=by rw [jW,List.length_map]
theorem Nv {n:Nat} {p:Int} {o:List Int} (h:gH n p o = 0):1 ≤ p ∧ p ≤ n:=by
 unfold gH at h
 split at h
 ·omega
 ·rename_i c; exact Decidable.not_not.1 c
theorem Lu {n : Nat} {l : List Int} (h : uI n l = 0) : ∀ x, x ∈ l → 1 ≤ x ∧ x ≤ n := fun x hx => by
 obtain ⟨i,hi,e⟩:=List.getElem_of_mem hx
 have:=Nv (kI h i hi)
 rw [show l.getD i 0 = x by rw [List.getD,List.getElem?_eq_getElem hi,e]; rfl] at this
 exact this
theorem Lt {n : Nat} {l : List Int} (h : uI n l = 0) : ∀ x, x ∈ jW l → x < n := fun x hx => by
 obtain ⟨p,hp,rfl⟩:=List.mem_map.1 hx
 have:=Lu h p hp; omega
theorem Pa {n:Nat} {l:List Int} (h:uI n l = 0):l.map (aT .i64) = ((jW l).map Nat.succ).map (NT .i64):=by
 rw [jW,List.map_map,List.map_map]
 refine List.map_congr_left fun p hp=>?_
 have:=Lu h p hp
 show aT .i64 p = aT .i64 (((p - 1).toNat + 1:Nat):Int)
 congr 1; omega
theorem Wc {n:Nat} {l:List Int} (h:uI n l = 0) {i:Nat} (hi:i < l.length):gY (jW l) i = (l.getD i 0 - 1).toNat ∧ 1 ≤ l.getD i 0:=by
 have h1:=Lu h (l.getD i 0) (by rw [show l.getD i 0 = l[i] by simp [List.getD,hi]]; exact List.getElem_mem hi)
 refine ⟨?_,h1.1⟩
 simp [gY,jW,List.getD,hi]
def zB (n:Nat) (l:List Int):Int:=if l.length ≠ n then 4 else uI n l
def Dd (z:List Qi) (l:List Int):List Qi:=dA (zB z.length l) (yD z (jW l))
def tE (z:List Qi) (s:List (List Qi)) (l:List Int):List (List Qi):=dA (zB z.length l) (pE s (jW l))
theorem Gp {n:Nat} {l:List Int} (h:l.length ≠ n):zB n l = 4:=if_pos h
theorem Sn {n:Nat} {l:List Int} (h:l.length = n):zB n l = uI n l:=if_neg (fun k=>k h)
theorem pV (z:List Qi) (Q:List Nat):(yD z Q).length = Q.length:=aN _ _
theorem wR (s:List (List Qi)) (Q:List Nat):cI (pE s Q) Q.length Q.length:=cI.tab
end
section
open Go Go.RowKit
def uF (js:List (Int × Int)):List Int:=js.flatMap fun q=>[q.1,q.2]
def iS (js:List (Int × Int)):List (Nat × Nat):=js.map fun q=>((q.1 - 1).toNat,(q.2 - 1).toNat)
abbrev Ae (js:List (Int × Int)) (k:Nat):Int × Int:=js.getD k (0,0)
theorem a3o (a b:List (Int × Int)):uF (a ++ b) = uF a ++ uF b:=by simp [uF]
theorem a1d {js:List (Int × Int)} {k:Nat} (h:k < js.length):uF (js.take (k + 1)) = uF (js.take k) ++ [(Ae js k).1,(Ae js k).2]:=by
 rw [List.take_succ_eq_append_getElem h,a3o]
 simp [uF,Ae,List.getD,h]
theorem Dw : ∀ (js : List (Int × Int)), (uF js).length = 2 * js.length
 | []=>rfl
 | q :: r => by
  have:=Dw r
  have e:uF (q :: r) = q.1 :: q.2 :: uF r:=rfl
  rw [e,List.length_cons,List.length_cons,List.length_cons,this]; omega
theorem Vd : ∀ (js : List (Int × Int)) {x : Nat}, x < 2 * js.length → (uF js).getD x 0 = if x % 2 = 0 then (Ae js (x / 2)).1 else (Ae js (x / 2)).2
 | [],x,h=>by simp at h
 | q :: r,0,_=>rfl
 | q :: r,1,_=>rfl
 | q :: r, x + 2, h => by
  have ih:=Vd r (x:=x) (by simp only [List.length_cons] at h; omega)
  have e:uF (q :: r) = q.1 :: q.2 :: uF r:=rfl
  rw [e]
  show (uF r).getD x 0 = _
  rw [ih,show (x + 2) % 2 = x % 2 by omega,show (x + 2) / 2 = x / 2 + 1 by omega]
  rfl
theorem Ru {js:List (Int × Int)} {k:Nat} (h:k < js.length):pA (iS js) k = ((Ae js k).1 - 1).toNat ∧ pB (iS js) k = ((Ae js k).2 - 1).toNat:=by
 simp [pA,pB,iS,Ae,List.getD,h]
theorem jgq {js:List (Int × Int)} {x:Nat} (h:x < 2 * js.length):gq (iS js) x = ((uF js).getD x 0 - 1).toNat:=by
 have h2:x / 2 < js.length:=by omega
 rw [Vd js h,gq,(Ru h2).1,(Ru h2).2]
 split <;> rfl
theorem Pb {n:Nat} {A:List Int} (h:uI n A = 0) (a:Int):uI n (A ++ [a]) = gH n a A:=by
 rw [uI,List.length_append,List.length_singleton]
 have e : mC (fun i => gH n ((A ++ [a]).getD i 0) ((A ++ [a]).take i)) A.length = 0 := lD fun i hi => by
  have:=kI h i hi
  rw [List.take_append_of_le_length zo]
  have e2:(A ++ [a]).getD i 0 = A.getD i 0:=by simp [List.getD,List.getElem?_append_left hi]
  rw [e2]; exact this
 rw [mC,e,if_neg (by simp),List.take_append_of_le_length (Nat.le_refl _),List.take_length]
 congr 1
 simp [List.getD]
theorem Yr {n:Nat} {A:List Int} (h:uI n A = 0) (a b:Int):uI n (A ++ [a,b]) = if gH n a A ≠ 0 then gH n a A else gH n b (A ++ [a]):=by
 have e:A ++ [a,b] = (A ++ [a]) ++ [b]:=by simp
 by_cases c:gH n a A = 0
 ·rw [if_neg (fun k=>k c),e,Pb (by rw [Pb h]; exact c)]
 ·rw [if_pos c]
  have h1 : mC (fun i => gH n ((A ++ [a, b]).getD i 0) ((A ++ [a, b]).take i)) A.length = 0 := lD fun i hi => by
   have:=kI h i hi
   rw [List.take_append_of_le_length zo]
   have e2:(A ++ [a,b]).getD i 0 = A.getD i 0:=by simp [List.getD,List.getElem?_append_left hi]
   rw [e2]; exact this
  have h2 : gH n ((A ++ [a, b]).getD A.length 0) ((A ++ [a, b]).take A.length) = gH n a A := by
   rw [List.take_append_of_le_length (Nat.le_refl _),List.take_length]
   congr 1
   simp [List.getD]
  rw [uI,Bq (k:=A.length) (fun i hi=>kI h1 i hi) (by rw [h2]; exact c) (by simp)]
  exact h2
def Yf (z : List Qi) (js : List (Int × Int)) (k : Nat) : Int :=
 if gH z.length (Ae js k).1 (uF (js.take k)) ≠ 0 then gH z.length (Ae js k).1 (uF (js.take k))
 else if gH z.length (Ae js k).2 (uF (js.take k) ++ [(Ae js k).1]) ≠ 0 then gH z.length (Ae js k).2 (uF (js.take k) ++ [(Ae js k).1])
 else if gv z ((Ae js k).1 - 1).toNat = gv z ((Ae js k).2 - 1).toNat then 0 else 40
def jdE (z:List Qi) (js:List (Int × Int)):Int:=mC (Yf z js) js.length
theorem Og {z:List Qi} {js:List (Int × Int)} {k:Nat} (h:Yf z js k = 0):gH z.length (Ae js k).1 (uF (js.take k)) = 0 ∧ gH z.length (Ae js k).2 (uF (js.take k) ++ [(Ae js k).1]) = 0 ∧ gv z ((Ae js k).1 - 1).toNat = gv z ((Ae js k).2 - 1).toNat:=by
 unfold Yf at h
 by_cases c1:gH z.length (Ae js k).1 (uF (js.take k)) = 0
 ·rw [if_neg (fun k => k c1)] at h
  by_cases c2:gH z.length (Ae js k).2 (uF (js.take k) ++ [(Ae js k).1]) = 0
  ·rw [if_neg (fun k => k c2)] at h
   by_cases c3:gv z ((Ae js k).1 - 1).toNat = gv z ((Ae js k).2 - 1).toNat
   ·exact ⟨c1,c2,c3⟩
   ·rw [if_neg c3] at h; omega
  ·rw [if_pos c2] at h; exact absurd h c2
 ·rw [if_pos c1] at h; exact absurd h c1
theorem jpr {z : List Qi} {js : List (Int × Int)} : ∀ {k : Nat}, k ≤ js.length → (∀ j, j < k → Yf z js j = 0) → uI z.length (uF (js.take k)) = 0
 | 0,_,_=>rfl
 | k + 1, hk, h => by
  have ih:=jpr (z:=z) (js:=js) (k:=k) zo fun j hj=>h j zo
  obtain ⟨h1,h2,_⟩:=Og (h k zo)
  rw [a1d zo,Yr ih,if_neg (fun k=>k h1)]; exact h2
theorem a6f {z:List Qi} {js:List (Int × Int)} (h:jdE z js = 0):uI z.length (uF js) = 0:=by
 have:=jpr (z:=z) (Nat.le_refl js.length) (kI h)
 rwa [List.take_length] at this
theorem Xy {n : Nat} {p : Int} {o : List Int} (h : gH n p o = 0) : p ∉ o := fun hm => by
 have h1:=Nv h
 unfold gH at h
 rw [if_neg (fun k=>k h1),if_pos (List.any_eq_true.2 ⟨p,hm,by simp⟩)] at h
 omega
theorem Wd {n:Nat} {l:List Int} (h:uI n l = 0) {x y:Nat} (hx:x < l.length) (hy:y < l.length) (e:l.getD x 0 = l.getD y 0):x = y:=by
 have key : ∀ x y, x < y → y < l.length → l.getD x 0 ≠ l.getD y 0 := fun x y hxy hy e => by
  refine Xy (kI h y hy) ?_
  rw [← e]
  have e2:l.getD x 0 = l[x]'zo:=by simp [List.getD,show x < l.length by omega]
  rw [e2]
  exact List.mem_take_iff_getElem.2 ⟨x,by omega,rfl⟩
 rcases Nat.lt_trichotomy x y with c | c | c
 ·exact absurd e (key x y c hy)
 ·exact c
 ·exact absurd e.symm (key y x c hx)
theorem a7F {z:List Qi} {js:List (Int × Int)} (h:jdE z js = 0):Jn (iS js) z.length js.length:=by
 have hp:=a6f h
 have hl:=Dw js
 have hr : ∀ x, x < 2 * js.length → 1 ≤ (uF js).getD x 0 ∧ (uF js).getD x 0 ≤ z.length := fun x hx => Lu hp _ (by
  rw [show (uF js).getD x 0 = (uF js)[x]'zo by simp [List.getD,show x < (uF js).length by omega]]; exact List.getElem_mem _)
 refine ⟨fun x hx=>?_,fun x y hx hy e=>?_⟩
 ·rw [jgq hx]; have:=hr x hx; omega
 ·rw [jgq hx, jgq hy] at e
  have h1:=hr x hx; have h2:=hr y hy
  exact Wd hp zo zo zo
def pZ (js:List (Int × Int)):List Nat:=(uF js).map fun p=>(p - 1).toNat
def jnF (z:List Qi) (js:List (Int × Int)):List Nat:=iQ (pZ js) z.length
def Ye (z:List Qi) (js:List (Int × Int)):List Qi:=yD z (jnF z js)
def Od (z:List Qi) (S:List (List Qi)) (js:List (Int × Int)):List (List Qi):=tab (jnF z js).length fun x=>tab (jnF z js).length fun y=>jnX S (iS js) (2 * js.length) (gY (jnF z js) x) (gY (jnF z js) y)
theorem xK {js:List (Int × Int)} {j:Nat}:j ∈ pZ js ↔ ∃ x,x < 2 * js.length ∧ gq (iS js) x = j:=by
 constructor
 ·intro h
  obtain ⟨p,hp,rfl⟩:=List.mem_map.1 h
  obtain ⟨x,hx,e⟩:=List.getElem_of_mem hp
  have hl:=Dw js
  refine ⟨x,by omega,?_⟩
  rw [jgq zo,show (uF js).getD x 0 = p by rw [← e]; simp [List.getD,hx]]
 ·rintro ⟨x, hx, rfl⟩
  have hl:=Dw js
  rw [jgq hx]
  refine List.mem_map.2 ⟨(uF js).getD x 0,?_,rfl⟩
  rw [show (uF js).getD x 0 = (uF js)[x]'zo by simp [List.getD,show x < (uF js).length by omega]]; exact List.getElem_mem _
end
section
open Go Go.RowKit
theorem a3g {M:List (List Qi)} {b:List Qi} {n:Nat} (h:cI M n n):gjL M b n = dA (jX M b n) (jY M b n):=by
 obtain ⟨h1,h2⟩:=a2a (b:=b) h
 by_cases e:jX M b n = 0
 ·rw [dA,if_pos e,h2 e]
 ·rw [dA, if_neg e]
  rw [h1] at e
  cases hX:gjX M b n with
  | none=>simp only [gjL,hX]; rfl
  | some X=>exact absurd (by simp only [gjE,hX,Option.isSome_some,if_true]) e
def Oc (M:List (List Qi)) (n r j:Nat):Qi:=gv (jY M (ek n j) n) r
theorem a1a (M:List (List Qi)) (n:Nat):oC (Oc M n) n n n 0 = nN M n:=zU (Oc M n) n n
theorem rG (M:List (List Qi)) (n:Nat):cI (nN M n) n n:=cI.tab
theorem Gw (M:List (List Qi)) (b:List Qi) (n:Nat):(jY M b n).length = n:=tK _ _ _
theorem Ft {M:List (List Qi)} {n:Nat} (h:oM M n = 0):∀ k,k < n → jX M (ek n k) n = 0:=kI h
def Lr (M:List (List Qi)) (n:Nat):Int:=if oM M n = 0 then 0 else 5
def ovX (Y M:List (List Qi)) (n:Nat):List (List Qi):=dA (Lr M n) (iK Y (nN M n) n n n)
theorem a1G {M:List (List Qi)} {n:Nat} (h:Lr M n = 0):oM M n = 0:=by
 unfold Lr at h; split at h
 ·assumption
 ·omega
theorem Ba {n i j:Nat} (hi:i < n) (hj:j < n):gm (tS n) i j = if i = j then 1 else 0:=by
 show gv ((tS n).getD i []) j = _
 rw [tS,rN hi,yL,uV (by rw [aN]; exact hi)]
 by_cases e:j = i
 ·subst e; rw [if_pos rfl,if_pos rfl]; rfl
 ·rw [if_neg e,if_neg (Ne.symm e),gP hj]; rfl
theorem gC {a b:List (List Qi)} {n m:Nat} (ha:cI a n m) (hb:cI b n m) (h:∀ i,i < n → ∀ j,j < m → gm a i j = gm b i j):a = b:=by
 rw [sB ha,sB hb]
 exact cE fun i hi=>cE fun j hj=>h i hi j hj
end
section
open Go Go.RowKit
theorem pig : ∀ {n m : Nat} {f : Nat → Nat}, (∀ x, x < m → f x < n) → (∀ x y, x < m → y < m → f x = f y → x = y) → m ≤ n
 | 0, m, f, h, _ => by
  cases m with
  | zero=>exact Nat.le_refl 0
  | succ m=>exact absurd (h 0 zo) zo
 | n + 1,0,_,_,_=>by omega
 | n + 1, k + 1, f, h, i => by
  have := pig (n := n) (m := k) (f := fun x => if f x = n then f k else f x) (fun x hx => by
   have h1:=h x zo
   have h2:=h k zo
   by_cases c:f x = n
   ·simp only [if_pos c]
    have:f k ≠ n:=fun e=>by have:=i x k zo zo (by rw [c,e]); omega
    omega
   ·simp only [if_neg c]; omega) (fun x y hx hy e=>by
   by_cases c:f x = n <;> by_cases d:f y = n
   ·exact i x y zo zo (by rw [c,d])
   ·simp only [if_pos c, if_neg d] at e
    have:=i k y zo zo e; omega
   ·simp only [if_neg c, if_pos d] at e
    have:=i x k zo zo e; omega
   ·simp only [if_neg c, if_neg d] at e
    exact i x y zo zo e)
  omega
end
section
open Go Go.RowKit
theorem a6E {x:Qi} (h:eO x = true):x ≠ 0:=fun e=>(a6F h).2 (by rw [e]; rfl)
theorem nZ {z:List Qi} (h:z.all eO = true) {i:Nat} (hi:i < z.length):gv z i ≠ 0:=a6E (List.all_eq_true.1 h _ (by rw [show gv z i = z[i] by simp [gv,List.getD,hi]]; exact List.getElem_mem hi))
theorem xH {x y:Qi} {L M:Nat} (hx:aE x L) (hy:aE y M) (h:y ≠ 0):aE (x / y) (L + 3 * M + 2):=⟨hx.fit.div hy.fit h⟩
def fT (z w:List Qi) (i:Nat):Qi:=gv w i / gv z i
def Zr (z w:List Qi):List Qi:=tab w.length fun i=>Qi.ofInt 1 + fT z w i
def Zq (z w:List Qi):List Qi:=tab w.length fun i=>Qi.ofInt 1 - fT z w i
def Zn (st fa:List Qi) (s:List (List Qi)) (i j:Nat):Qi:=(if i = j then gv st i else Qi.ofInt 0) + gv fa i * gm s i j
def mxM (st fa:List Qi) (s:List (List Qi)) (n:Nat):List (List Qi):=tab n fun i=>tab n fun j=>Zn st fa s i j
theorem lI (st fa:List Qi) (s:List (List Qi)) (n:Nat):cI (mxM st fa s n) n n:=cI.tab
theorem a3D {st fa:List Qi} {s:List (List Qi)} {K L:Nat} (hs:cB st K) (hf:cB fa K) (hS:bA s L) (hK:1 ≤ K) (hL:1 ≤ L) (i j:Nat):aE (Zn st fa s i j) (2 * K + L + 2):=by
 haveI f1:=hf.get hK i
 haveI f2:=hS.get hL i j
 haveI f3 : aE (if i = j then gv st i else Qi.ofInt 0) K := by
  split
  ·exact hs.get hK i
  ·exact aE.zero hK
 have:aE (Zn st fa s i j) (K + (K + L + 1) + 1):=inferInstanceAs (aE (_ + _ * _) _)
 exact this.le zo
theorem xN {st fa:List Qi} {s:List (List Qi)} {n K L:Nat} (hs:cB st K) (hf:cB fa K) (hS:bA s L) (hK:1 ≤ K) (hL:1 ≤ L):bA (mxM st fa s n) (2 * K + L + 2):=bA.tab fun i j _ _=>a3D hs hf hS hK hL i j
theorem sG {z w:List Qi} {L M i:Nat} (hz:cB z L) (hw:cB w M) (hL:1 ≤ L) (hM:1 ≤ M) (hp:z.all eO = true) (hi:i < z.length):aE (fT z w i) (M + 3 * L + 2):=xH (hw.get hM i) (hz.get hL i) (nZ hp hi)
theorem xT {z w : List Qi} {L M : Nat} (hz : cB z L) (hw : cB w M) (hL : 1 ≤ L) (hM : 1 ≤ M) (hp : z.all eO = true) (hl : w.length = z.length) : cB (Zr z w) (M + 3 * L + 4) := cB.tab fun i hi => by
 haveI f1:=sG (i:=i) hz hw hL hM hp zo
 haveI:=kS
 have:aE (Qi.ofInt 1 + fT z w i) (1 + (M + 3 * L + 2) + 1):=fitAdd
 exact this.le zo
theorem xS {z w : List Qi} {L M : Nat} (hz : cB z L) (hw : cB w M) (hL : 1 ≤ L) (hM : 1 ≤ M) (hp : z.all eO = true) (hl : w.length = z.length) : cB (Zq z w) (M + 3 * L + 4) := cB.tab fun i hi => by
 haveI f1:=sG (i:=i) hz hw hL hM hp zo
 haveI:=kS
 have:aE (Qi.ofInt 1 - fT z w i) (1 + (M + 3 * L + 2) + 1):=fitSub
 exact this.le zo
abbrev Hn (z w:List Qi) (s:List (List Qi)):List (List Qi):=mxM (Zq z w) (Zr z w) s w.length
abbrev qT (z w:List Qi) (s:List (List Qi)):List (List Qi):=mxM (Zr z w) (Zq z w) s w.length
def uE (z w:List Qi) (s:List (List Qi)):Int:=if w.length ≠ z.length then 4 else if w.all eO = true then Lr (qT z w s) w.length else 1
def yK (z w:List Qi) (s:List (List Qi)):List Qi:=dA (uE z w s) w
def jQ (z w:List Qi) (s:List (List Qi)):List (List Qi):=dA (uE z w s) (iK (Hn z w s) (nN (qT z w s) w.length) w.length w.length w.length)
theorem Lx {z w:List Qi} {s:List (List Qi)} (h:w.length ≠ z.length):uE z w s = 4:=if_pos h
theorem a1U {z w:List Qi} {s:List (List Qi)} (h:w.length = z.length) (hp:w.all eO ≠ true):uE z w s = 1:=by rw [uE,if_neg (fun k=>k h),if_neg hp]
theorem a1V {z w:List Qi} {s:List (List Qi)} (h:w.length = z.length) (hp:w.all eO = true):uE z w s = Lr (qT z w s) w.length:=by rw [uE,if_neg (fun k=>k h),if_pos hp]
theorem a1W {z w:List Qi} {s:List (List Qi)} (h:w.length = z.length) (hp:w.all eO = true):jQ z w s = ovX (Hn z w s) (qT z w s) w.length:=by rw [jQ,a1V h hp]; rfl
def Mg (i j:Nat):Qi:=if i = j then Qi.ofInt 1 else Qi.ofInt 0
def rvE (s:List (List Qi)) (i j:Nat):Qi:=Mg i j + gm s i j
def Wh (z:List Qi) (s:List (List Qi)) (i j:Nat):Qi:=(Mg i j - gm s i j) / gv z i
def raE (z w:List Qi) (s:List (List Qi)) (i j:Nat):Qi:=rvE s i j + gv w i * Wh z s i j
def rbE (z w:List Qi) (s:List (List Qi)) (i j:Nat):Qi:=rvE s i j - gv w i * Wh z s i j
theorem a7O {z w:List Qi} {s:List (List Qi)} {i j:Nat} (hl:w.length = z.length) (hp:z.all eO = true) (hi:i < w.length) (hj:j < w.length):raE z w s i j = gm (qT z w s) i j:=by
 have hz:=nZ hp (show i < z.length by omega)
 have h1:=pS hz
 rw [qT,mxM,eR hi hj,Zn,Zr,Zq,gP hi,gP hi,fT,raE,rvE,Wh,Mg,Qi.div_def,Qi.div_def,q1,show Qi.ofInt 0 = (0:Qi) from rfl]
 by_cases e:i = j
 ·rw [if_pos e,if_pos e]; grind
 ·rw [if_neg e,if_neg e]; grind
theorem a7Q {z w:List Qi} {s:List (List Qi)} {i j:Nat} (hl:w.length = z.length) (hp:z.all eO = true) (hi:i < w.length) (hj:j < w.length):rbE z w s i j = gm (Hn z w s) i j:=by
 have hz:=nZ hp (show i < z.length by omega)
 have h1:=pS hz
 rw [Hn,mxM,eR hi hj,Zn,Zr,Zq,gP hi,gP hi,fT,rbE,rvE,Wh,Mg,Qi.div_def,Qi.div_def,q1,show Qi.ofInt 0 = (0:Qi) from rfl]
 by_cases e:i = j
 ·rw [if_pos e,if_pos e]; grind
 ·rw [if_neg e,if_neg e]; grind
theorem a6G {z w:List Qi} {s:List (List Qi)} (hl:w.length = z.length) (hp:z.all eO = true):oC (raE z w s) w.length w.length w.length 0 = qT z w s:=by
 rw [zU]
 exact gC cI.tab (lI _ _ _ _) fun i hi j hj=>by rw [eR hi hj,a7O hl hp hi hj]
theorem a6H {z w:List Qi} {s:List (List Qi)} (hl:w.length = z.length) (hp:z.all eO = true):oC (rbE z w s) w.length w.length w.length 0 = Hn z w s:=by
 rw [zU]
 exact gC cI.tab (lI _ _ _ _) fun i hi j hj=>by rw [eR hi hj,a7Q hl hp hi hj]
theorem a4a (i j:Nat):aE (Mg i j) 1:=by
 unfold Mg; split
 ·exact kS
 ·exact aE.zero (Nat.le_refl 1)
end
section
open Go Go.RowKit
section
variable {φ:Qi → Qi → Bool} {z:List Qi} {js:List (Int × Int)}
end
theorem jV {a b:List (List Qi)} {n k m i j:Nat} (hi:i < n) (hj:j < m):gm (iK a b n k m) i j = aF k fun t=>gm a i t * gm b t j:=eR hi hj
theorem Vm {A : List (List Qi)} {n : Nat} (h : cI A n n) : iK (tS n) A n n n = A := gC gS h fun i hi j hj => by
 rw [jV hi hj,cF hi (f:=fun t=>gm (tS n) i t * gm A t j) fun k hk hne=>by rw [Ba hi hk,if_neg (Ne.symm hne)]; grind,Ba hi hi,if_pos rfl]; grind
theorem Vn {A : List (List Qi)} {n : Nat} (h : cI A n n) : iK A (tS n) n n n = A := gC gS h fun i hi j hj => by
 rw [jV hi hj,cF hj (f:=fun t=>gm A i t * gm (tS n) t j) fun k hk hne=>by rw [Ba hk hj,if_neg hne]; grind,Ba hj hj,if_pos rfl]; grind
abbrev jp1 (js:List (Int × Int)) (k:Nat):Nat:=((Ae js k).1 - 1).toNat
abbrev jp2 (js:List (Int × Int)) (k:Nat):Nat:=((Ae js k).2 - 1).toNat
theorem a53 {js:List (Int × Int)} {k:Nat} (h:k < js.length):gq (iS js) (2 * k) = jp1 js k ∧ gq (iS js) (2 * k + 1) = jp2 js k:=by
 obtain ⟨h1,h2⟩:=Ru h
 rw [a3k,a65]; exact ⟨h1,h2⟩
def lG:Qi:=Qi.frac 1 0 2
theorem Kz:aE lG 2:=⟨Qi.Fit.frac (by decide) (by decide) (by decide) (by decide) (by decide) (by decide) (by decide)⟩
theorem a3l:lG * Qi.ofInt 2 = Qi.ofInt 1:=by decide +kernel
section
variable {js:List (Int × Int)} {n:Nat}
end
end
section
open Go Go.RowKit
structure Ib (O:List Nat) (n:Nat):Prop where
 nd:O.Nodup
 all:∀ x,x ∈ O ↔ 1 ≤ x ∧ x ≤ n
theorem Ib.len {O:List Nat} {n:Nat} (h:Ib O n):O.length = n:=by
 refine Nat.le_antisymm ?_ ?_
 ·refine pig (n := n) (f := fun i => O.getD i 0 - 1) (fun x hx => ?_) (fun x y hx hy e => ?_)
  ·have := (h.all (O.getD x 0)).1 (by rw [show O.getD x 0 = O[x] by simp [List.getD, hx]]; exact List.getElem_mem hx)
   show O.getD x 0 - 1 < n; omega
  ·have a := (h.all (O.getD x 0)).1 (by rw [show O.getD x 0 = O[x] by simp [List.getD, hx]]; exact List.getElem_mem hx)
   have b:=(h.all (O.getD y 0)).1 (by rw [show O.getD y 0 = O[y] by simp [List.getD,hy]]; exact List.getElem_mem hy)
   have e2:O.getD x 0 = O.getD y 0:=by have:O.getD x 0 - 1 = O.getD y 0 - 1:=e; omega
   rw [show O.getD x 0 = O[x] by simp [List.getD,hx],show O.getD y 0 = O[y] by simp [List.getD,hy]] at e2
   exact (List.getElem_inj h.nd).1 e2
 ·have key : ∀ j, j < n → ∃ i, i < O.length ∧ O.getD i 0 = j + 1 := fun j hj => by
   obtain ⟨i,hi,e⟩:=List.getElem_of_mem ((h.all (j + 1)).2 ⟨by omega,by omega⟩)
   exact ⟨i,hi,by simp [List.getD,hi,e]⟩
  refine pig (n:=O.length) (f:=fun j=>if hj:j < n then Classical.choose (key j hj) else 0) (fun x hx=>by simp only [dif_pos hx]; exact (Classical.choose_spec (key x hx)).1) (fun x y hx hy e=>?_)
  simp only [dif_pos hx,dif_pos hy] at e
  have a:=(Classical.choose_spec (key x hx)).2
  have b:=(Classical.choose_spec (key y hy)).2
  rw [e] at a; omega
section
variable {O:List Nat} {n:Nat}
theorem Ib.at (h:Ib O n) {i:Nat} (hi:i < n):1 ≤ O.getD i 0 ∧ O.getD i 0 ≤ n:=by
 have hl:=h.len
 exact (h.all _).1 (by rw [show O.getD i 0 = O[i] by simp [List.getD,show i < O.length by omega]]; exact List.getElem_mem _)
theorem Ib.inj (h:Ib O n) {i j:Nat} (hi:i < n) (hj:j < n) (e:O.getD i 0 = O.getD j 0):i = j:=by
 have hl:=h.len
 rw [show O.getD i 0 = O[i] by simp [List.getD,show i < O.length by omega],show O.getD j 0 = O[j] by simp [List.getD,show j < O.length by omega]] at e
 exact (List.getElem_inj h.nd).1 e
end
end
section
open Go Go.RowKit
def a5g (S:Nat → Nat → Qi) (p q:Nat):Prop:=∀ v0 v1:Qi,v0 = S q p * v0 + S q q * v1 → v1 = S p p * v0 + S p q * v1 → v0 = 0 ∧ v1 = 0
theorem Lz {M:List (List Qi)} {b:List Qi} {n:Nat} (h:cI M n n):jX M b n = 0 ↔ ∀ y:Nat → Qi,(∀ i,i < n → aF n (fun k=>gm M i k * y k) = 0) → ∀ k,k < n → y k = 0:=by
 constructor
 ·intro e; exact (nE h e).2
 ·intro hk
  apply Classical.byContradiction; intro e
  obtain ⟨y,hy,k,hkn,hne⟩:=Gx h e
  exact hne (hk y hy k hkn)
theorem Ss (f:Nat → Qi):aF 2 f = f 0 + f 1:=by simp only [aF,q0]; grind
section
variable {S:List (List Qi)} {p q r t a b:Nat}
abbrev J1 (p q:Nat):List (Int × Int):=[(((p + 1:Nat):Int),((q + 1:Nat):Int))]
theorem p1n (p:Nat):(((p + 1:Nat):Int) - 1).toNat = p:=by omega
theorem a3s:iS (J1 p q) = [(p,q)]:=by simp only [iS,J1,List.map_cons,List.map_nil,p1n]
theorem a7D:pZ (J1 p q) = [p,q]:=by
 have e:pZ (J1 p q) = [(((p + 1:Nat):Int) - 1).toNat,(((q + 1:Nat):Int) - 1).toNat]:=rfl
 rw [e,p1n,p1n]
theorem a6K {v:Nat → Qi}:(aF 2 (fun y=>gm (xL S [(p,q)] 2) 0 y * v y) = v 0 - (gm S q p * v 0 + gm S q q * v 1)) ∧ (aF 2 (fun y=>gm (xL S [(p,q)] 2) 1 y * v y) = v 1 - (gm S p p * v 0 + gm S p q * v 1)):=by
 rw [Ve zo,Ve zo,Ss,Ss]
 exact ⟨rfl,rfl⟩
theorem Zg {x y:Qi} (h:x - y = 0):x = y:=by grind
theorem Vu {bb:List Qi}:jX (xL S [(p,q)] 2) bb 2 = 0 ↔ a5g (gm S) p q:=by
 rw [Lz (Af _ _ _)]
 constructor
 ·intro h v0 v1 h0 h1
  have hk := h (fun k => if k = 0 then v0 else v1) (fun i hi => by
   obtain ⟨r0,r1⟩:=a6K (S:=S) (p:=p) (q:=q) (v:=fun k=>if k = 0 then v0 else v1)
   have c:i = 0 ∨ i = 1:=by omega
   rcases c with rfl | rfl
   ·rw [r0]; show v0 - (gm S q p * v0 + gm S q q * v1) = 0; clear r0 r1 h; grind
   ·rw [r1]; show v1 - (gm S p p * v0 + gm S p q * v1) = 0; clear r0 r1 h; grind)
  exact ⟨hk 0 zo,hk 1 zo⟩
 ·intro h y hy
  obtain ⟨r0,r1⟩:=a6K (S:=S) (p:=p) (q:=q) (v:=y)
  obtain ⟨a0,a1⟩:=h (y 0) (y 1) (Zg (by rw [← r0]; exact hy 0 zo)) (Zg (by rw [← r1]; exact hy 1 zo))
  intro k hk
  have c:k = 0 ∨ k = 1:=by omega
  rcases c with rfl | rfl
  ·exact a0
  ·exact a1
end
section
variable {S:Nat → Nat → Qi} {p q r t a b:Nat}
def S1 (S:Nat → Nat → Qi) (p q:Nat) (V:Nat → Qi × Qi) (a b:Nat):Qi:=S a b + (S a p * (V b).1 + S a q * (V b).2)
variable {V:Nat → Qi × Qi}
end
end
section
open Go Go.RowKit
def low (c a b:Nat):Nat:=c - (if a < c then 1 else 0) - (if b < c then 1 else 0)
def okP (N p q r t : Nat) : Bool :=
 decide ((iQ [p,q] N).length = N - 2) && decide (low r p q < N - 2) && decide (low t p q < N - 2) && decide (low r p q ≠ low t p q) && decide (gY (iQ [p,q] N) (low r p q) = r) && decide (gY (iQ [p,q] N) (low t p q) = t)
 && decide ((iQ [low r p q,low t p q] (N - 2)).map (gY (iQ [p,q] N)) = iQ [p,q,r,t] N) && decide ((iQ [p,q,r,t] N).length = N - 4) && decide (iQ [t,r,p,q] N = iQ [p,q,r,t] N) && decide (iQ [r,t,p,q] N = iQ [p,q,r,t] N)
theorem Iw {n p:Nat} {l:List Nat} (hp:p < n) (h:p ∉ l):gH n ((p + 1:Nat):Int) (l.map fun (x:Nat)=>((x + 1:Nat):Int)) = 0:=by
 rw [gH,if_neg (fun k=>k ⟨by omega,by omega⟩),if_neg]
 simp only [List.any_map,List.any_eq_true,Function.comp,decide_eq_true_eq]
 rintro ⟨x,hx,e⟩
 exact h ((show x = p by omega) ▸ hx)
section
variable {z:List Qi} {S:List (List Qi)} {N p q r t:Nat} {ζ:Qi}
theorem a6j {js:List (Int × Int)} {k:Nat} {a b:Nat} {l:List Nat} (hk:Ae js k = (((a + 1:Nat):Int),((b + 1:Nat):Int))) (hl:uF (js.take k) = l.map fun (x:Nat)=>((x + 1:Nat):Int)) (ha:a < z.length) (hb:b < z.length) (hal:a ∉ l) (hbl:b ∉ l) (hab:a ≠ b) (hz:gv z a = gv z b):Yf z js k = 0:=by
 have e2:(l.map fun (x:Nat)=>((x + 1:Nat):Int)) ++ [((a + 1:Nat):Int)] = (l ++ [a]).map fun (x:Nat)=>((x + 1:Nat):Int):=by simp
 rw [Yf,hk,hl]
 simp only []
 rw [e2,Iw ha hal,Iw hb (by simp only [List.mem_append,List.mem_singleton]; rintro (k | k); exact hbl k; exact hab k.symm),p1n,p1n,if_pos hz]; rfl
end
end
section
open Go Go.RowKit
def Gb (x:Qi) (N:Nat):Prop:=∃ p q:Int,x = Qi.mk (p:Rat) (q:Rat) ∧ p.natAbs ≤ N ∧ q.natAbs ≤ N
theorem Gb.le {x:Qi} {N M:Nat} (h:Gb x N) (k:N ≤ M):Gb x M:=by
 obtain ⟨p,q,e,h1,h2⟩:=h; exact ⟨p,q,e,by omega,by omega⟩
theorem Gb.add {x y:Qi} {N M:Nat} (h:Gb x N) (k:Gb y M):Gb (x + y) (N + M):=by
 obtain ⟨p,q,rfl,h1,h2⟩:=h; obtain ⟨r,s,rfl,k1,k2⟩:=k
 refine ⟨p + r,q + s,Qi.ext' ?_ ?_,by omega,by omega⟩
 ·show (p:Rat) + (r:Rat) = ((p + r:Int):Rat); push_cast; rfl
 ·show (q:Rat) + (s:Rat) = ((q + s:Int):Rat); push_cast; rfl
theorem Gb.neg {x:Qi} {N:Nat} (h:Gb x N):Gb (-x) N:=by
 obtain ⟨p,q,rfl,h1,h2⟩:=h
 refine ⟨-p,-q,Qi.ext' ?_ ?_,by omega,by omega⟩
 ·show -(p:Rat) = ((-p:Int):Rat); push_cast; rfl
 ·show -(q:Rat) = ((-q:Int):Rat); push_cast; rfl
theorem Gb.sub {x y:Qi} {N M:Nat} (h:Gb x N) (k:Gb y M):Gb (x - y) (N + M):=by rw [Qi.sub_def]; exact h.add k.neg
theorem sD {p q:Int} {N M:Nat} (h:p.natAbs ≤ N) (k:q.natAbs ≤ M):(p * q).natAbs ≤ N * M:=by rw [Int.natAbs_mul]; exact Nat.mul_le_mul h k
theorem Gb.mul {x y:Qi} {N M:Nat} (h:Gb x N) (k:Gb y M):Gb (x * y) (2 * N * M):=by
 obtain ⟨p,q,rfl,h1,h2⟩:=h; obtain ⟨r,s,rfl,k1,k2⟩:=k
 have a1:=sD h1 k1; have a2:=sD h2 k2; have a3:=sD h1 k2; have a4:=sD h2 k1
 have e:2 * N * M = N * M + N * M:=by rw [Nat.mul_assoc,Nat.two_mul]
 refine ⟨p * r - q * s,p * s + q * r,Qi.ext' ?_ ?_,by omega,by omega⟩
 ·rw [Qi.mul_re]; show (p:Rat) * (r:Rat) - (q:Rat) * (s:Rat) = ((p * r - q * s:Int):Rat); push_cast; rfl
 ·rw [Qi.mul_im]; show (p:Rat) * (s:Rat) + (q:Rat) * (r:Rat) = ((p * s + q * r:Int):Rat); push_cast; rfl
theorem Gb.sum {f : Nat → Qi} {N : Nat} : ∀ {n : Nat}, (∀ k, k < n → Gb (f k) N) → Gb (aF n f) (n * N)
 | 0,_=>⟨0,0,Qi.ext' rfl rfl,by simp,by simp⟩
 | n + 1, h => by
  rw [aF,Nat.succ_mul]
  exact (Gb.sum fun k hk=>h k zo).add (h n zo)
theorem Gb.fit {x:Qi} {N L:Nat} (h:Gb x N) (hN:N < BB ^ L) (hL:1 ≤ L):aE x L:=by
 obtain ⟨p,q,rfl,h1,h2⟩:=h
 have e:Qi.mk (p:Rat) (q:Rat) = Qi.mk' p q 1:=Qi.ext' (by rw [Qi.mk_re]; show (p:Rat) = p / ((1:Nat):Rat); grind) (by rw [Qi.mk_im]; show (q:Rat) = q / ((1:Nat):Rat); grind)
 rw [e]
 exact ⟨Qi.Fit.mk (by decide) zo zo (Qi.one_lt hL)⟩
theorem uA (n:Nat) (f:Nat → Qi):aF (n + 1) f = f 0 + aF n fun k=>f (k + 1):=by
 rw [Nat.add_comm n 1,tG,Gy]
 exact congrArg _ (aC fun k _=>by rw [Nat.add_comm])
def fs : Nat → Nat → Nat
 | 0,_=>1
 | n + 1,N=>2 * (n + 1) * N * fs n (4 * N * N)
theorem Rv {F:Nat → Nat → Qi} {n:Nat} {x:Nat → Qi}:zK F (n + 1) (n + 1) x ↔ (F 0 0 * x 0 + aF n (fun k=>F 0 (k + 1) * x (k + 1)) = 0) ∧ ∀ i,i < n → F (i + 1) 0 * x 0 + aF n (fun k=>F (i + 1) (k + 1) * x (k + 1)) = 0:=by
 constructor
 ·intro h
  exact ⟨by have:=h 0 zo; rwa [uA] at this,fun i hi=>by have:=h (i + 1) zo; rwa [uA] at this⟩
 ·rintro ⟨h1, h2⟩ i hi
  rw [uA]
  cases i with
  | zero=>exact h1
  | succ i=>exact h2 i zo
theorem Pz (n:Nat) (a b:Qi) (f g x:Nat → Qi):aF n (fun k=>(a * f k - b * g k) * x k) = a * aF n (fun k=>f k * x k) - b * aF n (fun k=>g k * x k):=by
 induction n with
 | zero=>simp only [aF,q0]; grind
 | succ n ih=>simp only [aF,ih]; grind
theorem Cd (n:Nat) (a:Qi) (f x:Nat → Qi):aF n (fun k=>f k * (x k * a)) = a * aF n (fun k=>f k * x k):=by
 induction n with
 | zero=>simp only [aF,q0]; grind
 | succ n ih=>simp only [aF,ih]; grind
theorem a3b {F : Nat → Nat → Qi} {n N : Nat} (hp : F 0 0 ≠ 0) (hN : 1 ≤ N) (hF : ∀ i, i < n + 1 → ∀ j, j ≤ n + 1 → Gb (F i j) N) (hk : ∀ v, zK F (n + 1) (n + 1) v → ∀ k, k < n + 1 → v k = 0)
  (ih:∀ G:Nat → Nat → Qi,(∀ i,i < n → ∀ j,j ≤ n → Gb (G i j) (4 * N * N)) → (∀ v,zK G n n v → ∀ k,k < n → v k = 0) → ∃ (y:Nat → Qi) (e:Qi),e ≠ 0 ∧ Gb e (fs n (4 * N * N)) ∧ (∀ k,k < n → Gb (y k) (fs n (4 * N * N))) ∧ ∀ i,i < n → aF n (fun k=>G i k * y k) = e * G i n) :
  ∃ (y:Nat → Qi) (e:Qi),e ≠ 0 ∧ Gb e (fs (n + 1) N) ∧ (∀ k,k < n + 1 → Gb (y k) (fs (n + 1) N)) ∧ ∀ i,i < n + 1 → aF (n + 1) (fun k=>F i k * y k) = e * F i (n + 1):=by
 obtain ⟨y, e, he, ge, gy, hy⟩ := ih (fun i j => F 0 0 * F (i + 1) (j + 1) - F (i + 1) 0 * F 0 (j + 1)) (fun i hi j hj => by
   have h1:=(hF 0 zo 0 zo).mul (hF (i + 1) zo (j + 1) zo)
   have h2:=(hF (i + 1) zo 0 zo).mul (hF 0 zo (j + 1) zo)
   exact (h1.sub h2).le (by rw [show 4 * N * N = 2 * N * N + 2 * N * N by rw [← Nat.add_mul]; congr 1; omega]; exact Nat.le_refl _)) (fun v hv k hkn=>by
   have hz := hk (fun k => if k = 0 then -(aF n fun k => F 0 (k + 1) * v k) else F 0 0 * v (k - 1)) (Rv.2 ⟨by
    simp only [if_true,Nat.add_sub_cancel,if_neg (Nat.succ_ne_zero _)]
    have:=Cd n (F 0 0) (fun k=>F 0 (k + 1)) v
    simp only [Qi.mul_comm' _ (F 0 0)] at this ⊢
    rw [this]; grind,fun i hi=>by
    simp only [if_true,Nat.add_sub_cancel,if_neg (Nat.succ_ne_zero _)]
    have:=Cd n (F 0 0) (fun k=>F (i + 1) (k + 1)) v
    simp only [Qi.mul_comm' _ (F 0 0)] at this ⊢
    rw [this]
    have h:=hv i hi
    have h2:=Pz n (F 0 0) (F (i + 1) 0) (fun k=>F (i + 1) (k + 1)) (fun k=>F 0 (k + 1)) v
    simp only [] at h
    rw [h2] at h
    grind⟩) (k + 1) zo
   simp only [Nat.add_sub_cancel,if_neg (Nat.succ_ne_zero _)] at hz
   rcases jL hz with h | h
   ·exact absurd h hp
   ·exact h)
 have hf1 : 1 ≤ fs n (4 * N * N) := by
  apply Decidable.byContradiction; intro h
  have h0:fs n (4 * N * N) = 0:=by omega
  rw [h0] at ge
  obtain ⟨p,q,e1,p1,p2⟩:=ge
  have hp0:p = 0:=by omega
  have hq0:q = 0:=by omega
  exact he (by rw [e1,hp0,hq0]; exact Qi.ext' rfl rfl)
 have hG : fs (n + 1) N = (n + 1) * (2 * fs n (4 * N * N) * N) := by
  rw [fs]; simp only [Nat.mul_comm,Nat.mul_left_comm,Nat.mul_assoc]
 have hG1:2 * fs n (4 * N * N) * N ≤ fs (n + 1) N:=by rw [hG]; exact Nat.le_mul_of_pos_left _ zo
 refine ⟨fun k=>if k = 0 then e * F 0 (n + 1) - aF n (fun k=>F 0 (k + 1) * y k) else y (k - 1) * F 0 0,e * F 0 0,fun h=>?_,?_,fun k hkn=>?_,fun i hi=>?_⟩
 ·rcases jL h with h | h
  ·exact he h
  ·exact hp h
 ·exact (ge.mul (hF 0 zo 0 zo)).le hG1
 ·cases k with
  | zero =>
   simp only [if_true]
   have h1:=ge.mul (hF 0 zo (n + 1) zo)
   have h2:Gb (aF n fun k=>F 0 (k + 1) * y k) (n * (2 * N * fs n (4 * N * N))):=Gb.sum fun k hk=>(hF 0 zo (k + 1) zo).mul (gy k hk)
   refine (h1.sub h2).le ?_
   have e3:n * (2 * N * fs n (4 * N * N)) = n * (2 * fs n (4 * N * N) * N):=by simp only [Nat.mul_comm,Nat.mul_left_comm,Nat.mul_assoc]
   have e4:(n + 1) * (2 * fs n (4 * N * N) * N) = n * (2 * fs n (4 * N * N) * N) + 2 * fs n (4 * N * N) * N:=Nat.succ_mul _ _
   rw [hG,e3,e4,Nat.add_comm]; exact Nat.le_refl _
  | succ k =>
   simp only [Nat.add_sub_cancel,if_neg (Nat.succ_ne_zero _)]
   exact ((gy k zo).mul (hF 0 zo 0 zo)).le hG1
 ·rw [uA]
  simp only [if_true,Nat.add_sub_cancel,if_neg (Nat.succ_ne_zero _)]
  rw [Cd n (F 0 0) (fun k=>F i (k + 1)) y]
  cases i with
  | zero=>grind
  | succ i =>
   have h:=hy i zo
   have h2:=Pz n (F 0 0) (F (i + 1) 0) (fun k=>F (i + 1) (k + 1)) (fun k=>F 0 (k + 1)) y
   rw [h2] at h
   grind
theorem a0X : ∀ (n N : Nat) (F : Nat → Nat → Qi), 1 ≤ N → (∀ i, i < n → ∀ j, j ≤ n → Gb (F i j) N) → (∀ v, zK F n n v → ∀ k, k < n → v k = 0) →
  ∃ (y:Nat → Qi) (e:Qi),e ≠ 0 ∧ Gb e (fs n N) ∧ (∀ k,k < n → Gb (y k) (fs n N)) ∧ ∀ i,i < n → aF n (fun k=>F i k * y k) = e * F i n
 | 0,N,F,_,_,_=>⟨fun _=>0,1,fun h=>by have:=congrArg Qi.re h; revert this; decide,⟨1,0,Qi.ext' rfl rfl,by simp [fs],by simp [fs]⟩,fun k hk=>by omega,fun i hi=>by omega⟩
 | n + 1, N, F, hN, hF, hk => by
  have hpz : ∃ p, p < n + 1 ∧ F p 0 ≠ 0 := by
   apply Classical.byContradiction; intro hno
   have hz : ∀ p, p < n + 1 → F p 0 = 0 := fun p hp => by
    apply Classical.byContradiction; intro h; exact hno ⟨p,hp,h⟩
   have := hk (fun k => if k = 0 then 1 else 0) (fun i hi => by
    rw [gU]
    intro k hk
    by_cases e:k = 0
    ·subst e; rw [hz i hi]; grind
    ·simp only [if_neg e]; grind) 0 zo
   simp only [if_true] at this
   have:=congrArg Qi.re this; revert this; decide
  obtain ⟨p,hp,hpz⟩:=hpz
  have hN4:1 ≤ 4 * N * N:=Nat.mul_pos zo zo
  obtain ⟨y, e, he, ge, gy, hy⟩ := a3b (F := fun i => F (Wp p 0 i)) (n := n) (N := N) (by simpa [Wp] using hpz) hN (fun i hi j hj => hF _ (Mb hp zo hi) j hj)
   (fun v hv=>hk v ((Oh hp zo).1 hv)) (fun G hG hGk=>a0X n (4 * N * N) G hN4 hG hGk)
  refine ⟨y,e,he,ge,gy,fun i hi=>?_⟩
  have:=hy (Wp p 0 i) (Mb hp zo hi)
  simp only [Wq] at this
  exact this
theorem a3e {N:Nat}:∀ {n:Nat},n ≤ 4 → 1 ≤ N → fs n N ≤ 1610612736 * N ^ 15:=by
 intro n hn hN
 have hp:∀ k,k ≤ 15 → N ^ k ≤ N ^ 15:=fun k hk=>Nat.pow_le_pow_right hN hk
 have h0:=hp 0 zo; have h1:=hp 1 zo; have h3:=hp 3 zo; have h7:=hp 7 zo
 match n,hn with
 | 0,_=>rw [fs]; rw [Nat.pow_zero] at h0; omega
 | 1,_=>simp only [fs]; rw [show 2 * (0 + 1) * N * 1 = 2 * N ^ 1 by grind]; omega
 | 2,_=>simp only [fs]; rw [show 2 * (1 + 1) * N * (2 * (0 + 1) * (4 * N * N) * 1) = 32 * N ^ 3 by grind]; omega
 | 3,_=>simp only [fs]; rw [show 2 * (2 + 1) * N * (2 * (1 + 1) * (4 * N * N) * (2 * (0 + 1) * (4 * (4 * N * N) * (4 * N * N)) * 1)) = 12288 * N ^ 7 by grind]; omega
 | 4,_=>simp only [fs]; rw [show 2 * (3 + 1) * N * (2 * (2 + 1) * (4 * N * N) * (2 * (1 + 1) * (4 * (4 * N * N) * (4 * N * N)) * (2 * (0 + 1) * (4 * (4 * (4 * N * N) * (4 * N * N)) * (4 * (4 * N * N) * (4 * N * N))) * 1))) = 1610612736 * N ^ 15 by grind]; omega
theorem Ui (x:Qi):((x.den:Int):Rat) * x.re = (x.a:Rat) ∧ ((x.den:Int):Rat) * x.im = (x.b:Rat):=by
 have h:=Qi.nc x.den_pos
 have h2:((x.den:Int):Rat) = (x.den:Rat):=by push_cast; rfl
 rw [h2]
 exact ⟨by rw [Qi.re_eq x]; grind,by rw [Qi.im_eq x]; grind⟩
theorem Ly {L : Nat} {x : Nat → Qi} : ∀ k, (∀ j, j < k → aE (x j) L) → ∃ d : Nat, 0 < d ∧ d ≤ BB ^ (k * L) ∧ ∀ j, j < k → Gb (Qi.ofInt d * x j) (BB ^ (k * L))
 | 0,_=>⟨1,by decide,Nat.pow_pos fI,fun j hj=>by omega⟩
 | k + 1, h => by
  obtain ⟨d,d0,dl,hd⟩:=Ly k fun j hj=>h j zo
  have hx:=(h k zo).fit
  have hm:=Ui (x k)
  have hpow:BB ^ ((k + 1) * L) = BB ^ (k * L) * BB ^ L:=by rw [Nat.succ_mul,Nat.pow_add]
  refine ⟨d * (x k).den,Nat.mul_pos d0 (x k).den_pos,?_,fun j hj=>?_⟩
  ·rw [hpow]; exact Nat.mul_le_mul dl (Nat.le_of_lt hx.2.2)
  ·by_cases e : j = k
   ·subst e
    refine ⟨d * (x j).a,d * (x j).b,Qi.ext' ?_ ?_,?_,?_⟩
    ·rw [Qi.mul_re]
     show (((d * (x j).den:Nat):Int):Rat) * (x j).re - 0 * (x j).im = ((d * (x j).a:Int):Rat)
     have:=hm.1; push_cast at *; grind
    ·rw [Qi.mul_im]
     show (((d * (x j).den:Nat):Int):Rat) * (x j).im + 0 * (x j).re = ((d * (x j).b:Int):Rat)
     have:=hm.2; push_cast at *; grind
    ·rw [hpow]; exact sD (by simpa using dl) (Nat.le_of_lt hx.1)
    ·rw [hpow]; exact sD (by simpa using dl) (Nat.le_of_lt hx.2.1)
   ·obtain ⟨p, q, e1, h1, h2⟩ := hd j zo
    have er:=congrArg Qi.re e1; have ei:=congrArg Qi.im e1
    rw [Qi.mul_re] at er; rw [Qi.mul_im] at ei
    refine ⟨p * (x k).den,q * (x k).den,Qi.ext' ?_ ?_,?_,?_⟩
    ·rw [Qi.mul_re]
     have er:((d:Int):Rat) * (x j).re - 0 * (x j).im = (p:Rat):=er
     show (((d * (x k).den:Nat):Int):Rat) * (x j).re - 0 * (x j).im = ((p * (x k).den:Int):Rat)
     push_cast at *; grind
    ·rw [Qi.mul_im]
     have ei:((d:Int):Rat) * (x j).im + 0 * (x j).re = (q:Rat):=ei
     show (((d * (x k).den:Nat):Int):Rat) * (x j).im + 0 * (x j).re = ((q * (x k).den:Int):Rat)
     push_cast at *; grind
    ·rw [hpow]; exact sD h1 (by simpa using Nat.le_of_lt hx.2.2)
    ·rw [hpow]; exact sD h2 (by simpa using Nat.le_of_lt hx.2.2)
theorem Ox {d : Nat} (h : 0 < d) : Qi.ofInt d ≠ 0 := fun e => by
 have:=congrArg Qi.re e
 have h2:((d:Int):Rat) = ((0:Int):Rat):=this
 rw [Rat.intCast_inj] at h2; omega
end
section
open Go Go.RowKit
theorem a29 {M:List (List Qi)} {b:List Qi} {n m L K:Nat} (h:cI M n n) (hM:bA M L) (hb:cB b L) (hL:1 ≤ L) (hn:n ≤ m) (hbig:fs n (BB ^ ((m + 1) * L)) < BB ^ K) (hK:1 ≤ K) (hE:jX M b n = 0):cB (jY M b n) (4 * K + 2):=by
 obtain ⟨s1,s2⟩:=nE h hE
 have hrow : ∀ i, ∃ d : Nat, 0 < d ∧ ∀ j, j < n + 1 → Gb (Qi.ofInt d * (if j < n then gm M i j else gv b i)) (BB ^ ((m + 1) * L)) := fun i => by
  obtain ⟨d, d0, _, hd⟩ := Ly (L := L) (x := fun j => if j < n then gm M i j else gv b i) (n + 1) fun j _ => by
   show aE (if j < n then gm M i j else gv b i) L
   split
   ·exact hM.get hL i j
   ·exact hb.get hL i
  exact ⟨d,d0,fun j hj=>(hd j hj).le (Nat.pow_le_pow_right fI (Nat.mul_le_mul_right _ zo))⟩
 have hd:∃ d:Nat → Nat,∀ i,0 < d i ∧ ∀ j,j < n + 1 → Gb (Qi.ofInt (d i) * (if j < n then gm M i j else gv b i)) (BB ^ ((m + 1) * L)):=⟨fun i=>Classical.choose (hrow i),fun i=>Classical.choose_spec (hrow i)⟩
 obtain ⟨d,hd⟩:=hd
 have cancel : ∀ {i : Nat} {u : Qi}, Qi.ofInt (d i) * u = 0 → u = 0 := fun {i u} hu => by
  rcases jL hu with k | k
  ·exact absurd k (Ox (hd i).1)
  ·exact k
 have hsum : ∀ (i : Nat) (v : Nat → Qi), aF n (fun k => Qi.ofInt (d i) * (if k < n then gm M i k else gv b i) * v k) = Qi.ofInt (d i) * aF n (fun k => gm M i k * v k) := fun i v => by
  rw [Qi.mul_comm',← gM]
  exact aC fun k hk=>by rw [if_pos hk]; grind
 have hN:1 ≤ BB ^ ((m + 1) * L):=Nat.pow_pos fI
 obtain ⟨y, e, he, ge, gy, hy⟩ := a0X n (BB ^ ((m + 1) * L)) (fun i j => Qi.ofInt (d i) * (if j < n then gm M i j else gv b i)) hN (fun i _ j hj => (hd i).2 j zo) (fun v hv => s2 v fun i hi => by
  have:=hv i hi
  simp only [] at this
  rw [hsum] at this
  exact cancel this)
 have hsol : ∀ k, k < n → y k - e * gv (jY M b n) k = 0 := s2 (fun k => y k - e * gv (jY M b n) k) fun i hi => by
  have h1:=hy i hi
  rw [hsum,if_neg zo] at h1
  have h2:=s1 i hi
  have h3 : aF n (fun k => gm M i k * (y k - e * gv (jY M b n) k)) = aF n (fun k => gm M i k * y k) - e * aF n (fun k => gm M i k * gv (jY M b n) k) := by
   rw [← pW]; exact aC fun k _=>by grind
  rw [h3,h2]
  exact cancel (i:=i) (by grind)
 intro x hx
 obtain ⟨k,hk,rfl⟩:=List.mem_iff_getElem.1 hx
 rw [Gw] at hk
 have hg:(jY M b n)[k] = gv (jY M b n) k:=by simp [gv,List.getD,Gw,hk]
 rw [hg]
 have e1:gv (jY M b n) k = y k / e:=(Kv he (by have:=hsol k hk; grind)).symm
 haveI f1:aE (y k) K:=(gy k hk).fit hbig hK
 haveI f2:aE e K:=ge.fit hbig hK
 rw [e1]
 exact (fitDiv (x:=y k) (y:=e)).le zo
end
section
open Go Go.RowKit
def ixG (l : List Nat) (p : Nat) : Nat → Int
 | 0=>-1
 | k + 1=>if l.getD (l.length - (k + 1)) 0 = p then ((l.length - (k + 1):Nat):Int) else ixG l p k
def Vb (l:List Nat) (p:Nat):Int:=ixG l p l.length
theorem a52 (l : List Nat) (p : Nat) : ∀ k, ixG l p k = -1 ∨ (0 ≤ ixG l p k ∧ (ixG l p k).toNat < l.length ∧ l.getD (ixG l p k).toNat 0 = p) ∨ l.length < k
 | 0=>.inl rfl
 | k + 1 => by
  rw [ixG]
  by_cases c:l.length < k + 1
  ·exact .inr (.inr c)
  ·by_cases e : l.getD (l.length - (k + 1)) 0 = p
   ·rw [if_pos e]; exact .inr (.inl ⟨by omega,by rw [Int.toNat_natCast]; omega,by rw [Int.toNat_natCast]; exact e⟩)
   ·rw [if_neg e]
    rcases a52 l p k with h | h | h
    ·exact .inl h
    ·exact .inr (.inl h)
    ·omega
theorem a51 (l:List Nat) (p:Nat):Vb l p = -1 ∨ (0 ≤ Vb l p ∧ (Vb l p).toNat < l.length ∧ l.getD (Vb l p).toNat 0 = p):=by
 rcases a52 l p l.length with h | h | h
 ·exact .inl h
 ·exact .inr h
 ·omega
theorem a1c {l : List Nat} {p : Nat} : ∀ {k : Nat}, k ≤ l.length → ixG l p k < 0 → ∀ x, l.length - k ≤ x → x < l.length → l.getD x 0 ≠ p
 | 0,_,_,x,h1,h2=>by omega
 | k + 1, hk, h, x, h1, h2 => by
  rw [ixG] at h
  by_cases e:l.getD (l.length - (k + 1)) 0 = p
  ·rw [if_pos e] at h; omega
  ·rw [if_neg e] at h
   by_cases c:x = l.length - (k + 1)
   ·rw [c]; exact e
   ·exact a1c (k:=k) zo h x zo h2
theorem Vc {l:List Nat} {p:Nat}:0 ≤ Vb l p ↔ p ∈ l:=by
 constructor
 ·intro h
  rcases a51 l p with k | ⟨_,k1,k2⟩
  ·omega
  ·rw [← k2,show l.getD (Vb l p).toNat 0 = l[(Vb l p).toNat] by simp [List.getD,k1]]; exact List.getElem_mem k1
 ·intro h
  apply Classical.byContradiction; intro hn
  obtain ⟨x,hx,e⟩:=List.getElem_of_mem h
  exact a1c (l:=l) (p:=p) (Nat.le_refl _) (show ixG l p l.length < 0 by have:¬ 0 ≤ ixG l p l.length:=hn; omega) x zo hx (by rw [show l.getD x 0 = l[x] by simp [List.getD,hx]]; exact e)
def jnO (js:List (Int × Int)):List Nat:=tab (2 * js.length) fun x=>gq (iS js) (qA x)
def gnV (S:List (List Qi)) (js:List (Int × Int)) (x:Nat):List Qi:=jY (xL S (iS js) (2 * js.length)) (ek (2 * js.length) x) (2 * js.length)
def gnB (i k:Nat):Qi:=if k = i then Qi.ofInt 1 else Qi.ofInt 0
def Br (S:List (List Qi)) (js:List (Int × Int)) (i k:Nat):Qi:=if 0 ≤ Vb (jnO js) k then gnB i k + aF (2 * js.length) (fun y=>gm S i (gq (iS js) y) * gv (gnV S js (Vb (jnO js) k).toNat) y) else gnB i k
def Mf (S:List (List Qi)) (js:List (Int × Int)) (N:Nat):List (List Qi):=(iQ (pZ js) N).map fun i=>tab N fun k=>Br S js i k
end
section
open Go Go.RowKit
def Zo (s:List (List Qi)) (g:Qi) (p:Nat):Qi:=Qi.ofInt 1 - gm s p p * g
def ntH (s:List (List Qi)) (g:Qi) (p:Nat):Qi:=Qi.ofInt 1 / Zo s g p
def Gh (s:List (List Qi)) (g:Qi) (p n i:Nat):List Qi:=((tab n fun _=>Qi.zero).set i (Qi.ofInt 1)).set p (gm s i p * jZ s p g)
def Dc (s:List (List Qi)) (g:Qi) (p n k:Nat):List (List Qi):=(iQ [p] k).map (Gh s g p n)
def Jd (s:List (List Qi)) (g:Qi) (p k:Nat):List Qi:=(iQ [p] k).map fun i=>gm s i p * ntH s g p
def ntR (z:List Qi) (g t:Qi) (p:Nat):Qi:=t * gv z p * (Qi.ofInt 1 - g * g.conj)
def ntX (z:List Qi) (s c:List (List Qi)) (g t:Qi) (p a b:Nat):Qi:=gm (iZ (Dc s g p z.length z.length) c) a b + ntR z g t p * (gv (Jd s g p z.length) a * (gv (Jd s g p z.length) b).conj)
def ntC (z:List Qi) (s c:List (List Qi)) (g t:Qi) (p:Nat):List (List Qi):=tab (z.length - 1) fun a=>tab (z.length - 1) fun b=>ntX z s c g t p a b
def Qh (z:List Qi) (s:List (List Qi)) (port:Int) (g t:Qi):Int:=if lB t = 0 then rO z s port g else lB t
def ntZ (z:List Qi) (s:List (List Qi)) (port:Int) (g t:Qi):List Qi:=dA (Qh z s port g t) (yC z (port - 1).toNat (z.length - 1))
def ntS (z:List Qi) (s:List (List Qi)) (port:Int) (g t:Qi):List (List Qi):=dA (Qh z s port g t) (Ch s (port - 1).toNat (z.length - 1) (jZ s (port - 1).toNat g))
def ntQ (z:List Qi) (s c:List (List Qi)) (port:Int) (g t:Qi):List (List Qi):=dA (Qh z s port g t) (ntC z s c g t (port - 1).toNat)
theorem Ah {p n:Nat} (h:p < n):(iQ [p] n).length = n - 1:=by rw [tT,aN,xC h]
theorem Qd {z:List Qi} {s:List (List Qi)} {port:Int} {g:Qi} (h:rO z s port g = 0):(1 ≤ port ∧ port ≤ z.length) ∧ z.length ≠ 1 ∧ Zo s g (port - 1).toNat ≠ 0:=by
 rw [rO] at h
 by_cases c1:1 ≤ port ∧ port ≤ z.length
 ·rw [if_neg (fun k => k c1)] at h
  by_cases c2:z.length = 1
  ·rw [if_pos c2] at h; omega
  ·rw [if_neg c2] at h
   by_cases c3:Qi.ofInt 1 - gm s (port - 1).toNat (port - 1).toNat * g = Qi.zero
   ·rw [if_pos c3] at h; omega
   ·exact ⟨c1,c2,c3⟩
 ·rw [if_pos c1] at h; omega
theorem a68 {f:Nat → Qi} {l:List Nat} {a:Nat} (h:a < l.length):gv (l.map f) a = f (gY l a):=by simp [gv,gY,List.getD,h]
theorem Ro {f:Nat → List Qi} {l:List Nat} {a k:Nat} (h:a < l.length):gm (l.map f) a k = gv (f (gY l a)) k:=by simp [gm,gY,List.getD,h]
section
variable {z:List Qi} {s c:List (List Qi)} {g t:Qi} {p:Nat}
theorem Ov {n i k:Nat} (hi:i < n) (hp:p < n) (hk:k < n):gv (Gh s g p n i) k = if k = p then gm s i p * jZ s p g else if k = i then Qi.ofInt 1 else Qi.zero:=by
 rw [Gh,uV (by rw [List.length_set,aN]; exact hp)]
 by_cases e:k = p
 ·rw [if_pos e,if_pos e]
 ·rw [if_neg e, if_neg e, uV (by rw [aN]; exact hi)]
  by_cases e2:k = i
  ·rw [if_pos e2,if_pos e2]
  ·rw [if_neg e2,if_neg e2,gP hk]
theorem Vr (s:List (List Qi)) (g:Qi) {n:Nat} (h:p < n):cI (Dc s g p n n) (n - 1) n:=by
 refine ⟨by rw [Dc,List.length_map,Ah h],fun r hr=>?_⟩
 obtain ⟨i,_,rfl⟩:=List.mem_map.1 hr
 rw [Gh,List.length_set,List.length_set,aN]
theorem a4A {S : List (List Qi)} {n x : Nat} {d sp : Qi} (hnp : gm S n p = 0) (hnn : gm S n n = g) (hpn : gm S p n = 0) (hpp : gm S p p = sp) (hd : d = 1 - sp * g) (hd0 : d ≠ 0) (hx : x < 2) :
  gv (gnV S (J1 p n) x) 0 = (if x = 0 then 1 / d else g / d):=by
 have hk : a5g (gm S) p n := fun v0 v1 h0 h1 => by
  rw [hnp,hnn] at h0
  rw [hpp,hpn] at h1
  have e:v1 * d = 0:=by rw [hd]; grind
  rcases jL e with k | k
  ·exact ⟨by rw [h0,k]; grind,k⟩
  ·exact absurd k hd0
 have hE:jX (xL S [(p,n)] 2) (ek 2 x) 2 = 0:=Vu.2 hk
 have hs:=(nE (Af S [(p,n)] 2) hE).1
 have hgn:gnV S (J1 p n) x = jY (xL S [(p,n)] 2) (ek 2 x) 2:=by rw [gnV,a3s]; rfl
 rw [hgn]
 obtain ⟨r0,r1⟩:=a6K (S:=S) (p:=p) (q:=n) (v:=gv (jY (xL S [(p,n)] 2) (ek 2 x) 2))
 have h0:=hs 0 zo
 have h1:=hs 1 zo
 rw [r0,hnp,hnn] at h0
 rw [r1,hpp,hpn] at h1
 generalize gv (jY (xL S [(p,n)] 2) (ek 2 x) 2) 0 = v0 at *
 generalize gv (jY (xL S [(p,n)] 2) (ek 2 x) 2) 1 = v1 at *
 have c:x = 0 ∨ x = 1:=by omega
 rcases c with rfl | rfl
 ·rw [if_pos rfl]
  rw [show gv (ek 2 0) 0 = 1 from rfl] at h0
  rw [show gv (ek 2 0) 1 = 0 from rfl] at h1
  exact (Kv hd0 (by rw [hd]; grind)).symm
 ·rw [if_neg (by decide)]
  rw [show gv (ek 2 1) 0 = 0 from rfl] at h0
  rw [show gv (ek 2 1) 1 = 1 from rfl] at h1
  exact (Kv hd0 (by rw [hd]; grind)).symm
abbrev jP (s:List (List Qi)) (g:Qi) (n:Nat):List (List Qi):=tF s [[g]] n 1
theorem Tp {n:Nat} (hp:p < n):gm (jP s g n) n p = 0 ∧ gm (jP s g n) n n = g ∧ gm (jP s g n) p n = 0 ∧ gm (jP s g n) p p = gm s p p:=by
 refine ⟨?_,?_,?_,?_⟩
 ·rw [iE zo zo,if_neg zo,if_neg zo]; rfl
 ·rw [iE zo zo,if_neg zo,if_pos zo,Nat.sub_self]; rfl
 ·rw [iE zo zo,if_pos hp,if_neg zo]; rfl
 ·rw [iE zo zo,if_pos hp,if_pos hp]
theorem a83 {n:Nat}:jnO (J1 p n) = [n,p]:=by
 have e:jnO (J1 p n) = [gq (iS (J1 p n)) (qA 0),gq (iS (J1 p n)) (qA 1)]:=rfl
 rw [e,a3s]; rfl
theorem a6e {n k:Nat} (hpn:p ≠ n):Vb [n,p] k = if k = n then 0 else if k = p then 1 else -1:=by
 have e:Vb [n,p] k = if n = k then ((0:Nat):Int) else if p = k then ((1:Nat):Int) else -1:=rfl
 rw [e]
 by_cases c:k = n
 ·rw [if_pos c.symm,if_pos c]; rfl
 ·rw [if_neg (Ne.symm c), if_neg c]
  by_cases c2:k = p
  ·rw [if_pos c2.symm,if_pos c2]; rfl
  ·rw [if_neg (Ne.symm c2),if_neg c2]
theorem Uv {n i k:Nat} (hp:p < n) (hi:i < n) (hip:i ≠ p) (hk:k < n + 1) (hd:Zo s g p ≠ 0):Br (jP s g n) (J1 p n) i k = if k < n then gv (Gh s g p n i) k else gm s i p * ntH s g p:=by
 obtain ⟨b1,b2,b3,b4⟩:=Tp (s:=s) (g:=g) hp
 have hin:gm (jP s g n) i n = 0:=by rw [iE zo zo,if_pos hi,if_neg zo]; rfl
 have hip2:gm (jP s g n) i p = gm s i p:=by rw [iE zo zo,if_pos hi,if_pos hp]
 have hdd:Zo s g p = 1 - gm s p p * g:=rfl
 have sol:=fun x (hx:x < 2)=>a4A (S:=jP s g n) (x:=x) b1 b2 b3 b4 hdd hd hx
 have hsum : ∀ v : List Qi, aF (2 * (J1 p n).length) (fun y => gm (jP s g n) i (gq (iS (J1 p n)) y) * gv v y) = gm s i p * gv v 0 := fun v => by
  show aF 2 (fun y=>gm (jP s g n) i (gq (iS (J1 p n)) y) * gv v y) = _
  rw [Ss,a3s,show gq [(p,n)] 0 = p from rfl,show gq [(p,n)] 1 = n from rfl,hin,hip2]; grind
 rw [Br,a83,a6e zo]
 by_cases c:k = n
 ·rw [if_pos c, if_pos (by decide), hsum, gnB, if_neg zo, if_neg zo]
  rw [show (0:Int).toNat = 0 from rfl,sol 0 zo,if_pos rfl]
  show Qi.ofInt 0 + gm s i p * (1 / Zo s g p) = gm s i p * ntH s g p
  rw [show ntH s g p = 1 / Zo s g p from rfl,show Qi.ofInt 0 = (0:Qi) from rfl]; grind
 ·rw [if_neg c, if_pos (show k < n by omega), Ov hi hp zo]
  by_cases c2:k = p
  ·rw [if_pos c2, if_pos (by decide), hsum, gnB, if_neg zo, if_pos c2]
   rw [show (1:Int).toNat = 1 from rfl,sol 1 zo,if_neg (by decide)]
   rw [show jZ s p g = g / Zo s g p from rfl,show Qi.ofInt 0 = (0:Qi) from rfl]; grind
  ·rw [if_neg c2,if_neg (by decide),gnB,if_neg c2]; rfl
theorem Lf {n:Nat} (hp:p < n):iQ (pZ (J1 p n)) (n + 1) = iQ [p] n:=by
 rw [a7D,iQ,if_pos (by simp),List.append_nil]
 have : ∀ k, k ≤ n → iQ [p, n] k = iQ [p] k := fun k => by
  induction k with
  | zero=>intro _; rfl
  | succ k ih =>
   intro hk
   rw [iQ,iQ,ih zo]
   have e:(k ∈ [p,n]) ↔ (k ∈ [p]):=by simp; omega
   by_cases c:k ∈ [p]
   ·rw [if_pos c,if_pos (e.2 c)]
   ·rw [if_neg c,if_neg fun h=>c (e.1 h)]
 exact this n (Nat.le_refl n)
theorem kD (n:Nat) (f:Nat → Qi):aF (n + 1) f = aF n f + f n:=rfl
theorem a6s {n:Nat} {r:Qi} (hn:z.length = n) (hp:p < n) (hc:cI c n n) (hd:Zo s g p ≠ 0) (hr:r = ntR z g t p):iZ (Mf (jP s g n) (J1 p n) (n + 1)) (tF c [[r]] n 1) = ntC z s c g t p:=by
 have hl:(Mf (jP s g n) (J1 p n) (n + 1)).length = n - 1:=by rw [Mf,List.length_map,Lf hp,Ah hp]
 have lG:=Ah hp
 have hq : ∀ a, a < n - 1 → gY (iQ [p] n) a < n ∧ gY (iQ [p] n) a ≠ p := fun a ha => by
  refine ⟨rL (fun x hx=>Le hx) zo,?_⟩
  rw [tT,tH (by rw [xC hp]; exact ha)]
  unfold mR; split <;> omega
 have hP : ∀ a k, a < n - 1 → k < n + 1 → gm (Mf (jP s g n) (J1 p n) (n + 1)) a k = if k < n then gm (Dc s g p n n) a k else gv (Jd s g p n) a := fun a k ha hk => by
  rw [Mf,Lf hp,Ro zo,gP hk,Uv hp (hq a ha).1 (hq a ha).2 hk hd,Dc,Ro zo,Jd,a68 zo]
 have hcl:=hc.1
 have hsl:=(wQ c [[r]] n 1).1
 unfold iZ ntC
 rw [hl,hn,hsl]
 refine cE fun a ha=>cE fun b hb=>?_
 have e1 : yV (Mf (jP s g n) (J1 p n) (n + 1)) (tF c [[r]] n 1) (n + 1) a b = aF n (fun x => aF n fun y => pY (Dc s g p n n) c a b x y) + gv (Jd s g p n) a * r * (gv (Jd s g p n) b).conj := by
  rw [yV,kD]
  congr 1
  ·refine aC fun x hx => ?_
   rw [kD]
   have z0 : pY (Mf (jP s g n) (J1 p n) (n + 1)) (tF c [[r]] n 1) a b x n = 0 := by
    rw [pY,iE zo zo,if_pos hx,if_neg zo,q0]; grind
   rw [z0]
   have e2 : aF n (fun y => pY (Mf (jP s g n) (J1 p n) (n + 1)) (tF c [[r]] n 1) a b x y) = aF n fun y => pY (Dc s g p n n) c a b x y := aC fun y hy => by
    rw [pY,pY,iE zo zo,if_pos hx,if_pos hy,hP a x ha zo,hP b y hb zo,if_pos hx,if_pos hy]
   rw [e2]; grind
  ·rw [kD]
   have e2 : aF n (fun y => pY (Mf (jP s g n) (J1 p n) (n + 1)) (tF c [[r]] n 1) a b n y) = 0 := gU fun y hy => by
    rw [pY,iE zo zo,if_neg zo,if_neg zo,q0]; grind
   rw [e2,pY,hP a n ha zo,hP b n hb zo,if_neg zo,if_neg zo,iE zo zo,if_neg zo,if_pos (Nat.le_refl n),Nat.sub_self,show gm [[r]] 0 0 = r from rfl]
   grind
 rw [e1,ntX,hn]
 have hA:=Vr s g hp
 have e3 : gm (iZ (Dc s g p n n) c) a b = aF n (fun x => aF n fun y => pY (Dc s g p n n) c a b x y) := by
  rw [iZ,eR (by rw [hA.1]; exact ha) (by rw [hA.1]; exact hb),hcl]; rfl
 rw [e3,hr]; grind
theorem a1i {zp:Qi}:kR t (iG [zp] [[g]]) 1 = [[t * (zp * (Qi.ofInt 1 - g * g.conj))]]:=by
 have e:kR t (iG [zp] [[g]]) 1 = [[t * (zp - (Qi.zero + (Qi.zero + g * zp * g.conj)))]]:=rfl
 rw [e,q0,q1]
 have e2:t * (zp - (0 + (0 + g * zp * g.conj))) = t * (zp * (1 - g * g.conj)):=by grind
 rw [e2]
theorem a6k:t * (gv z p * (Qi.ofInt 1 - g * g.conj)) = ntR z g t p:=by rw [ntR]; grind
theorem a0g {n:Nat} (hp:p < n) (hd:Zo s g p ≠ 0):a5g (gm (jP s g n)) p n:=by
 obtain ⟨b1,b2,b3,b4⟩:=Tp (s:=s) (g:=g) hp
 intro v0 v1 h0 h1
 rw [b1,b2] at h0
 rw [b3,b4] at h1
 have e:v1 * Zo s g p = 0:=by rw [show Zo s g p = 1 - gm s p p * g from rfl]; grind
 rcases jL e with k | k
 ·exact ⟨by rw [h0,k]; grind,k⟩
 ·exact absurd k hd
theorem a2D {n : Nat} (hn : z.length = n) (hp : p < n) : jdE (z ++ [gv z p]) (J1 p n) = 0 := lD fun i hi => by
 obtain rfl:i = 0:=by simp at hi; omega
 refine a6j (l:=[]) rfl rfl (by rw [List.length_append]; omega) (by rw [List.length_append]; simp; omega) (by simp) (by simp) zo ?_
 have e1:gv (z ++ [gv z p]) p = gv z p:=by simp [gv,List.getD,List.getElem?_append_left (show p < z.length by omega)]
 have e2:gv (z ++ [gv z p]) n = gv z p:=by subst hn; simp [gv,List.getD]
 rw [e1,e2]
theorem Yk {n i : Nat} (hs : bA s 2) (hg : aE g 2) : cB (Gh s g p n i) 28 := fun x hx => by
 haveI:=hg
 haveI f0:=kS
 haveI f1:aE (gm s p p) 2:=hs.get (by decide) p p
 haveI f2:aE (gm s i p) 2:=hs.get (by decide) i p
 haveI f3:aE (Qi.ofInt 1 - gm s p p * g) 7:=(fitSub (x:=Qi.ofInt 1) (y:=gm s p p * g))
 rcases List.mem_or_eq_of_mem_set hx with h | h
 ·rcases List.mem_or_eq_of_mem_set h with k | k
  ·obtain ⟨_,_,rfl⟩:=fH.1 k; exact aE.zero (by decide)
  ·rw [k]; exact f0.le (by decide)
 ·rw [h]; exact (fitMul (x:=gm s i p) (y:=g / (Qi.ofInt 1 - gm s p p * g)):aE _ (2 + 25 + 1))
theorem a3M {n k : Nat} (hs : bA s 2) (hg : aE g 2) : bA (Dc s g p n k) 28 := fun r hr => by
 obtain ⟨i,_,rfl⟩:=List.mem_map.1 hr; exact Yk hs hg
theorem a3O {k : Nat} (hs : bA s 2) (hg : aE g 2) : cB (Jd s g p k) 27 := fun x hx => by
 obtain ⟨i,_,rfl⟩:=List.mem_map.1 hx
 haveI:=hg
 haveI f0:=kS
 haveI f1:aE (gm s p p) 2:=hs.get (by decide) p p
 haveI f2:aE (gm s i p) 2:=hs.get (by decide) i p
 haveI f3:aE (Qi.ofInt 1 - gm s p p * g) 7:=(fitSub (x:=Qi.ofInt 1) (y:=gm s p p * g))
 exact (fitMul (x:=gm s i p) (y:=Qi.ofInt 1 / (Qi.ofInt 1 - gm s p p * g)):aE _ (2 + 24 + 1))
theorem a3N (hz:cB z 2) (hg:aE g 2) (ht:aE t 2):aE (ntR z g t p) 13:=by
 haveI:=hg; haveI:=ht
 haveI f0:=kS
 haveI f1:aE (gv z p) 2:=hz.get (by decide) p
 exact (fitMul (x:=t * gv z p) (y:=Qi.ofInt 1 - g * g.conj))
end
end
section
open Go Go.RowKit
theorem Gd {A B C : List (List Qi)} {n : Nat} : iK (iK A B n n n) C n n n = iK A (iK B C n n n) n n n := gC gS gS fun i hi j hj => by
 rw [jV hi hj,jV hi hj]
 have e1 : aF n (fun t => gm (iK A B n n n) i t * gm C t j) = aF n fun t => aF n fun u => gm A i u * gm B u t * gm C t j := aC fun t ht => by
  rw [jV hi ht,← gM]
 have e2 : aF n (fun u => gm A i u * gm (iK B C n n n) u j) = aF n fun u => aF n fun t => gm A i u * gm B u t * gm C t j := aC fun u hu => by
  rw [jV hu hj,Qi.mul_comm',← gM]
  exact aC fun t _=>by grind
 rw [e1,e2,jO]
theorem uT {n i j:Nat} (hi:i < n) (hj:j < n):gm (tS n) i j = if i = j then 1 else 0:=Ba hi hj
theorem a0Q {n j i:Nat} (hi:i < n) (hj:j < n):gv (ek n j) i = if i = j then 1 else 0:=by
 have h:gv (ek n j) i = if j = i then 1 else 0:=uT (n:=n) hj hi
 rw [h]
 by_cases c:i = j
 ·rw [if_pos c,if_pos c.symm]
 ·rw [if_neg c,if_neg (Ne.symm c)]
theorem Va {M : List (List Qi)} {n : Nat} (h : cI M n n) (hE : oM M n = 0) : iK M (nN M n) n n n = tS n := gC gS (pI n) fun i hi j hj => by
 have hs:=(nE h (Ft hE j hj)).1 i hi
 rw [jV hi hj,uT hi hj,← a0Q hi hj,← hs]
 exact aC fun t ht=>by rw [show gm (nN M n) t j = gv (jY M (ek n j) n) t from eR ht hj]
theorem a3w {M X : List (List Qi)} {n : Nat} (h : iK X M n n n = tS n) {y : Nat → Qi} (hy : ∀ i, i < n → aF n (fun k => gm M i k * y k) = 0) : ∀ k, k < n → y k = 0 := fun k hk => by
 have e1:aF n (fun i=>gm X k i * aF n (fun t=>gm M i t * y t)) = 0:=gU fun i hi=>by rw [hy i hi]; grind
 have e2 : aF n (fun i => gm X k i * aF n (fun t => gm M i t * y t)) = aF n fun i => aF n fun t => gm X k i * gm M i t * y t := aC fun i _ => by
  rw [Qi.mul_comm',← gM]; exact aC fun t _=>by grind
 have e3 : aF n (fun t => aF n fun i => gm X k i * gm M i t * y t) = aF n fun t => gm (tS n) k t * y t := aC fun t ht => by
  rw [← h,jV hk ht,← gM]
 rw [e2,jO,e3] at e1
 rw [cF (i:=k) hk (fun t ht hne=>by rw [uT hk ht,if_neg (Ne.symm hne)]; grind),uT hk hk,if_pos rfl] at e1
 grind
theorem Lg {M X : List (List Qi)} {n : Nat} (hM : cI M n n) (h : iK X M n n n = tS n) : oM M n = 0 := lD fun k hk => by
 apply Classical.byContradiction; intro e
 obtain ⟨y,hy,k,hk,hne⟩:=Gx hM e
 exact hne (a3w h hy k hk)
theorem a1g {M X Y:List (List Qi)} {n:Nat} (hX:cI X n n) (hY:cI Y n n) (h:iK X M n n n = tS n) (k:iK M Y n n n = tS n):X = Y:=by
 rw [← Vn hX,← k,← Gd,h,Vm hY]
theorem Lw {M Y:List (List Qi)} {n:Nat} (hM:cI M n n) (hY:cI Y n n) (h:iK M Y n n n = tS n):iK Y M n n n = tS n:=by
 have e:=Lg hY h
 have r:=Va hY e
 rw [a1g hM (rG Y n) h r]; exact r
theorem a1b {M:List (List Qi)} {n:Nat} (h:cI M n n) (hE:oM M n = 0):iK (nN M n) M n n n = tS n:=Lw h (rG M n) (Va h hE)
theorem a4e {M Y:List (List Qi)} {n:Nat} (hM:cI M n n) (hY:cI Y n n) (h:iK M Y n n n = tS n):oM M n = 0:=Lg hM (Lw hM hY h)
theorem a6b {M X:List (List Qi)} {n:Nat} (hM:cI M n n) (hX:cI X n n) (h:iK X M n n n = tS n):oM M n = 0 ∧ nN M n = X:=by
 have e:=Lg hM h
 exact ⟨e,(a1g hX (rG M n) h (Va hM e)).symm⟩
def Ja (a:Qi) (A:List (List Qi)) (b:Qi) (B:List (List Qi)) (n:Nat):List (List Qi):=tab n fun i=>tab n fun j=>a * gm A i j + b * gm B i j
def rsM (d:Nat → Qi) (A:List (List Qi)) (n:Nat):List (List Qi):=tab n fun i=>tab n fun j=>d i * gm A i j
section
variable {a b:Qi} {A B C:List (List Qi)} {d e:Nat → Qi} {n:Nat}
theorem sA:cI (Ja a A b B n) n n:=cI.tab
theorem a4l:cI (rsM d A n) n n:=cI.tab
theorem rH {i j:Nat} (hi:i < n) (hj:j < n):gm (Ja a A b B n) i j = a * gm A i j + b * gm B i j:=eR hi hj
theorem Bz {i j:Nat} (hi:i < n) (hj:j < n):gm (rsM d A n) i j = d i * gm A i j:=eR hi hj
theorem Fx : iK (Ja a A b B n) C n n n = Ja a (iK A C n n n) b (iK B C n n n) n := gC gS sA fun i hi j hj => by
 rw [jV hi hj,rH hi hj,jV hi hj,jV hi hj,Qi.mul_comm' a,Qi.mul_comm' b,← gM,← gM,← lP]
 exact aC fun t ht=>by rw [rH hi ht]; grind
theorem a1p : iK C (Ja a A b B n) n n n = Ja a (iK C A n n n) b (iK C B n n n) n := gC gS sA fun i hi j hj => by
 rw [jV hi hj,rH hi hj,jV hi hj,jV hi hj,Qi.mul_comm' a,Qi.mul_comm' b,← gM,← gM,← lP]
 exact aC fun t ht=>by rw [rH ht hj]; grind
theorem a1X : iK (rsM d A n) C n n n = rsM d (iK A C n n n) n := gC gS a4l fun i hi j hj => by
 rw [jV hi hj,Bz hi hj,jV hi hj,Qi.mul_comm',← gM]
 exact aC fun t ht=>by rw [Bz hi ht]; grind
theorem a1h {a' b':Qi} {A' B':List (List Qi)} (h:∀ i,i < n → ∀ j,j < n → a * gm A i j + b * gm B i j = a' * gm A' i j + b' * gm B' i j):Ja a A b B n = Ja a' A' b' B' n:=gC sA sA fun i hi j hj=>by rw [rH hi hj,rH hi hj,h i hi j hj]
end
theorem q2:Qi.ofInt 2 = 2:=rfl
theorem a81:lG * 2 = 1:=a3l
theorem Yd {x y : Qi} {D N : List (List Qi)} {n : Nat} (hxy : x * y = 1) (h : iK N D n n n = tS n) : oM (Ja x D 0 D n) n = 0 ∧ nN (Ja x D 0 D n) n = Ja y N 0 N n := a6b sA sA (by
 rw [a1p,Fx,h]
 refine gC sA (pI n) fun i hi j hj=>?_
 rw [rH hi hj,rH hi hj]; grind)
theorem a6C {M:List (List Qi)} {n:Nat} (h:oM M n = 0):Lr M n = 0:=if_pos h
section
variable {z:List Qi} {s:List (List Qi)}
end
end
section
open Go Go.RowKit
theorem Ds {n C k : Nat} (h : ∀ N, 1 ≤ N → fs n N ≤ C * N ^ k) : ∀ N, 1 ≤ N → fs (n + 1) N ≤ 2 * (n + 1) * C * 4 ^ k * N ^ (2 * k + 1) := fun N hN => by
 have h4:1 ≤ 4 * N * N:=Nat.mul_pos zo zo
 have a:=h (4 * N * N) h4
 have e:(4 * N * N) ^ k = 4 ^ k * (N ^ k * N ^ k):=by rw [Nat.mul_pow,Nat.mul_pow,Nat.mul_assoc]
 have e2:N ^ (2 * k + 1) = N ^ k * N ^ k * N:=by rw [Nat.pow_succ,Nat.two_mul,Nat.pow_add]
 rw [fs,e2]
 refine Nat.le_trans (Nat.mul_le_mul_left _ a) ?_
 rw [e]
 refine Nat.le_of_eq ?_
 simp only [Nat.mul_comm,Nat.mul_left_comm,Nat.mul_assoc]
theorem Dq {n C k C' k' : Nat} (h : ∀ N, 1 ≤ N → fs n N ≤ C * N ^ k) (hC : C ≤ C') (hk : k ≤ k') : ∀ N, 1 ≤ N → fs n N ≤ C' * N ^ k' := fun N hN =>
 Nat.le_trans (h N hN) (Nat.mul_le_mul hC (Nat.pow_le_pow_right hN hk))
theorem a0Z {n:Nat} (hn:n ≤ 6):∀ N,1 ≤ N → fs n N ≤ (2 * 6 * (2 * 5 * 1610612736 * 4 ^ 15) * 4 ^ 31) * N ^ 63:=by
 have h4:∀ m,m ≤ 4 → ∀ N,1 ≤ N → fs m N ≤ 1610612736 * N ^ 15:=fun m hm N hN=>a3e hm hN
 have h5:∀ N,1 ≤ N → fs 5 N ≤ (2 * 5 * 1610612736 * 4 ^ 15) * N ^ 31:=Ds (h4 4 (Nat.le_refl 4))
 have h6:∀ N,1 ≤ N → fs 6 N ≤ (2 * 6 * (2 * 5 * 1610612736 * 4 ^ 15) * 4 ^ 31) * N ^ 63:=Ds h5
 by_cases a:n ≤ 4
 ·exact Dq (h4 n a) (by decide) (by decide)
 ·by_cases b : n = 5
  ·subst b; exact Dq h5 (by decide) (by decide)
  ·obtain rfl : n = 6 := by omega
   exact h6
theorem Sg {C m k M:Nat} (h:m + k = M) (hC:C < BB ^ k):C * BB ^ m < BB ^ M:=by
 subst h
 rw [Nat.pow_add,Nat.mul_comm (BB ^ m)]
 exact Nat.mul_lt_mul_of_pos_right hC (Nat.pow_pos fI)
section
variable {z:List Qi} {S c:List (List Qi)} {js:List (Int × Int)} {N:Nat}
def jnT (S:List (List Qi)) (js:List (Int × Int)):List (List Qi):=tab (2 * js.length) fun x=>tab (2 * js.length) fun y=>Mg x y - gm S (gq (iS js) (qA y)) (gq (iS js) x)
def jnV (S:List (List Qi)) (js:List (Int × Int)) (i:Nat):List Qi:=tab (2 * js.length) fun y=>gm S i (gq (iS js) y)
def Vf (S:List (List Qi)) (js:List (Int × Int)) (i:Nat):List Qi:=jY (jnT S js) (jnV S js i) (2 * js.length)
theorem Ag (S:List (List Qi)) (js:List (Int × Int)):cI (jnT S js) (2 * js.length) (2 * js.length):=cI.tab
theorem Rq {x y:Nat} (hx:x < 2 * js.length) (hy:y < 2 * js.length):gm (jnT S js) x y = gm (xL S (iS js) (2 * js.length)) y x:=by
 have e1:gm (jnT S js) x y = Mg x y - gm S (gq (iS js) (qA y)) (gq (iS js) x):=eR hx hy
 have e2:gm (xL S (iS js) (2 * js.length)) y x = (if y = x then Qi.ofInt 1 else Qi.ofInt 0) - gm S (gq (iS js) (qA y)) (gq (iS js) x):=eR hy hx
 rw [e1,e2,Mg]
 by_cases c:x = y
 ·rw [if_pos c,if_pos c.symm]
 ·rw [if_neg c,if_neg (Ne.symm c)]
theorem a3n {M:List (List Qi)} {n:Nat} (h:cI M n n) (hk:∀ b,jX M b n = 0):oM M n = 0:=lD fun k _=>hk _
theorem a2x {M : List (List Qi)} {n : Nat} (h : cI M n n) (hE : oM M n = 0) (hn : 1 ≤ n) : ∀ b, jX M b n = 0 := fun b => by
 have h0:=(Lz h).1 (Ft hE 0 zo)
 exact (Lz h).2 h0
theorem Rr (hk:∀ b,jX (xL S (iS js) (2 * js.length)) b (2 * js.length) = 0) (hn:1 ≤ 2 * js.length):∀ b,jX (jnT S js) b (2 * js.length) = 0:=by
 have hM:=Af S (iS js) (2 * js.length)
 have hE:=a3n hM hk
 have l:=a1b hM hE
 refine a2x (Ag S js) (a4e (Y:=tab (2 * js.length) fun x=>tab (2 * js.length) fun y=>gm (nN (xL S (iS js) (2 * js.length)) (2 * js.length)) y x) (Ag S js) cI.tab ?_) hn
 refine gC gS (pI _) fun i hi j hj=>?_
 have e:gm (iK (nN (xL S (iS js) (2 * js.length)) (2 * js.length)) (xL S (iS js) (2 * js.length)) (2 * js.length) (2 * js.length) (2 * js.length)) j i = gm (tS (2 * js.length)) j i:=by rw [l]
 rw [jV hj hi,uT hj hi] at e
 rw [jV hi hj,uT hi hj]
 have e2 : aF (2 * js.length) (fun t => gm (jnT S js) i t * gm (tab (2 * js.length) fun x => tab (2 * js.length) fun y => gm (nN (xL S (iS js) (2 * js.length)) (2 * js.length)) y x) t j) = aF (2 * js.length) fun t => gm (nN (xL S (iS js) (2 * js.length)) (2 * js.length)) j t * gm (xL S (iS js) (2 * js.length)) t i := aC fun t ht => by
  rw [Rq hi ht,eR ht hj,Qi.mul_comm']
 rw [e2,e]
 by_cases c:i = j
 ·rw [if_pos c,if_pos c.symm]
 ·rw [if_neg c,if_neg (Ne.symm c)]
theorem a6i (hk:∀ b,jX (xL S (iS js) (2 * js.length)) b (2 * js.length) = 0) {i x:Nat} (hx:x < 2 * js.length):gv (Vf S js i) x = aF (2 * js.length) fun y=>gm S i (gq (iS js) y) * gv (gnV S js x) y:=by
 have hM:=Af S (iS js) (2 * js.length)
 have hT:=(nE (Ag S js) (Rr hk zo (jnV S js i))).1
 have hV:=(nE hM (hk (ek (2 * js.length) x))).1
 have e1 : aF (2 * js.length) (fun y => gm S i (gq (iS js) y) * gv (gnV S js x) y) = aF (2 * js.length) fun y => aF (2 * js.length) fun w => gm (xL S (iS js) (2 * js.length)) w y * gv (Vf S js i) w * gv (gnV S js x) y := aC fun y hy => by
  have h:=hT y hy
  rw [show gv (jnV S js i) y = gm S i (gq (iS js) y) from gP hy] at h
  rw [← h,← gM]
  exact aC fun w hw=>by rw [Rq hy hw]; rfl
 have e2 : aF (2 * js.length) (fun w => aF (2 * js.length) fun y => gm (xL S (iS js) (2 * js.length)) w y * gv (Vf S js i) w * gv (gnV S js x) y) = aF (2 * js.length) fun w => gv (Vf S js i) w * gv (ek (2 * js.length) x) w := aC fun w hw => by
  have h:=hV w hw
  rw [show gv (ek (2 * js.length) x) w = aF (2 * js.length) (fun k=>gm (xL S (iS js) (2 * js.length)) w k * gv (gnV S js x) k) from h.symm,Qi.mul_comm',← gM]
  exact aC fun y _=>by grind
 rw [e1,jO,e2,cF hx (fun k hkk hne=>by rw [a0Q hkk hx,if_neg hne]; grind),a0Q hx hx,if_pos rfl]; grind
theorem a6d {l:List Nat} {x:Nat} (hx:x < l.length) (hinj:∀ a b,a < l.length → b < l.length → l.getD a 0 = l.getD b 0 → a = b):Vb l (l.getD x 0) = (x:Int):=by
 have hm:0 ≤ Vb l (l.getD x 0):=Vc.2 (by rw [show l.getD x 0 = l[x] by simp [List.getD,hx]]; exact List.getElem_mem hx)
 rcases a51 l (l.getD x 0) with h | ⟨h1,h2,h3⟩
 ·omega
 ·have:=hinj _ _ h2 hx h3; omega
theorem Rp {x:Nat} (hx:x < 2 * js.length):(jnO js).getD x 0 = gq (iS js) (qA x):=by rw [jnO,rN hx]
theorem a6h (hj:Jn (iS js) N js.length) {x:Nat} (hx:x < 2 * js.length):Vb (jnO js) (gq (iS js) (qA x)) = (x:Int):=by
 have hl:(jnO js).length = 2 * js.length:=aN _ _
 rw [← Rp hx]
 refine a6d zo fun a b ha hb e=>?_
 rw [Rp zo,Rp zo] at e
 have:=hj.inj _ _ (tY (show a < 2 * js.length by omega)) (tY (show b < 2 * js.length by omega)) e
 have e2:=congrArg qA this
 rwa [xR,xR] at e2
theorem a4Z (hj:Jn (iS js) N js.length) (hk:∀ b,jX (xL S (iS js) (2 * js.length)) b (2 * js.length) = 0) {i y:Nat} (hi:i ∉ pZ js) (hy:y < 2 * js.length):Br S js i (gq (iS js) (qA y)) = gv (Vf S js i) y:=by
 have hne:gq (iS js) (qA y) ≠ i:=fun e=>hi (xK.2 ⟨qA y,tY hy,e⟩)
 rw [Br,a6h hj hy,if_pos zo,Int.toNat_natCast,gnB,if_neg hne,a6i hk hy]
 rw [show Qi.ofInt 0 = (0:Qi) from rfl]; grind
end
end
section
open Go Go.RowKit
def Zs (w : Nat) : Nat → Nat
 | 0=>w
 | c + 1=>2 * Zs w c + 1
theorem wV (w : Nat) : ∀ {c d : Nat}, c ≤ d → Zs w c ≤ Zs w d
 | c,0,h=>by rw [show c = 0 by omega]; exact Nat.le_refl _
 | c, d + 1, h => by
  by_cases e:c = d + 1
  ·rw [e]; exact Nat.le_refl _
  ·have := wV w (c := c) (d := d) zo
   simp only [Zs]; omega
theorem Tb {w v : Nat} (h : w ≤ v) : ∀ c, Zs w c ≤ Zs v c
 | 0=>h
 | c + 1=>by have:=Tb h c; simp only [Zs]; omega
def zM (r:List Qi) (w:Nat):Prop:=∃ d:Qi,d ≠ 0 ∧ Gb d (BB ^ w) ∧ ∀ j,Gb (d * gv r j) (BB ^ w)
theorem zM.le {r:List Qi} {w v:Nat} (h:zM r w) (k:w ≤ v):zM r v:=by
 obtain ⟨d,d0,dg,dj⟩:=h
 have hp:BB ^ w ≤ BB ^ v:=Nat.pow_le_pow_right fI k
 exact ⟨d,d0,dg.le hp,fun j=>(dj j).le hp⟩
theorem Sz (w:Nat):2 * BB ^ w * BB ^ w + 2 * BB ^ w * BB ^ w ≤ BB ^ (2 * w + 1):=by
 have e:BB ^ (2 * w + 1) = BB ^ w * BB ^ w * BB:=by rw [Nat.pow_succ,Nat.two_mul,Nat.pow_add]
 rw [e,Nat.mul_assoc 2,← Nat.two_mul,← Nat.mul_assoc 2 2,Nat.mul_comm (2 * 2)]
 exact Nat.mul_le_mul_left _ (by decide)
theorem a15 {l:List Qi} {j:Nat} (h:l.length ≤ j):gv l j = 0:=by simp [gv,List.getD,List.getElem?_eq_none h]; rfl
theorem Ur (N:Nat):Gb 0 N:=⟨0,0,Qi.ext' rfl rfl,by simp,by simp⟩
theorem zM.red {rr rc:List Qi} {c w:Nat} {P:Nat → Prop} [DecidablePred P] (h1:zM rr w) (h2:zM rc w) (hp:gv rc c ≠ 0):zM (tab rr.length fun j=>if P j then gv rr j - gv rr c / gv rc c * gv rc j else gv rr j) (2 * w + 1):=by
 obtain ⟨d,d0,dg,dj⟩:=h1
 obtain ⟨e,e0,eg,ej⟩:=h2
 have t:=Sz w
 refine ⟨d * (e * gv rc c),fun k=>?_,(dg.mul (ej c)).le zo,fun j=>?_⟩
 ·rcases jL k with k | k
  ·exact d0 k
  ·rcases jL k with k | k
   ·exact e0 k
   ·exact hp k
 ·by_cases hj : j < rr.length
  ·rw [gP hj]
   by_cases hP:P j
   ·rw [if_pos hP]
    have hd:=sJ (x:=gv rr c) hp
    have ee : d * (e * gv rc c) * (gv rr j - gv rr c / gv rc c * gv rc j) = d * gv rr j * (e * gv rc c) - d * gv rr c * (e * gv rc j) := by
     have e2:d * (e * gv rc c) * (gv rr c / gv rc c * gv rc j) = d * (gv rr c / gv rc c * gv rc c) * (e * gv rc j):=by grind
     rw [hd] at e2
     grind
    rw [ee]
    exact (((dj j).mul (ej c)).sub ((dj c).mul (ej j))).le t
   ·rw [if_neg hP]
    have ee:d * (e * gv rc c) * gv rr j = d * gv rr j * (e * gv rc c):=by grind
    rw [ee]
    exact ((dj j).mul (ej c)).le zo
  ·rw [a15 (l := tab rr.length fun j => if P j then gv rr j - gv rr c / gv rc c * gv rc j else gv rr j) (by rw [aN]; omega)]
   have ee:d * (e * gv rc c) * 0 = 0:=by grind
   rw [ee]; exact Ur _
theorem zM.fit {r : List Qi} {w : Nat} (h : zM r w) : cB r (4 * (w + 1) + 2) := fun x hx => by
 obtain ⟨d,d0,dg,dj⟩:=h
 obtain ⟨j,hj,e⟩:=List.getElem_of_mem hx
 have e2:gv r j = x:=by simp [gv,List.getD,hj,e]
 have hlt:BB ^ w < BB ^ (w + 1):=Nat.pow_lt_pow_right (by decide) zo
 have f1:aE (d * gv r j) (w + 1):=(dj j).fit hlt zo
 have f2:aE d (w + 1):=dg.fit hlt zo
 have f3:aE (d * gv r j / d) (w + 1 + 3 * (w + 1) + 2):=xH f1 f2 d0
 rw [Kv (z:=x) d0 (by rw [e2]; grind)] at f3
 exact f3.le zo
theorem a4i {r:List Qi} {m L:Nat} (hl:r.length = m) (h:cB r L) (hL:1 ≤ L):zM r (m * L):=by
 obtain ⟨d,d0,dl,dj⟩:=Ly (L:=L) (x:=gv r) m fun j _=>h.get hL j
 refine ⟨Qi.ofInt d,Ox d0,⟨d,0,Qi.ext' rfl (by show (0:Rat) = ((0:Int):Rat); rfl),by simpa using dl,by simp⟩,fun j=>?_⟩
 by_cases hj:j < m
 ·exact dj j hj
 ·rw [a15 zo]
  have ee:Qi.ofInt d * 0 = 0:=by grind
  rw [ee]; exact Ur _
abbrev nY (M:List (List Qi)) (w:Nat):Prop:=∀ r,r ∈ M → zM r w
theorem nY.row {M : List (List Qi)} {w i : Nat} (h : nY M w) (hi : i < M.length) : zM (dF M i) w := h _ (by
 rw [show dF M i = M[i] by simp [dF,List.getD,hi]]; exact List.getElem_mem hi)
theorem Pp {M:List (List Qi)} {n m L:Nat} (hs:cI M n m) (h:bA M L) (hL:1 ≤ L):nY M (m * L):=fun r hr=>a4i (hs.2 r hr) (h r hr) hL
theorem nY.swp {M : List (List Qi)} {w p c : Nat} (h : nY M w) (hp : p < M.length) (hc : c < M.length) : nY (swp [] M p c) w := fun x hx => by
 unfold Go.Proofs.YteohomnhncjcnaaGreat.swp at hx
 rcases List.mem_or_eq_of_mem_set hx with h1 | h1
 ·rcases List.mem_or_eq_of_mem_set h1 with h2 | h2
  ·exact h x h2
  ·rw [h2]; exact h.row hc
 ·rw [h1]; exact h.row hp
theorem nY.redM {M : List (List Qi)} {w c r : Nat} (h : nY M w) (hc : c < M.length) (hp : gm M c c ≠ Qi.zero) : nY (redM M c r) (2 * w + 1) := fun x hx => by
 obtain ⟨i,hi,rfl⟩:=fH.1 hx
 show zM (if c < i ∧ i < r then mW (dF M i) (dF M c) c (dF M i).length else dF M i) _
 split
 ·exact (h.row hi).red (h.row hc) hp
 ·exact (h.row hi).le zo
theorem nY.redJ {M : List (List Qi)} {w c r : Nat} (h : nY M w) (hc : c < M.length) (hp : gm M c c ≠ Qi.zero) : nY (redJ M c r) (2 * w + 1) := fun x hx => by
 obtain ⟨i,hi,rfl⟩:=fH.1 hx
 show zM (if i ≠ c ∧ i < r then jD (dF M i) (dF M c) c (dF M i).length else dF M i) _
 split
 ·exact (h.row hi).red (h.row hc) hp
 ·exact (h.row hi).le zo
theorem Ir {M : List (List Qi)} {n m w : Nat} (hs : cI M n m) (h : nY M w) : ∀ {c : Nat}, c ≤ n → nY (dC M c).1 (Zs w c)
 | 0,_=>h
 | c + 1, hc => by
  have ih:=Ir hs h (c:=c) zo
  have sh:=rF hs (c:=c) zo
  obtain ⟨_,i2,i3,i4⟩:=mO (M:=(dC M c).1) (c:=c) (n:=M.length) (by rw [hs.1]; omega)
  have hml:=hs.1
  have hel:=sh.1
  simp only [dC,Zs]
  split
  ·exact fun r hr=>(ih r hr).le zo
  ·split
   ·exact fun r hr=>(ih r hr).le zo
   ·rename_i e
    split
    ·rename_i e2
     refine nY.redM ih zo ?_
     have:=i4 zo
     rw [e2] at this; exact this
    ·refine nY.redM (ih.swp zo zo) (by rw [Ax]; omega) ?_
     show gv (dF (swp [] _ _ c) c) c ≠ _
     rw [wS (by rw [sh.1]; omega)]
     exact i4 zo
theorem Ut {M : List (List Qi)} {n m w : Nat} (hs : cI M n m) (hnm : n ≤ m) (h : nY M w) : ∀ {c : Nat} {A : List (List Qi)}, c ≤ n → pP M c = some A → nY A (Zs w c)
 | 0,A,_,e=>by obtain rfl:=Option.some.inj e; exact h
 | c + 1, A, hc, e => by
  simp only [pP] at e
  obtain ⟨B,h1,h2⟩:=Option.bind_eq_some_iff.1 e
  split at h2
  ·cases h2
  ·rename_i e3
   obtain rfl:=Option.some.inj h2
   have ih:=Ut hs hnm h (c:=c) zo h1
   have hsB:=(yY hs hnm (c:=c) zo h1).sh
   rw [hs.1] at e3 ⊢
   have hbl:=hsB.1
   obtain ⟨_,i2,i3,i4⟩:=mO (M:=B) (c:=c) (n:=n) zo
   refine nY.redJ (ih.swp zo zo) (by rw [Ax]; omega) ?_
   show gv (dF (swp [] _ _ c) c) c ≠ _
   rw [wS (by rw [hsB.1]; omega)]
   exact i4 zo
def stG (w n:Nat):Nat:=4 * (Zs w n + 1) + 2
theorem a39 {M : List (List Qi)} {n m L c : Nat} (hs : cI M n m) (hM : bA M L) (hL : 1 ≤ L) (hc : c ≤ n) : bA (dC M c).1 (stG (m * L) n) := fun r hr =>
 ((Ir hs (Pp hs hM hL) hc r hr).le (wV _ hc)).fit
theorem a7B {M A : List (List Qi)} {n m L c : Nat} (hs : cI M n m) (hnm : n ≤ m) (hM : bA M L) (hL : 1 ≤ L) (hc : c ≤ n) (hA : pP M c = some A) : bA A (stG (m * L) n) := fun r hr =>
 ((Ut hs hnm (Pp hs hM hL) hc hA r hr).le (wV _ hc)).fit
theorem Tl {U : List (List Qi)} {n i : Nat} : ∀ {k j : Nat}, j + k ≤ n → n - j ≤ i → gv (pH U n (j + k)) i = gv (pH U n j) i
 | 0,_,_,_=>rfl
 | k + 1, j, h, hi => by
  rw [show j + (k + 1) = (j + k) + 1 by omega,pH,gv,List.getD,List.getElem?_set_ne zo]
  exact Tl (k:=k) zo hi
theorem Tm {U : List (List Qi)} {n i : Nat} : ∀ {j : Nat}, j ≤ n → i < n - j → gv (pH U n j) i = 0
 | 0,_,h=>by rw [pH,gP zo]; rfl
 | j + 1, hj, h => by
  rw [pH,gv,List.getD,List.getElem?_set_ne zo]
  exact Tm (j:=j) zo zo
theorem a2z {M : List (List Qi)} {b : List Qi} {n j X : Nat} (hX : 1 ≤ X) (h : cB (jY M b n) X) (hj : j ≤ n) : cB (pH (tZ M b n).1 n j) X := fun x hx => by
 obtain ⟨i,hi,e⟩:=List.getElem_of_mem hx
 have e2:gv (pH (tZ M b n).1 n j) i = x:=by simp [gv,List.getD,hi,e]
 rw [tK] at hi
 rw [← e2]
 by_cases c:n - j ≤ i
 ·have k := Tl (U := (tZ M b n).1) (n := n) (k := n - j) (j := j) zo c
  rw [show j + (n - j) = n by omega] at k
  rw [← k]; exact h.get hX i
 ·rw [Tm hj zo]; exact aE.zero hX
structure SzS (M:List (List Qi)) (b:List Qi) (n G X:Nat):Prop where
 st:∀ c,c ≤ n → bA (dC (iJ M [b] n) c).1 G
 bk:jX M b n = 0 → ∀ j,j ≤ n → cB (pH (tZ M b n).1 n j) X
 g1:1 ≤ G
 x1:1 ≤ X
 g:6 * G + 4 ≤ 17592186044415
 x:n * (X + G + 2) + 4 * G + 2 ≤ 17592186044415
theorem SzS.old {M:List (List Qi)} {b:List Qi} {n L:Nat} (hM:cI M n n) (hf:bA M L) (hfb:cB b L) (hL:1 ≤ L) (hg:6 * uU L n + 4 ≤ 17592186044415) (hx:Ww (uU L n) (n + 1) ≤ 17592186044415):SzS M b n (uU L n) (Ww (uU L n) n):=by
 have hcs:cI (iJ M [b] n) n (n + 1):=kC hM
 have hcf:bA (iJ M [b] n) L:=sS hf (fun r hr=>by simp at hr; subst hr; exact hfb) hL
 have hG1:1 ≤ uU L n:=Nat.le_trans hL (Du L n)
 refine ⟨fun c hc=>(Fo hcs hcf hL hc).le (xJ L hc),fun hE j hj=>?_,hG1,Nat.le_trans hG1 (Tc _ _),hg,hx⟩
 have hst:¬ 0 ≤ (tZ M b n).2.2:=fun h=>by rw [jX,if_pos h] at hE; omega
 have hf2:=a0d (a27 hM hf hfb hL) hG1 (sU hcs (Nat.le_refl n) (Wn hst)) j hj
 exact fun y hy=>(hf2 y hy).le (Qf _ hj)
theorem Bt {M : List (List Qi)} {n G X : Nat} (hz : ∀ i, i < n → SzS M (ek n i) n G X) (hE : oM M n = 0) : bA (nN M n) X := fun r hr => by
 obtain ⟨i,_,rfl⟩:=fH.1 hr
 exact cB.tab fun j hj=>((hz j hj).bk (Ft hE j hj) n (Nat.le_refl n)).get (hz j hj).x1 i
structure SzJ (M:List (List Qi)) (b:List Qi) (n G:Nat):Prop where
 st:∀ c A,c ≤ n → pP (iJ M [b] n) c = some A → bA A G
 g1:1 ≤ G
 g:6 * G + 4 ≤ 17592186044415
theorem SzJ.old {M : List (List Qi)} {b : List Qi} {n L : Nat} (hM : cI M n n) (hf : bA M L) (hfb : cB b L) (hL : 1 ≤ L) (hg : 6 * uU L n + 4 ≤ 17592186044415) : SzJ M b n (uU L n) :=
 ⟨fun _ _ hc hA=>(a12 (show cI (iJ M [b] n) n (n + 1) from kC hM) (Nat.le_succ n) (sS hf (fun r hr=>by simp at hr; subst hr; exact hfb) hL) hL hc hA).le (xJ L hc),Nat.le_trans hL (Du L n),hg⟩
theorem a0Y {n:Nat} (hn:n ≤ 8):∀ N,1 ≤ N → fs n N ≤ (2 * 8 * (2 * 7 * (2 * 6 * (2 * 5 * 1610612736 * 4 ^ 15) * 4 ^ 31) * 4 ^ 63) * 4 ^ 127) * N ^ 255:=by
 have h6:∀ N,1 ≤ N → fs 6 N ≤ (2 * 6 * (2 * 5 * 1610612736 * 4 ^ 15) * 4 ^ 31) * N ^ 63:=fun N hN=>a0Z (Nat.le_refl 6) N hN
 have h7:∀ N,1 ≤ N → fs 7 N ≤ (2 * 7 * (2 * 6 * (2 * 5 * 1610612736 * 4 ^ 15) * 4 ^ 31) * 4 ^ 63) * N ^ 127:=Ds h6
 have h8:∀ N,1 ≤ N → fs 8 N ≤ (2 * 8 * (2 * 7 * (2 * 6 * (2 * 5 * 1610612736 * 4 ^ 15) * 4 ^ 31) * 4 ^ 63) * 4 ^ 127) * N ^ 255:=Ds h7
 by_cases a:n ≤ 6
 ·exact Dq (a0Z a) (by decide) (by decide)
 ·by_cases b : n = 7
  ·subst b; exact Dq h7 (by decide) (by decide)
  ·obtain rfl : n = 8 := by omega
   exact h8
theorem Nw {n e K:Nat} (hn:n ≤ 8) (he:e * 255 + 17 = K):fs n (BB ^ e) < BB ^ K:=by
 refine Nat.lt_of_le_of_lt (a0Y hn _ (Nat.pow_pos fI)) ?_
 rw [← Nat.pow_mul]
 exact Sg he (by show _ < 4294967296 ^ 17; decide)
def Hz (L:Nat):Nat:=4 * (9 * L * 255 + 17) + 2
def Sq (L:Nat):Nat:=stG (9 * L) 8
theorem a26 {M : List (List Qi)} {b : List Qi} {n L : Nat} (h : cI M n n) (hM : bA M L) (hb : cB b L) (hL : 1 ≤ L) (hn : n ≤ 8) (hE : jX M b n = 0) : cB (jY M b n) (Hz L) :=
 a29 (m:=8) (K:=9 * L * 255 + 17) h hM hb hL hn (Nw (e:=(8 + 1) * L) (K:=9 * L * 255 + 17) hn zo) zo hE
theorem Sr (L:Nat):Sq L = 9216 * L + 1026:=by simp only [Sq,stG,Zs]; omega
theorem a6T (L:Nat) (h:L ≤ 10000000):4 * (9 * L * 255 + 17) + 2 + (9216 * L + 1026) + 2 ≤ 200000000000:=by omega
theorem a6U (L:Nat) (h:L ≤ 10000000):4 * (9216 * L + 1026) + 2 ≤ 400000000000:=by omega
theorem a6V (n A B:Nat) (hn:n ≤ 8) (hA:A ≤ 200000000000) (hB:B + 2 ≤ 400000000000):n * A + B + 2 ≤ 17592186044415:=by
 have:n * A ≤ 8 * A:=Nat.mul_le_mul_right _ hn
 omega
theorem a6W (n L:Nat) (hn:n ≤ 8) (h:L ≤ 10000000):n * (Hz L + Sq L + 2) + 4 * Sq L + 2 ≤ 17592186044415:=by
 rw [Sr,Hz]
 exact a6V n _ _ hn (a6T L h) (a6U L h)
theorem a2g (L:Nat) (h:L ≤ 10000000):6 * Sq L + 4 ≤ 17592186044415:=by rw [Sr]; omega
theorem a2h (L:Nat):1 ≤ Sq L:=by rw [Sr]; omega
theorem Sv (L:Nat):1 ≤ Hz L:=by unfold Hz; omega
theorem a7T {M:List (List Qi)} {b:List Qi} {n L:Nat} (h:cI M n n) (hM:bA M L) (hb:cB b L) (hL:1 ≤ L) (hLb:L ≤ 10000000) (hn:n ≤ 8):SzS M b n (Sq L) (Hz L):=by
 have hcs:cI (iJ M [b] n) n (n + 1):=kC h
 have hcf:bA (iJ M [b] n) L:=sS hM (fun r hr=>by simp at hr; subst hr; exact hb) hL
 have hle : stG ((n + 1) * L) n ≤ Sq L := by
  have hw:(n + 1) * L ≤ 9 * L:=Nat.mul_le_mul_right _ zo
  have h1:=Tb hw n
  have h2:=wV (9 * L) hn
  simp only [stG,Sq]; omega
 exact ⟨fun c hc=>(a39 hcs hcf hL hc).le hle,fun hE j hj=>a2z (Sv L) (a26 h hM hb hL hn hE) hj,a2h L,Sv L,a2g L hLb,a6W n L hn hLb⟩
theorem a88 {M:List (List Qi)} {b:List Qi} {n L:Nat} (h:cI M n n) (hM:bA M L) (hb:cB b L) (hL:1 ≤ L) (hLb:L ≤ 10000000) (hn:n ≤ 8):SzJ M b n (Sq L):=by
 have hcs:cI (iJ M [b] n) n (n + 1):=kC h
 have hcf:bA (iJ M [b] n) L:=sS hM (fun r hr=>by simp at hr; subst hr; exact hb) hL
 have hle : stG ((n + 1) * L) n ≤ Sq L := by
  have hw:(n + 1) * L ≤ 9 * L:=Nat.mul_le_mul_right _ zo
  have h1:=Tb hw n
  have h2:=wV (9 * L) hn
  simp only [stG,Sq]; omega
 exact ⟨fun c A hc hA=>(a7B hcs (Nat.le_succ n) hcf hL hc hA).le hle,a2h L,a2g L hLb⟩
end
section
open Go Go.RowKit
theorem a7m {n:Nat} (hn:n ≤ 32):gG Tryz.prog 94 [NT .i64 n] [] (Nat) (fun B=>Is (.slice (some ⟨B,0,none⟩) n n)) (fun B=>[jU dT B 29 51 5 (bP aI (tS n))]) (fun _=>True):=by
 refine gG.intro Tryz.func94 rfl Tryz.ntmps94 rfl (fun cx Z=>(ts (ro rfl (cX cW) (eZ (ts (rn rfl (eG (Ts:=[Is (.bool false),Is (.slice none 0 0),Is (.bool false),Is (.slice none 0 0),Is (.slice none 0 0)]) O_51 rfl (fun V=>aW zd (aW zd (aW zd (aW zd (aW zd (aG))))))) fun B3=>(eZ (ts (rm rfl (ro rfl (aM.nat (a3Z (Ht rfl) (cV 0)) (show max n 0 = n by omega)) (ro rfl (aM.nat (Lp (Ht rfl) (cV 32)) (show min n 32 = n by omega)) ?_)))))))))))
 refine rn rfl (eM (T:=Is (.slice none 0 0)) (i:=Tryz.t29) V_30 nI rfl rfl (Ht rfl) rfl (fun _=>rfl) trivial (by show 24 * _ ≤ _; omega) zo) fun B9=>ra rfl (eZ (cU (ts (rm rfl (ro rfl (iD U_30 (Ht rfl)) (ro rfl (cZ (cV 0)) (eZ (eK (nM 2 rfl (uZ dT ⟨none,0,rfl⟩ (e:=51) (s:=5)) ?_)))))))))
 refine bS (fun (k : Nat) => k ≤ n) (fun (k : Nat) => n - k) (fun (k : Nat) => [(3, cC B3 0), (4, Is (.slice (some ⟨B9, 0, none⟩) n n)), (11, NT .i64 n), (12, NT .i64 k)]) (fun (k : Nat) => [Z, box B3 51 [Is (.bool false), Is (.slice none 0 0), Is (.bool false), Is (.slice none 0 0), Is (.slice none 0 0)], jU dT B9 29 51 5 (bP aI (jC (yL n) [] n k))]) 0 (Nat.zero_le _)
  (zS rfl) (aU (fun _ _ _ h=>h) (aU (fun _ _ _ h=>h) (aU (bF (by rw [← gR,lU]; exact mF aI n)) aY))) (fun k hk=>?_)
 refine ts (ro rfl (gZ (Ht rfl) (Ht rfl)) (eZ (cU (dX (Ht rfl) (fun hd=>?_) (fun hd=>?_)))))
 ·simp only [decide_eq_true_eq] at hd
  refine kE 2 (k) rfl (kZ hd) (fun v hv=>(cY (cU (eK (ts (rm rfl (ra rfl (eZ (cU (fJ (m:=10) (dp 4 rfl (cZ (Ht rfl)) (dp 5 rfl (cZ (Ht rfl)) (dp 3 rfl (eW A_51 Z_51 (Ht rfl) (i:=1) rfl rfl rfl) (dq 17 2 rfl (bI cD (Ht rfl)) (d0 rfl (cJ K_77 (qD (n:=0) (by decide) (by decide)) ⟨(cV 0),trivial⟩) (cP 18 3 19 4 rfl (aP oV K_302 Ih (Ht rfl) ⟨(Ht rfl),trivial⟩) (dq 20 5 rfl (dB (xs:=[.tmp 20]) U_29 Z_51 O_51 (cG (Ht rfl) cK) rfl rfl rfl) ?_)))))))))))))))))
  refine dp 4 rfl (cZ (Ht rfl)) (dq 22 7 rfl (iD U_30 (Ht rfl)) (C.D_new (Ei:=[(21,_),(23,_)]) rfl rfl rfl (bV (bG 6 rfl rfl) (bV (bG 8 rfl rfl) bW)) (Yh Tryz.call191 (Qv (m:=n) zo zo) ⟨(Ht rfl),(Ht rfl),trivial⟩) (fW aL rfl (by kernel_rfl) (zF (zF (aJ (C.F_new (fun B24=>aV (ro rfl (gQ U_30 Z_29 (Ht rfl) (Ht rfl) rfl zo (by rw [Nat.mul_one,Nat.zero_add])) ?_)))))))))
  refine sP Z_29 (Ht rfl) (Ht rfl) (by simp only [bP,List.length_map,eD]; omega) (j:=2) (l:=4) rfl rfl rfl ?_
  refine eZ ?_
  have hB24:=B24.1.2
  refine fJ (m:=9) (dp 4 rfl (cZ (Ht rfl)) (dp 5 rfl (cZ (Ht rfl)) (cP 26 0 27 1 rfl (gQ U_30 Z_29 (Ht rfl) (Ht rfl) rfl zo (by rw [Nat.mul_one,Nat.zero_add])) ?_)))
  refine dq 28 2 rfl (gI A_29 Z_29 (Ht rfl) (j:=2) rfl) (dp 5 rfl (cZ (Ht rfl)) (dp 3 rfl (eW A_51 Z_51 (Ht rfl) (i:=1) rfl rfl rfl) (dq 31 5 rfl (bI cD (Ht rfl)) (d0 rfl (cJ K_77 (qD (n:=1) (by decide) (by decide)) ⟨(cV 1),trivial⟩) (cP 32 6 33 7 rfl (aP oV K_302 Ih (Ht rfl) ⟨(Ht rfl),trivial⟩) (fW aL rfl (by kernel_rfl) (zF (zF (aJ (aV (ro rfl (cR U_29 Z_51 (Ht rfl) (Ht rfl) rfl (i:=4) rfl (by simp only [List.length_map,aN]; omega) rfl) ?_)))))))))))
  refine kV Z_51 (Ht rfl) (Ht rfl) (El.ag rfl) (i:=4) rfl rfl (by simp only [List.length_map,aN]; omega) rfl ?_
  refine eZ (bC (dL 2 4 rfl rfl (by decide) (by simp only [bP,List.length_map,eD]; omega) ?_))
  refine dQ (ro rfl (dW (Ht rfl) (cV 1) z6) (rm rfl (eZ (bR [0,1,2] rfl (by decide) (fY (k + 1) hd zo (zS rfl) (aU (fun _ _ _ h=>h) (aU (fun _ _ _ h=>h) (aU (bF (by rw [← jJ (f:=yL n),← eE,yL,← eN])) aY))))))))
 ·simp only [decide_eq_false_iff_not] at hd
  obtain rfl:n = k:=Nat.le_antisymm zo hk
  refine gW rfl (ts (rm rfl (ra rfl (eZ ?_))))
  exact jT B9 trivial [0,2] ⟨⟨_,rfl,fun _ _ _ h=>h⟩,⟨_,rfl,(bF (by rw [jI]; rfl))⟩,trivial⟩ (by decide) (wN rfl (eY rfl))
theorem a80 {n:Nat} (hn:n ≤ 32):bE Tryz.prog 94 [NT .i64 n] (bL (tS n)):=(a7m hn).fun fun B _ v S V h1 h2=>fL (s:=5) (M:=tS n) (pI n).1.symm v S V h1 h2
theorem a0k {M:List (List Qi)} {b:List Qi} {n G X:Nat} (hM:cI M n n) (hb:b.length = n) (hz:SzS M b n G X) (h1:1 ≤ n) (hn:n ≤ 32):bE Tryz.prog 96 [bL M,bB b] (eS [bB (dA (jX M b n) (jY M b n)),aT .i64 (jX M b n)]):=by
 have hMl:=hM.1
 have hcs:cI (iJ M [b] n) n (n + 1):=kC hM
 have hg:=hz.g
 have hx:n * (G + X + 2) + 4 * G + 2 ≤ 17592186044415:=by rw [Nat.add_comm G X]; exact hz.x
 obtain ⟨U,hU⟩:∃ U,U = (tZ M b n).1:=⟨_,rfl⟩
 have hUs:cI U n (n + 1):=by rw [hU]; exact a28 hM
 have hUl:=hUs.1
 have hUf:bA U G:=by rw [hU]; exact hz.st n (Nat.le_refl n)
 have hG1:=hz.g1
 have hX1:=hz.x1
 refine bE.intro Tryz.func96 rfl Tryz.ntmps96 rfl (fun cx=>(ts (ro rfl (cX cW) (ro rfl (cX (cV 0)) (eZ (cU (ts (rm rfl (ro rfl (cJ Tryz.call174 (My hM h1 hn) ⟨(Ht rfl),trivial⟩) (ro rfl (dR (Ht rfl)) (rm rfl (fX rfl rfl (eU rfl rfl (Ht rfl) (fun h=>cZ (Ht rfl))) (fX rfl rfl (eU rfl rfl (Ht rfl) (fun h=>dK U_29 (fV rfl h) aA)) (fX rfl rfl (eU rfl rfl (Ht rfl) (fun h=>cZ (Ht rfl))) (fX rfl rfl (eU rfl rfl (Ht rfl) (fun h=>dK U_30 (fV rfl h) aA)) ?_)))))))))))))))
 refine fX rfl rfl (eU rfl rfl (Ht rfl) (fun h=>fB (fV rfl h) (fV rfl h))) (ro rfl (gN (Ht rfl) (fun h=>(fV rfl h))) (eZ (iA (Ht rfl) (by simp [hMl,hb]) ?_)))
 refine cY (ts (rm rfl (ro rfl (dK U_30 (Ht rfl) (by rw [List.length_map,hMl])) ?_)))
 refine ra rfl (eZ (ts (rm rfl (rm rfl (ro rfl (dB (xs:=[.tmp 26]) U_30 Z_29 O_29 (cG (Ht rfl) cK) rfl rfl rfl) (hJ Tryz.call193 (Ii (M:=M) (bs:=[b]) (n:=n) (m:=n) hM (fun r hr=>by simp at hr; subst hr; omega) zo zo (by simp)) ⟨(Ht rfl),(Ht rfl),trivial⟩ rfl (fun B28 _=>?_)))))))
 refine ra rfl (eZ (cU (ts (rm rfl (Jv Tryz.call194 (a2K (n:=n) (m:=n + 1) (G:=G) hcs hz.st hG1 hg zo zo) (i:=0) rfl ⟨(Ht rfl),trivial⟩ rfl (fun uu _=>(rm rfl (ro rfl (dU (Ht rfl) rfl) (ro rfl (dU (Ht rfl) rfl) (ra rfl (ra rfl (eZ (ts (rm rfl (ro rfl (mV (Ht rfl) cW) (eZ (dX (Ht rfl) (fun hs=>?_) (fun hs=>?_))))))))))))))))))
 ·have he : jX M b n = 6 := by rw [jX, if_pos (show 0 ≤ (tZ M b n).2.2 from of_decide_eq_true hs)]
  refine ts (ro rfl (cX cW) (ro rfl (cX (cV 6)) (eZ (bM rfl (fZ (eY rfl) ?_) (fZ (eY rfl) ?_)))))
  ·exact (fun v V k=>by rw [he]; exact iL v V k)
  ·exact (aS he.symm)
 ·have hst : ¬ 0 ≤ (tZ M b n).2.2 := of_decide_eq_false hs
  have he:jX M b n = 0:=by rw [jX,if_neg hst]
  have hdz:∀ i,i < n → gm U i i ≠ Qi.zero:=by rw [hU]; exact sU hcs (Nat.le_refl n) (Wn hst)
  refine cY (ts (rm rfl (rn rfl (mM (T:=aI Qi.zero) (i:=Tryz.t51) nR lH rfl rfl (Ht rfl) rfl lJ (El.ag rfl) (by show 88 * _ ≤ _; omega) zo) fun B37=>(ra rfl (eZ (cU (ts (rm rfl (ro rfl (dG (Ht rfl) (cV 1) zo z6) (ra rfl (eZ (eK (nM 0 rfl (bF (show bP aI (dC (iJ M [b] n) n).1 = bP aI U by rw [hU]; rfl)) (Jy 0 rfl (fun vs hvs=>?_)))))))))))))))
  have hvl:vs.length = n:=by have h:=hvs.len; rw [List.length_map,hUl] at h; exact h
  refine bS (fun (j : Nat) => j ≤ n) (fun (j : Nat) => n - j) (fun (j : Nat) => [(0, Is (.slice (some ⟨B28, 0, none⟩) n n)), (6, NT .i64 n), (9, Is B37), (10, aT .i64 ((n : Int) - 1 - (j : Int)))]) (fun (j : Nat) => [kM B28 29 51 5 vs vs (bP aI U), cL 51 5 B37 ((pH U n j).map aI)]) 0 (Nat.zero_le _)
   (aQ rfl (aQ rfl (aQ rfl (aZ rfl (aS zo) aX)))) (aU (fun _ _ _ h=>h) (aU (bO (by rw [pH]; exact Ef aI n)) aY)) (fun j hj=>?_)
  refine cU (ts (rm rfl (ro rfl (mV (Ht rfl) cW) (eZ (dX (Ht rfl) (fun hc=>?_) (fun hc=>?_))))))
  ·have hjn : j < n := a7i (of_decide_eq_true hc)
   obtain ⟨q,hq⟩:∃ q,q = n - (j + 1):=⟨_,rfl⟩
   have hqi:(n:Int) - 1 - (j:Int) = (q:Int):=by omega
   have hqr:(U.getD q []).length = n + 1:=hUs.row zo
   have hXf:cB (pH U n j) X:=by rw [hU]; exact hz.bk he j hj
   have hXl:=tK U n j
   refine cY (cU (eK (ts (rm rfl (rm rfl (ro rfl (gQ U_30 Z_29 (Ht rfl) (Ht rfl) hqi zo (by rw [Nat.mul_one,Nat.zero_add])) ?_))))))
   refine ro rfl (iC A_29 Z_29 (Ht rfl) (j:=0) rfl zo) (rm rfl (ro rfl (kK U_29 Z_51 (Ht rfl) (Ht rfl) rfl (j:=0) rfl zo zo zo) (ro rfl (nP A_51 Z_51 (Ht rfl) (j:=0) rfl zo zo zo) (rn rfl (eG (Ts:=[Is (.bool false),Is (.slice none 0 0),Is (.bool false),Is (.slice none 0 0),Is (.slice none 0 0)]) O_51 rfl (fun V=>aW zd (aW zd (aW zd (aW zd (aW zd (aG))))))) fun B11=>?_))))
   refine gX Z_51 (Ht rfl) (Ht rfl) rfl (i:=2) rfl (aK rfl) rfl rfl (eZ (cU (ts (rm rfl (ro rfl (Sb (Ht rfl) cW (r:=((q + 1:Nat):Int)) ((Ej (z:=(n:Int) - 1 - (j:Int) + 1) zo).trans zo)) ?_)))))
   refine ra rfl (eZ (eK ?_))
   refine bS (fun (k : Nat) => k ≤ j) (fun (k : Nat) => j - k) (fun (k : Nat) => [(0, Is (.slice (some ⟨B28, 0, none⟩) n n)), (6, NT .i64 n), (9, Is B37), (10, aT .i64 ((n : Int) - 1 - (j : Int))), (11, cC B11 0), (12, NT .i64 (q + 1 + k))]) (fun (k : Nat) => [kM B28 29 51 5 vs vs (bP aI U), cL 51 5 B37 ((pH U n j).map aI), box B11 51 [aD (decide ((qB U (pH U n j) n q k).a < 0)), aH (qB U (pH U n j) n q k).a.natAbs, aD (decide ((qB U (pH U n j) n q k).b < 0)), aH (qB U (pH U n j) n q k).b.natAbs, aH (du (qB U (pH U n j) n q k))]]) 0 (Nat.zero_le _)
    (zS rfl) (aU (fun _ _ _ h=>h) (aU (fun _ _ _ h=>h) (aU (aB rfl) aY))) (fun k hk=>?_)
   refine cU (ts (rm rfl (rm rfl (ro rfl (gZ (Ht rfl) (Ht rfl)) (eZ (dX (Ht rfl) (fun hf=>?_) (fun hf=>?_)))))))
   ·have hkj : k < j := by simp only [decide_eq_true_eq] at hf; omega
    haveI f1:aE (qB U (pH U n j) n q k) (G + k * (G + X + 2)):=Ed hUf hXf hG1 hX1 k
    haveI f2:aE (gm U q (q + 1 + k)) G:=hUf.get hG1 _ _
    haveI f3:aE (gv (pH U n j) (q + 1 + k)) X:=hXf.get hX1 _
    have hb1:k * (G + X + 2) + (G + X + 2) ≤ n * (G + X + 2):=by rw [← Nat.succ_mul]; exact Nat.mul_le_mul_right _ zo
    refine cY (cU (eK (fJ (m:=15) (dp 11 rfl (eW A_51 Z_51 (Ht rfl) (i:=2) rfl rfl rfl) (dq 58 0 rfl (bI cD (Ht rfl)) (dp 0 rfl (cZ (Ht rfl)) (dp 10 rfl (cZ (Ht rfl)) (cP 60 2 61 3 rfl (gQ U_30 Z_29 (Ht rfl) (Ht rfl) hqi zo (by rw [Nat.mul_one,Nat.zero_add])) ?_))))))))
    refine dq 62 4 rfl (iC A_29 Z_29 (Ht rfl) (j:=0) rfl zo) (dp 12 rfl (cZ (Ht rfl)) (cP 63 5 64 6 rfl (kK U_29 Z_51 (Ht rfl) (Ht rfl) rfl (j:=0) rfl zo zo zo) (dq 65 7 rfl (nP A_51 Z_51 (Ht rfl) (j:=0) rfl zo zo zo) (dq 66 8 rfl (bI cD (Ht rfl)) (dp 9 rfl (cZ (Ht rfl)) (dp 12 rfl (cZ (Ht rfl)) (cP 68 10 69 11 rfl (cR U_29 Z_51 (Ht rfl) (Ht rfl) rfl (i:=1) rfl (by rw [List.length_map]; omega) rfl) ?_)))))))
    refine dq 70 12 rfl (oX A_51 Z_51 (Ht rfl) (i:=1) rfl rfl (eQ (dY (d:=Qi.zero) zo))) (cP 67 9 71 13 rfl (aP dD K_45 (kF (x:=gm U q (q + 1 + k)) (y:=gv (pH U n j) (q + 1 + k)) (L:=G) (M:=X) zo) (Ht rfl) ⟨(Ht rfl),trivial⟩) (fW aL rfl (by kernel_rfl) (zF (zF (zF (aJ (aJ (aJ (aV (ro rfl (aP kJ K_44 (uD (x:=(qB U (pH U n j) n q k)) (y:=gm U q (q + 1 + k) * gv (pH U n j) (q + 1 + k)) (L:=G + k * (G + X + 2)) (M:=G + X + 1) zo) (Ht rfl) ⟨(Ht rfl),trivial⟩) ?_))))))))))
    refine gX Z_51 (Ht rfl) (Ht rfl) rfl (i:=2) rfl (aK rfl) rfl rfl (eZ (bC (dQ (rm rfl (ro rfl (dW (Ht rfl) (cV 1) z6) (ra rfl (eZ (fY (k + 1) hkj zo (zS rfl) (aU (fun _ _ _ h=>h) (aU (fun _ _ _ h=>h) (aU (aB rfl) aY)))))))))))
   ·obtain rfl : k = j := Nat.le_antisymm hk (by simp only [decide_eq_false_iff_not] at hf; omega)
    haveI f1:aE (qB U (pH U n k) n q k) (G + k * (G + X + 2)):=Ed hUf hXf hG1 hX1 k
    haveI f2:aE (gm U q q) G:=hUf.get hG1 _ _
    have hb3:k * (G + X + 2) ≤ n * (G + X + 2):=Nat.mul_le_mul_right _ zo
    refine gW rfl (Y.D_start (m:=17) [(16,1,cL 51 5 B37 (((pH U n k).map aI).set q (aI ((qB U (pH U n k) n q k) / gm U q q))))] (Y.D_step (Ei:=[(9,_)]) rfl rfl (bQ (bJ rfl rfl) bX) rfl rfl (by kernel_rfl) (dZ rfl (cZ (Ht rfl))) (Y.D_step (Ei:=[(10,_)]) rfl rfl (bQ (bJ rfl rfl) bX) rfl rfl (by kernel_rfl) (dZ rfl (cZ (Ht rfl))) (Y.D_step (Ei:=[(11,_)]) rfl rfl (bQ (bJ rfl rfl) bX) rfl rfl (by kernel_rfl) (dZ rfl (eW A_51 Z_51 (Ht rfl) (i:=2) rfl rfl rfl)) ?_))))
    refine Y.D_step (Ei:=[(77,_)]) rfl rfl (bQ (bZ 2 rfl rfl) bX) rfl rfl (by kernel_rfl) (dZ rfl (bI cD (Ht rfl))) (Y.D_step (Ei:=[(0,_)]) rfl rfl (bQ (bJ rfl rfl) bX) rfl rfl (by kernel_rfl) (dZ rfl (cZ (Ht rfl))) (Y.D_step (Ei:=[(10,_)]) rfl rfl (bQ (bJ rfl rfl) bX) rfl rfl (by kernel_rfl) (dZ rfl (cZ (Ht rfl))) (Y.D_step (Ei:=[(79,_),(80,_)]) rfl rfl (bQ (bZ 4 rfl rfl) (bQ (bZ 5 rfl rfl) bX)) rfl rfl (by kernel_rfl) (dZ rfl (gQ U_30 Z_29 (Ht rfl) (Ht rfl) hqi zo (by rw [Nat.mul_one,Nat.zero_add]))) ?_)))
    refine Y.D_step (Ei:=[(81,_)]) rfl rfl (bQ (bZ 6 rfl rfl) bX) rfl rfl (by kernel_rfl) (dZ rfl (iC A_29 Z_29 (Ht rfl) (j:=0) rfl zo)) (Y.D_step (Ei:=[(10,_)]) rfl rfl (bQ (bJ rfl rfl) bX) rfl rfl (by kernel_rfl) (dZ rfl (cZ (Ht rfl))) (Y.D_step (Ei:=[(82,_),(83,_)]) rfl rfl (bQ (bZ 7 rfl rfl) (bQ (bZ 8 rfl rfl) bX)) rfl rfl (by kernel_rfl) (dZ rfl (kK U_29 Z_51 (Ht rfl) (Ht rfl) hqi (j:=0) rfl zo zo zo)) ?_))
    refine Y.D_step (Ei:=[(84,_)]) rfl rfl (bQ (bZ 9 rfl rfl) bX) rfl rfl (by kernel_rfl) (dZ rfl (nP A_51 Z_51 (Ht rfl) (j:=0) rfl zo zo zo)) (Y.D_step (Ei:=[(78,_),(85,_)]) rfl rfl (bQ (bZ 3 rfl rfl) (bQ (bZ 10 rfl rfl) bX)) rfl rfl (by kernel_rfl) (dZ rfl (aP nU K_40 (yH (x:=(qB U (pH U n k) n q k)) (y:=gm U q q) (L:=G + k * (G + X + 2)) (M:=G) zo) (Ht rfl) ⟨(Ht rfl),trivial⟩)) (Y.D_step (Ei:=[(86,_)]) rfl rfl (bQ (bZ 11 rfl rfl) bX) rfl rfl (by kernel_rfl) (dZ rfl (cZ (Ht rfl))) ?_))
    refine Y.D_step (Ei:=[(74,_)]) rfl rfl (bQ (bZ 12 rfl rfl) bX) rfl rfl (by kernel_rfl) (dZ rfl (dU (Ht rfl) rfl)) (cQ (Ei:=[(74,_)]) rfl rfl (bQ (bZ 12 rfl rfl) bX) rfl rfl (dZ rfl (dU (Ht rfl) rfl)) (Y.D_step (Ei:=[(75,_),(76,_)]) rfl rfl (bQ (bZ 0 rfl rfl) (bQ (bZ 1 rfl rfl) bX)) rfl rfl (by kernel_rfl) (dZ rfl (cR U_29 Z_51 (Ht rfl) (Ht rfl) hqi (i:=1) rfl (by rw [List.length_map]; omega) rfl)) ?_))
    refine Y.D_putI (Ei:=[(89,_),(87,_)]) 1 rfl rfl rfl (bQ (bZ 15 rfl rfl) (bQ (bZ 13 rfl rfl) bX)) (.head _) rfl (Er Z_51 (Ht rfl) (Ht rfl) (El.ag rfl) (i:=0) rfl rfl (by rw [List.length_map]; omega)) ?_
    refine Y.D_done aL rfl (by kernel_rfl) rfl (by simp [Y.okP]) rfl rfl (bU (bU (bU (bU (bU (bU (bU (bU (bU (bU (bU (bU (bU (bU (bU (bU (Y.F_putI (Y.F_nil ?_))))))))))))))))))
    refine eZ (bC (dQ (rm rfl (ro rfl (iY (Ht rfl) cW (Ej zo)) (ra rfl (eZ (bR [0,1] rfl (by decide) (fY (k + 1) hjn zo (aQ rfl (aQ rfl (aQ rfl (aZ rfl (aS zo) aX)))) (aU (fun _ _ _ h=>h) (aU (bO (by rw [eN,pH,← hq])) aY))))))))))
  ·obtain rfl : j = n := Nat.le_antisymm hj (a7j (by have h := of_decide_eq_false hc; omega))
   refine gV (i:=1) (tt:=9) rfl rfl jG (gW rfl (ts (rm rfl (ra rfl (ro rfl (cX (cV 0)) (eZ (bM rfl (fZ (eY rfl) ?_) (fZ (eY rfl) ?_))))))))
   ·exact (kO (by rw [he,jY,← hU]; rfl))
   ·exact (aS he.symm)
end
section
open Go Go.RowKit
theorem Xc {M:List (List Qi)} {n m:Nat} (hM:cI M n m) (hn:n ≤ 1000) (hm:m ≤ 1000):gG Tryz.prog 193 [bL M,Is (.slice none 0 0)] [] Nat (fun B=>Is (.slice (some ⟨B,0,none⟩) n n)) (fun B=>[oF B 29 51 5 (bP aI M)]) (fun _=>True):=by
 have h:=Ii (M:=M) (bs:=[]) hM (fun b hb=>by cases hb) hn hm (by simp)
 rw [Xr hM] at h
 exact h.arg a04
theorem a5A {M:List (List Qi)} {n G X:Nat} (hM:cI M n n) (hz:∀ i,i < n → SzS M (ek n i) n G X) (hn:n ≤ 32):bE Tryz.prog 248 [bL M] (eS [bL (dA (oM M n) (nN M n)),aT .i64 (oM M n)]):=by
 have hMl:=hM.1
 refine bE.intro Tryz.func248 rfl Tryz.ntmps248 rfl (fun cx=>(ts (ro rfl (cX cW) (ro rfl (cX (cV 0)) (eZ (cU (ts (rm rfl (ro rfl (cJ Tryz.call174 (Xm hM hn) ⟨(Ht rfl),trivial⟩) (ro rfl (dR (Ht rfl)) (eZ (iA (Ht rfl) (by rfl) ?_))))))))))))
 refine cY (ts (rm rfl (hJ Tryz.call193 (Xc hM zo zo) ⟨(Ht rfl),cW,trivial⟩ rfl (fun B14 _=>(ra rfl (eZ (cU (ts (rm rfl (ro rfl (dK U_30 (Ht rfl) (by rw [List.length_map,hMl])) ?_))))))))))
 refine ro rfl (cJ Tryz.call94 (a80 (n:=n) hn) ⟨(Ht rfl),trivial⟩) (ro rfl (dK U_30 (Ht rfl) aA) (ro rfl (cZ (cV 0)) (eZ (eK ?_))))
 refine bS (fun (k : Nat) => k ≤ n ∧ ∀ i, i < k → jX M (ek n i) n = 0) (fun (k : Nat) => n - k) (fun (k : Nat) => [(0, bL M), (4, Is (.slice (some ⟨B14, 0, none⟩) n n)), (17, bL (tS n)), (18, NT .i64 n), (19, NT .i64 k)]) (fun (k : Nat) => [oF B14 29 51 5 (bP aI (uX M n k 0))]) 0 ⟨Nat.zero_le _, fun i h => by omega⟩
  (aQ rfl (aQ rfl (aQ rfl (aZ rfl (lO (pI n).1) (zS rfl))))) (aU (bF (congrArg _ (Yc hM))) aY) (fun k ⟨hk,h0⟩=>?_)
 refine ts (ro rfl (gZ (Ht rfl) (Ht rfl)) (eZ (cU (dX (Ht rfl) (fun hd0=>?_) (fun hd0=>?_)))))
 ·simp only [decide_eq_true_eq] at hd0
  have hel:=a0R hd0
  refine cY (cU (eK (ts (rm rfl (ro rfl (dJ U_30 Z_29 (Ht rfl) (Ht rfl) rfl (eQ (dY (d:=[]) (by rw [(pI n).1]; exact hd0)))) ?_)))))
  refine ro rfl (dV A_29 Z_29 (Ht rfl)) (ra rfl (ra rfl (eZ (ts (rm rfl (rm rfl (ro rfl (cJ Tryz.call96 (a0k (M:=M) (b:=ek n k) (n:=n) (G:=G) (X:=X) hM hel (hz k hd0) zo hn) ⟨(Ht rfl),(Ht rfl),trivial⟩) (rm rfl (ro rfl (dU (Ht rfl) rfl) (ro rfl (dU (Ht rfl) rfl) (ra rfl (ra rfl (eZ (cU (ts (rm rfl (ro rfl (iR (Ht rfl) cW) (eZ (dX (Ht rfl) (fun he=>?_) (fun he=>?_))))))))))))))))))))
  ·have he2 : ¬ jX M (ek n k) n = 0 := by simpa using he
   have hi:=Uz h0 hd0 he2
   refine ts (rm rfl (ro rfl (cX cW) (ra rfl (eZ (bM rfl (fZ (eY rfl) ?_) (fZ (eY rfl) ?_))))))
   ·exact (fun v V h=>by rw [hi,dA,if_neg he2]; exact iL v V h)
   ·exact (aS hi.symm)
  ·have he2 : jX M (ek n k) n = 0 := by simpa using he
   have hxl:(jY M (ek n k) n).length = n:=tK _ _ _
   refine qC (E':=[(0,_),(4,_),(5,_),(7,_),(17,_),(18,_),(19,_)]) (aQ rfl (aQ rfl (aQ rfl (aZ rfl (kO (Us:=(jY M (ek n k) n).map aI) (by rw [he2]; rfl)) (zS rfl))))) ?_
   refine cY (ts (rm rfl (ro rfl (dK U_29 (Ht rfl) aA) (ro rfl (cZ (cV 0)) (eZ (eK ?_))))))
   refine bS (fun (i : Nat) => i ≤ n) (fun (i : Nat) => n - i) (fun (i : Nat) => [(0, bL M), (4, Is (.slice (some ⟨B14, 0, none⟩) n n)), (5, NT .i64 k), (7, bB (jY M (ek n k) n)), (17, bL (tS n)), (18, NT .i64 n), (19, NT .i64 k), (34, NT .i64 n), (35, NT .i64 i)]) (fun (i : Nat) => [oF B14 29 51 5 (bP aI (uX M n k i))]) 0 (Nat.zero_le _)
    (aQ rfl (aQ rfl (aQ rfl (aQ rfl (aQ rfl (aQ rfl (aQ rfl (aZ rfl (lO hxl) (zS rfl))))))))) (dE.refl _) (fun i hi=>?_)
   refine ts (ro rfl (gZ (Ht rfl) (Ht rfl)) (eZ (cU (dX (Ht rfl) (fun hf2=>?_) (fun hf2=>?_)))))
   ·simp only [decide_eq_true_eq] at hf2
    have hpl:=(sZ M n k i).1
    have hpr:((uX M n k i).getD i []).length = n:=(sZ M n k i).row hf2
    refine nF 0 (i) rfl (kY zo) (fun v=>(cY (cU (eK (ts (rm rfl (ra rfl (eZ (fJ (m:=9) (dp 4 rfl (cZ (Ht rfl)) (dp 9 rfl (cZ (Ht rfl)) (cP 38 0 39 1 rfl (gQ U_30 Z_29 (Ht rfl) (Ht rfl) rfl zo (by rw [Nat.mul_one,Nat.zero_add])) ?_))))))))))))
    refine dq 40 2 rfl (gI A_29 Z_29 (Ht rfl) (j:=0) rfl) (dp 5 rfl (cZ (Ht rfl)) (dp 7 rfl (cZ (Ht rfl)) (dp 9 rfl (cZ (Ht rfl)) (cP 43 5 44 6 rfl (dJ U_29 Z_51 (Ht rfl) (Ht rfl) rfl (eQ (dY (d:=Qi.zero) zo))) (dq 45 7 rfl (dV A_51 Z_51 (Ht rfl)) (fW aL rfl (by kernel_rfl) (zF (zF (aJ (aV (ro rfl (cR U_29 Z_51 (Ht rfl) (Ht rfl) rfl (i:=1) rfl (by rw [List.length_map]; omega) rfl) ?_)))))))))))
    refine kV Z_51 (Ht rfl) (Ht rfl) (El.ag rfl) (i:=1) rfl rfl (by rw [List.length_map]; omega) rfl ?_
    refine eZ (bC (dL 0 1 rfl rfl (by decide) (by simp only [bP,List.length_map]; omega) ?_))
    refine dQ (ro rfl (dW (Ht rfl) (cV 1) z6) (rm rfl (eZ (bR [0] rfl (by decide) (fY (i + 1) hf2 zo (zS rfl) (aU (bF (by rw [eN,eE,Yb hf2 hd0])) aY))))))
   ·simp only [decide_eq_false_iff_not] at hf2
    obtain rfl:n = i:=Nat.le_antisymm zo hi
    refine gW rfl (bC (dQ (ro rfl (dW (Ht rfl) (cV 1) z6) (rm rfl (eZ ?_)))))
    refine fY (k + 1) ⟨hd0, fun j h => by
     by_cases e:j = k
     ·rw [e]; exact he2
     ·exact h0 j zo⟩ zo (zS rfl) (aU (bF (by rw [a18])) aY)
 ·simp only [decide_eq_false_iff_not] at hd0
  obtain rfl:n = k:=Nat.le_antisymm zo hk
  have hi:=Iy h0
  refine gV (i:=0) (tt:=4) rfl rfl (fL (s:=5) (M:=uX M n n 0) (sZ M n n 0).1.symm) (gW rfl (ts (rm rfl (ra rfl (ro rfl (cX (cV 0)) (eZ (bM rfl (fZ (eY rfl) ?_) (fZ (eY rfl) ?_))))))))
  ·exact (kO (by rw [hi,a19]; rfl))
  ·exact (aS hi.symm)
end
section
open Go Go.RowKit
theorem Nf (x y:Qi):(x + y).conj = x.conj + y.conj:=Qi.ext' rfl (by show -(x.im + y.im) = -x.im + -y.im; grind)
theorem a0H (x y:Qi):(x - y).conj = x.conj - y.conj:=Qi.ext' rfl (by show -(x.im - y.im) = -x.im - -y.im; grind)
theorem Fi (x y:Qi):(x * y).conj = x.conj * y.conj:=Qi.ext' (by show x.re * y.re - x.im * y.im = x.re * y.re - -x.im * -y.im; grind) (by show -(x.re * y.im + x.im * y.re) = x.re * -y.im + -x.im * y.re; grind)
theorem qP:(0:Qi).conj = 0:=Qi.ext' rfl (by show -(0:Rat) = 0; grind)
theorem zV:(1:Qi).conj = 1:=Qi.ext' rfl (by show -(0:Rat) = 0; grind)
theorem a0I (n:Nat) (f:Nat → Qi):(aF n f).conj = aF n fun i=>(f i).conj:=by
 induction n with
 | zero=>exact qP
 | succ n ih=>rw [kD,kD,Nf,ih]
theorem mP (n:Nat) (a:Qi) (f:Nat → Qi):aF n (fun k=>a * f k) = a * aF n f:=by
 rw [show a * aF n f = aF n f * a by grind,← gM]; exact aC fun _ _=>by grind
def nD (N:Nat) (p q:Nat → Qi) (C:Nat → Nat → Qi):Qi:=aF N fun a=>aF N fun b=>p a * C a b * (q b).conj
theorem nQ {N : Nat} {p q p' q' : Nat → Qi} {C C' : Nat → Nat → Qi} (hp : ∀ a, a < N → p a = p' a) (hq : ∀ a, a < N → q a = q' a) (hC : ∀ a b, a < N → b < N → C a b = C' a b) : nD N p q C = nD N p' q' C' :=
 aC fun a ha=>aC fun b hb=>by rw [hp a ha,hq b hb,hC a b ha hb]
theorem a1N {N:Nat} {p q:Nat → Qi} {C D:Nat → Nat → Qi}:nD N p q (fun a b=>C a b + D a b) = nD N p q C + nD N p q D:=by
 rw [nD,nD,nD,← lP]
 refine aC fun a _=>?_
 rw [← lP]
 exact aC fun b _=>by grind
theorem Pf {N:Nat} {p q:Nat → Qi} {C D:Nat → Nat → Qi}:nD N p q (fun a b=>C a b - D a b) = nD N p q C - nD N p q D:=by
 have h:=a1N (N:=N) (p:=p) (q:=q) (C:=fun a b=>C a b - D a b) (D:=D)
 rw [show (fun a b=>C a b - D a b + D a b) = C from funext fun a=>funext fun b=>by grind] at h
 grind
theorem a1O {N:Nat} {p q:Nat → Qi} {C:Nat → Nat → Qi} {t:Qi}:nD N p q (fun a b=>t * C a b) = t * nD N p q C:=by
 rw [nD,nD,← mP]
 refine aC fun a _=>?_
 rw [← mP]
 exact aC fun b _=>by grind
theorem Gn {N M : Nat} {p q : Nat → Qi} {r : Nat → Nat → Qi} {C : Nat → Nat → Qi} :
  nD N p q (fun a b=>nD M (r a) (r b) C) = nD M (fun u=>aF N fun a=>p a * r a u) (fun u=>aF N fun a=>q a * r a u) C:=by
 have e : ∀ u v, (aF N fun a => p a * r a u) * C u v * (aF N fun b => q b * r b v).conj = aF N fun a => aF N fun b => p a * (r a u * C u v * (r b v).conj) * (q b).conj := fun u v => by
  rw [a0I,Qi.mul_assoc',← gM]
  refine aC fun a _=>?_
  rw [show p a * r a u * (C u v * aF N fun i=>(q i * r i v).conj) = (p a * r a u * C u v) * aF N fun i=>(q i * r i v).conj by grind,← mP]
  exact aC fun b _=>by rw [Fi]; grind
 have r1 : nD M (fun u => aF N fun a => p a * r a u) (fun u => aF N fun a => q a * r a u) C = aF M fun u => aF M fun v => aF N fun a => aF N fun b => p a * (r a u * C u v * (r b v).conj) * (q b).conj :=
  aC fun u _=>aC fun v _=>e u v
 have l1 : nD N p q (fun a b => nD M (r a) (r b) C) = aF N fun a => aF N fun b => aF M fun u => aF M fun v => p a * (r a u * C u v * (r b v).conj) * (q b).conj := by
  refine aC fun a _=>aC fun b _=>?_
  show p a * (aF M fun u=>aF M fun v=>r a u * C u v * (r b v).conj) * (q b).conj = _
  rw [← mP,← gM]
  refine aC fun u _=>?_
  rw [← mP,← gM]
 rw [r1,l1]
 have s1 : ∀ a, (aF N fun b => aF M fun u => aF M fun v => p a * (r a u * C u v * (r b v).conj) * (q b).conj) = aF M fun u => aF M fun v => aF N fun b => p a * (r a u * C u v * (r b v).conj) * (q b).conj := fun a => by
  rw [jO]
  exact aC fun u _=>jO _ _ _
 rw [aC fun a _=>s1 a,jO]
 refine aC fun u _=>?_
 rw [jO]
theorem oY {N : Nat} {p q : Nat → Qi} {d : Nat → Qi} : nD N p q (fun a b => if a = b then d a else 0) = aF N fun k => p k * d k * (q k).conj := aC fun a ha => by
 rw [cF ha (fun b _ hb=>by show p a * (if a = b then d a else 0) * (q b).conj = 0; rw [if_neg (Ne.symm hb)]; grind)]
 show p a * (if a = a then d a else 0) * (q a).conj = _
 rw [if_pos rfl]
theorem oS {p c:List (List Qi)} {N a b:Nat} (hc:c.length = N) (ha:a < p.length) (hb:b < p.length):gm (iZ p c) a b = nD N (gm p a) (gm p b) (gm c):=by
 rw [iZ,eR ha hb,hc]; rfl
theorem Mz {p c : List (List Qi)} {t : Qi} {N : Nat} (hc : c.length = N) : iZ p (kR t c N) = kR t (iZ p c) p.length :=
 gC mA cI.tab fun i hi j hj => by
  rw [oS (c:=kR t c N) (N:=N) (aN _ _) hi hj,show gm (kR t (iZ p c) p.length) i j = t * gm (iZ p c) i j from eR hi hj,oS hc hi hj,← a1O]
  exact nQ (fun _ _=>rfl) (fun _ _=>rfl) fun a b ha hb=>eR ha hb
theorem Ul {z:List Qi} {i j:Nat} (hi:i < z.length) (hj:j < z.length):gm (iN z) i j = if i = j then gv z i else 0:=by
 have e : gm (iN z) i j = gv ((tab z.length fun _ => Qi.zero).set i (gv z i)) j := by
  show gv ((iN z).getD i []) j = _
  rw [iN,rN hi]
 rw [e,uV (by rw [aN]; exact hi)]
 by_cases c:i = j
 ·rw [if_pos c.symm,if_pos c]
 ·rw [if_neg (Ne.symm c),if_neg c,gP hj]; rfl
theorem sM {z:List Qi} {s:List (List Qi)} {i j:Nat} (hs:s.length = z.length) (hi:i < z.length) (hj:j < z.length):gm (iG z s) i j = (if i = j then gv z i else 0) - aF z.length fun k=>gm s i k * gv z k * (gm s j k).conj:=by
 rw [iG,eR hi hj,Ul hi hj,oS (Fm z).1 zo zo,← oY]
 congr 1
 exact nQ (fun _ _=>rfl) (fun _ _=>rfl) fun a b ha hb=>Ul ha hb
section
variable {z:List Qi} {S c:List (List Qi)} {js:List (Int × Int)} {N:Nat}
theorem a3p {k:Nat}:k ∈ jnO js ↔ ∃ y,y < 2 * js.length ∧ gq (iS js) (qA y) = k:=by
 rw [jnO]
 constructor
 ·intro h; obtain ⟨y,hy,e⟩:=fH.1 h; exact ⟨y,hy,e⟩
 ·rintro ⟨y,hy,e⟩; exact fH.2 ⟨y,hy,e⟩
theorem a7E {k:Nat}:k ∈ jnO js ↔ k ∈ pZ js:=by
 rw [a3p,xK]
 constructor
 ·rintro ⟨y,hy,e⟩; exact ⟨qA y,tY hy,e⟩
 ·rintro ⟨y,hy,e⟩; exact ⟨qA y,tY hy,by rw [xR]; exact e⟩
theorem Ad {i k:Nat} (hk:k ∉ pZ js):Br S js i k = if k = i then 1 else 0:=by
 rw [Br,if_neg fun h=>hk (a7E.1 (Vc.1 h)),gnB]; rfl
theorem a4j (hj : Jn (iS js) N js.length) {i : Nat} (hi : i < N) (hil : i ∉ pZ js) {r v : Nat → Qi} (h1 : ∀ k, k < N → k ∉ pZ js → r k = if k = i then 1 else 0) (h2 : ∀ y, y < 2 * js.length → r (gq (iS js) (qA y)) = v y) (F : Nat → Qi) :
  aF N (fun k=>r k * F k) = F i + aF (2 * js.length) fun y=>v y * F (gq (iS js) (qA y)):=by
 have e : ∀ k, k < N → r k * F k = (if k = i then F k else 0) + aF (2 * js.length) fun y => if gq (iS js) (qA y) = k then v y * F k else 0 := fun k hk => by
  by_cases c:k ∈ pZ js
  ·obtain ⟨x, hx, e⟩ := xK.1 c
   have hne:¬ k = i:=fun e=>hil (e ▸ c)
   have hp:=tY hx
   rw [if_neg hne, cF (i := qA x) hp (fun y hy hne => if_neg fun e2 => hne (by
    have:=hj.inj _ _ (tY hy) hx (e2.trans e.symm)
    rw [← this,xR])),xR,if_pos e,← h2 (qA x) hp,xR,e]; grind
  ·rw [h1 k hk c, gU fun y hy => if_neg fun e2 => c (xK.2 ⟨qA y, tY hy, e2⟩)]
   by_cases d:k = i
   ·rw [if_pos d,if_pos d]; grind
   ·rw [if_neg d,if_neg d]; grind
 rw [aC e,lP,cF hi (fun k _ hk=>if_neg hk),if_pos rfl,jO]
 congr 1
 exact aC fun y hy => by
  rw [cF (hj.lt (qA y) (tY hy)) (fun k _ hk=>if_neg (Ne.symm hk)),if_pos rfl]
theorem a3r {x:Nat} (hx:x < 2 * js.length) (v:Nat → Qi):aF (2 * js.length) (fun y=>gm (jnT S js) x y * v y) = v x - aF (2 * js.length) fun y=>v y * gm S (gq (iS js) (qA y)) (gq (iS js) x):=by
 have e : ∀ y, y < 2 * js.length → gm (jnT S js) x y * v y = (if y = x then v x else 0) - 1 * (v y * gm S (gq (iS js) (qA y)) (gq (iS js) x)) := fun y hy => by
  have:gm (jnT S js) x y = Mg x y - gm S (gq (iS js) (qA y)) (gq (iS js) x):=eR hx hy
  rw [this,Mg]
  by_cases c:y = x
  ·subst c; rw [if_pos rfl,if_pos rfl,q1]; grind
  ·rw [if_neg c,if_neg (Ne.symm c),show Qi.ofInt 0 = (0:Qi) from rfl]; grind
 rw [aC e,pW,cF hx (fun k _ hk=>if_neg hk),if_pos rfl]; grind
abbrev JK (S:List (List Qi)) (js:List (Int × Int)):Prop:=∀ b,jX (xL S (iS js) (2 * js.length)) b (2 * js.length) = 0
theorem a3q (hk:JK S js) {i x:Nat} (hx:x < 2 * js.length):gv (Vf S js i) x = gm S i (gq (iS js) x) + aF (2 * js.length) fun y=>gv (Vf S js i) y * gm S (gq (iS js) (qA y)) (gq (iS js) x):=by
 have h:=(nE (Ag S js) (Rr hk zo (jnV S js i))).1 x hx
 rw [show gv (jnV S js i) x = gm S i (gq (iS js) x) from gP hx] at h
 have h2:=a3r (S:=S) hx (gv (Vf S js i))
 rw [show jY (jnT S js) (jnV S js i) (2 * js.length) = Vf S js i from rfl] at h
 rw [h] at h2
 grind
theorem Uw (hj : Jn (iS js) N js.length) (hk : JK S js) {i : Nat} (hi : i < N) (hil : i ∉ pZ js) (F : Nat → Qi) : aF N (fun k => Br S js i k * F k) = F i + aF (2 * js.length) fun y => gv (Vf S js i) y * F (gq (iS js) (qA y)) :=
 a4j hj hi hil (fun _ _ h=>Ad h) (fun _ hy=>a4Z hj hk hil hy) F
theorem a7C (hj:Jn (iS js) N js.length) (hk:JK S js) {i:Nat} (hi:i < N) (hil:i ∉ pZ js) {x:Nat} (hx:x < 2 * js.length):aF N (fun k=>Br S js i k * gm S k (gq (iS js) x)) = Br S js i (gq (iS js) (qA x)):=by
 rw [Uw hj hk hi hil,a4Z hj hk hil hx,a3q hk hx]
theorem a64 (hj:Jn (iS js) N js.length) (hk:JK S js) {i:Nat} (hi:i < N) (hil:i ∉ pZ js) (b:Nat):aF N (fun k=>Br S js i k * gm S k b) = jnX S (iS js) (2 * js.length) i b:=by
 rw [Uw hj hk hi hil,jnX]
 congr 1
 have hM:=Af S (iS js) (2 * js.length)
 have hw:=(nE hM (hk (jnB S (iS js) (2 * js.length) b))).1
 have hq : ∀ y, y < 2 * js.length → aF (2 * js.length) (fun x => gv (Vf S js i) x * gm (xL S (iS js) (2 * js.length)) x y) = gm S i (gq (iS js) y) := fun y hy => by
  have h:=(nE (Ag S js) (Rr hk zo (jnV S js i))).1 y hy
  rw [show gv (jnV S js i) y = gm S i (gq (iS js) y) from gP hy] at h
  rw [← h]
  exact aC fun x hx=>by rw [Rq hy hx]; show _ = _ * gv (Vf S js i) x; grind
 have e1 : aF (2 * js.length) (fun y => gv (Vf S js i) y * gm S (gq (iS js) (qA y)) b) = aF (2 * js.length) fun y => aF (2 * js.length) fun k => gv (Vf S js i) y * gm (xL S (iS js) (2 * js.length)) y k * gv (jY (xL S (iS js) (2 * js.length)) (jnB S (iS js) (2 * js.length) b) (2 * js.length)) k := aC fun y hy => by
  have h:=hw y hy
  rw [a6g hy] at h
  rw [← h,← mP]
  exact aC fun _ _=>by grind
 rw [e1,jO]
 exact aC fun k hkk=>by rw [gM,hq k hkk]
theorem a1f (G : List Nat) (f : Nat → Qi) : ∀ n, aF n (fun k => if k ∈ G then 0 else f k) = aF (iQ G n).length fun a => f (gY (iQ G n) a)
 | 0=>rfl
 | n + 1 => by
  rw [kD,a1f G f n,iQ]
  by_cases c:n ∈ G
  ·rw [if_pos c,if_pos c,List.append_nil]; grind
  ·rw [if_neg c, if_neg c, List.length_append, show [n].length = 1 from rfl, kD]
   congr 1
   ·exact aC fun a ha=>by simp only [gY,List.getD,List.getElem?_append_left ha]
   ·simp [gY,List.getD]
theorem Oe (hj:Jn (iS js) N js.length) (f:Nat → Qi):aF N f = (aF (iQ (pZ js) N).length fun a=>f (gY (iQ (pZ js) N) a)) + aF (2 * js.length) fun y=>f (gq (iS js) y):=by
 rw [← a1f]
 have e : ∀ k, k < N → f k = (if k ∈ pZ js then 0 else f k) + aF (2 * js.length) fun y => if gq (iS js) y = k then f k else 0 := fun k hk => by
  by_cases c:k ∈ pZ js
  ·obtain ⟨x, hx, e⟩ := xK.1 c
   rw [if_pos c,cF hx (fun y hy hne=>if_neg fun e2=>hne (hj.inj _ _ hy hx (e2.trans e.symm))),if_pos e]; grind
  ·rw [if_neg c,gU fun y hy=>if_neg fun e2=>c (xK.2 ⟨y,hy,e2⟩)]; grind
 rw [aC e,lP]
 congr 1
 rw [jO]
 exact aC fun y hy=>by rw [cF (hj.lt y hy) (fun k _ hk=>if_neg (Ne.symm hk)),if_pos rfl]
theorem We (f : Nat → Qi) : ∀ m, aF (2 * m) (fun y => f (qA y)) = aF (2 * m) f
 | 0=>rfl
 | m + 1 => by
  rw [show 2 * (m + 1) = 2 * m + 1 + 1 by omega,kD,kD,kD,kD,We f m,show qA (2 * m) = 2 * m + 1 by unfold qA; split <;> omega,show qA (2 * m + 1) = 2 * m by unfold qA; split <;> omega]; grind
theorem Fv {G:List Nat} {n a:Nat} (h:a < (iQ G n).length):gY (iQ G n) a ∉ G:=by
 have : ∀ n x, x ∈ iQ G n → x ∉ G := fun n => by
  induction n with
  | zero=>intro x h; cases h
  | succ n ih =>
   intro x h
   rcases List.mem_append.1 h with h1 | h1
   ·exact ih x h1
   ·by_cases c : n ∈ G
    ·rw [if_pos c] at h1; cases h1
    ·rw [if_neg c] at h1; rw [List.mem_singleton.1 h1]; exact c
 refine this n _ ?_
 rw [show gY (iQ G n) a = (iQ G n)[a] by simp [gY,List.getD,h]]; exact List.getElem_mem h
theorem Vg {G:List Nat} {n a:Nat} (h:a < (iQ G n).length):gY (iQ G n) a < n:=rL (fun _ k=>Le k) h
theorem Iz (G : List Nat) : ∀ n, (iQ G n).Pairwise (· < ·)
 | 0=>List.Pairwise.nil
 | n + 1 => by
  rw [iQ,List.pairwise_append]
  refine ⟨Iz G n,?_,fun a ha b hb=>?_⟩
  ·split
   ·exact List.Pairwise.nil
   ·exact List.pairwise_singleton _ _
  ·have := Le ha
   split at hb
   ·cases hb
   ·rw [List.mem_singleton.1 hb]; exact this
theorem Oi {G:List Nat} {n a b:Nat} (ha:a < (iQ G n).length) (hb:b < (iQ G n).length) (e:gY (iQ G n) a = gY (iQ G n) b):a = b:=by
 have hs:=List.pairwise_iff_getElem.1 (Iz G n)
 have e1:∀ i (h:i < (iQ G n).length),gY (iQ G n) i = (iQ G n)[i]:=fun i h=>by simp [gY,List.getD,h]
 rw [e1 a ha,e1 b hb] at e
 rcases Nat.lt_trichotomy a b with c | c | c
 ·have:=hs a b ha hb c; omega
 ·exact c
 ·have:=hs b a hb ha c; omega
theorem a13 {a k:Nat} (ha:a < (iQ (pZ js) N).length) (hk:k < N):gm (Mf S js N) a k = Br S js (gY (iQ (pZ js) N) a) k:=by
 rw [Mf,Ro ha,gP hk]
theorem a2Y (hS : cI S z.length z.length) (hj : Jn (iS js) z.length js.length) (hk : JK S js) (hz : ∀ y, y < 2 * js.length → gv z (gq (iS js) y) = gv z (gq (iS js) (qA y))) :
  iZ (Mf S js z.length) (iG z S) = iG (Ye z js) (Od z S js):=by
 have hl:(Mf S js z.length).length = (iQ (pZ js) z.length).length:=by rw [Mf,List.length_map]
 have hzl:(Ye z js).length = (iQ (pZ js) z.length).length:=aN _ _
 have hsl:(Od z S js).length = (Ye z js).length:=by rw [Od,aN,hzl]; rfl
 refine gC (n:=(iQ (pZ js) z.length).length) (m:=(iQ (pZ js) z.length).length) (by rw [← hl]; exact mA) (by rw [← hzl]; exact nC _ _) fun a ha b hb=>?_
 have fa:=Fv ha
 have fb:=Fv hb
 have la:=Vg ha
 have lb:=Vg hb
 have hab:a = b ↔ gY (iQ (pZ js) z.length) a = gY (iQ (pZ js) z.length) b:=⟨fun e=>e ▸ rfl,Oi ha hb⟩
 rw [oS (N:=z.length) (nC z S).1 zo zo,sM hsl zo zo,hzl]
 have e1:∀ k,k < (iQ (pZ js) z.length).length → gm (Od z S js) a k = jnX S (iS js) (2 * js.length) (gY (iQ (pZ js) z.length) a) (gY (iQ (pZ js) z.length) k):=fun k hk=>eR ha hk
 have e2:∀ k,k < (iQ (pZ js) z.length).length → gm (Od z S js) b k = jnX S (iS js) (2 * js.length) (gY (iQ (pZ js) z.length) b) (gY (iQ (pZ js) z.length) k):=fun k hk=>eR hb hk
 have e3:∀ k,k < (iQ (pZ js) z.length).length → gv (Ye z js) k = gv z (gY (iQ (pZ js) z.length) k):=fun k hk=>gP hk
 rw [e3 a ha,aC fun k hk=>by rw [e1 k hk,e2 k hk,e3 k hk]]
 have q0 : nD z.length (gm (Mf S js z.length) a) (gm (Mf S js z.length) b) (gm (iG z S)) = nD z.length (Br S js (gY (iQ (pZ js) z.length) a)) (Br S js (gY (iQ (pZ js) z.length) b)) (fun u v => (if u = v then gv z u else 0) - nD z.length (gm S u) (gm S v) (fun x y => if x = y then gv z x else 0)) :=
  nQ (fun k hk=>a13 ha hk) (fun k hk=>a13 hb hk) fun u v hu hv=>by rw [sM hS.1 hu hv,oY]
 rw [q0,Pf,oY,Gn,oY]
 generalize hA:gY (iQ (pZ js) z.length) a = A at *
 generalize hB:gY (iQ (pZ js) z.length) b = B at *
 rw [Oe hj,Oe hj (fun k=>(aF z.length fun a_1=>Br S js A a_1 * gm S a_1 k) * gv z k * (aF z.length fun a_1=>Br S js B a_1 * gm S a_1 k).conj)]
 have p1 : aF (iQ (pZ js) z.length).length (fun k => Br S js A (gY (iQ (pZ js) z.length) k) * gv z (gY (iQ (pZ js) z.length) k) * (Br S js B (gY (iQ (pZ js) z.length) k)).conj) = if a = b then gv z A else 0 := by
  rw [cF ha (fun k hk hne => by
   rw [Ad (Fv hk),if_neg fun e=>hne (Oi hk ha (e.trans hA.symm))]; grind),hA,Ad fa,if_pos rfl,Ad fa]
  by_cases c:a = b
  ·rw [if_pos c,if_pos (hab.1 c),zV]; grind
  ·rw [if_neg c,if_neg fun e=>c (hab.2 e),qP]; grind
 have p2 : aF (2 * js.length) (fun y => (aF z.length fun k => Br S js A k * gm S k (gq (iS js) y)) * gv z (gq (iS js) y) * (aF z.length fun k => Br S js B k * gm S k (gq (iS js) y)).conj) = aF (2 * js.length) fun y => Br S js A (gq (iS js) y) * gv z (gq (iS js) y) * (Br S js B (gq (iS js) y)).conj := by
  rw [← We (fun y=>Br S js A (gq (iS js) y) * gv z (gq (iS js) y) * (Br S js B (gq (iS js) y)).conj)]
  exact aC fun y hy=>by rw [a7C hj hk la fa hy,a7C hj hk lb fb hy,hz y hy]
 have p3 : aF (iQ (pZ js) z.length).length (fun k => (aF z.length fun u => Br S js A u * gm S u (gY (iQ (pZ js) z.length) k)) * gv z (gY (iQ (pZ js) z.length) k) * (aF z.length fun u => Br S js B u * gm S u (gY (iQ (pZ js) z.length) k)).conj) = aF (iQ (pZ js) z.length).length fun k => jnX S (iS js) (2 * js.length) A (gY (iQ (pZ js) z.length) k) * gv z (gY (iQ (pZ js) z.length) k) * (jnX S (iS js) (2 * js.length) B (gY (iQ (pZ js) z.length) k)).conj :=
  aC fun k _=>by rw [a64 hj hk la fa,a64 hj hk lb fb]
 rw [p1,p2,p3]
 grind
theorem a82 (hd:jdE z js = 0) {y:Nat} (hy:y < 2 * js.length):gv z (gq (iS js) y) = gv z (gq (iS js) (qA y)):=by
 have key : ∀ k, k < js.length → gv z (gq (iS js) (2 * k)) = gv z (gq (iS js) (2 * k + 1)) := fun k hk => by
  obtain ⟨_,_,e⟩:=Og (kI hd k hk)
  rw [(a53 hk).1,(a53 hk).2]; exact e
 have h:=key (y / 2) zo
 by_cases c:y % 2 = 0
 ·rw [show qA y = 2 * (y / 2) + 1 by unfold qA; rw [if_pos c]; omega,← h]; congr 2; omega
 ·rw [show qA y = 2 * (y / 2) by unfold qA; rw [if_neg c]; omega,h]; congr 2; omega
theorem Ky {z zb:List Qi} {k:Nat} (h:k < z.length):gv (z ++ zb) k = gv z k:=by simp only [gv,List.getD,List.getElem?_append_left h]
theorem Ux {z zb:List Qi} {k:Nat}:gv (z ++ zb) (z.length + k) = gv zb k:=by simp only [gv,List.getD,List.getElem?_append_right (Nat.le_add_right _ _),Nat.add_sub_cancel_left]
theorem a1I {z zb:List Qi} {a b:List (List Qi)} (ha:a.length = z.length) (hb:b.length = zb.length):iG (z ++ zb) (tF a b z.length zb.length) = tF (iG z a) (iG zb b) z.length zb.length:=by
 have hl:(z ++ zb).length = z.length + zb.length:=List.length_append
 refine gC (n:=z.length + zb.length) (m:=z.length + zb.length) (by rw [← hl]; exact nC _ _) (wQ _ _ _ _) fun i hi j hj=>?_
 have g1:∀ i k,i < z.length → k < z.length → gm (tF a b z.length zb.length) i k = gm a i k:=fun i k h1 h2=>by rw [iE zo zo,if_pos h1,if_pos h2]
 have g2:∀ i k,i < z.length → k < zb.length → gm (tF a b z.length zb.length) i (z.length + k) = 0:=fun i k h1 h2=>by rw [iE zo zo,if_pos h1,if_neg zo]; rfl
 have g3:∀ i k,i < zb.length → k < z.length → gm (tF a b z.length zb.length) (z.length + i) k = 0:=fun i k h1 h2=>by rw [iE zo zo,if_neg zo,if_neg zo]; rfl
 have g4:∀ i k,i < zb.length → k < zb.length → gm (tF a b z.length zb.length) (z.length + i) (z.length + k) = gm b i k:=fun i k h1 h2=>by rw [iE zo zo,if_neg zo,if_pos zo,Nat.add_sub_cancel_left,Nat.add_sub_cancel_left]
 rw [sM (by rw [(wQ _ _ _ _).1,hl]) zo zo,hl,tG]
 by_cases ci:i < z.length
 ·by_cases cj : j < z.length
  ·rw [iE hi hj, if_pos ci, if_pos cj, sM ha ci cj, Ky ci, gU (m := zb.length) fun k hk => by rw [g2 i k ci hk]; grind]
   rw [aC fun k hk=>by rw [g1 i k ci hk,g1 j k cj hk,Ky hk]]; grind
  ·obtain ⟨j', rfl⟩ : ∃ j', j = z.length + j' := ⟨j - z.length, by omega⟩
   rw [iE hi hj,if_pos ci,if_neg cj,if_neg zo,gU (m:=zb.length) (fun k hk=>by rw [g2 i k ci hk]; grind),gU fun k hk=>by rw [g3 j' k zo hk,qP]; grind]
   show _ = (0:Qi); grind
 ·obtain ⟨i', rfl⟩ : ∃ i', i = z.length + i' := ⟨i - z.length, by omega⟩
  by_cases cj:j < z.length
  ·rw [iE hi hj, if_neg ci, if_neg zo, if_neg zo, gU (m := z.length) (fun k hk => by rw [g3 i' k zo hk]; grind), gU fun k hk => by rw [g2 j k cj hk, qP]; grind]
   show _ = (0:Qi); grind
  ·obtain ⟨j', rfl⟩ : ∃ j', j = z.length + j' := ⟨j - z.length, by omega⟩
   rw [iE hi hj,if_neg ci,if_pos (show z.length ≤ z.length + j' by omega),Nat.add_sub_cancel_left,Nat.add_sub_cancel_left,sM hb zo zo,Ux,gU (m:=z.length) fun k hk=>by rw [g3 i' k zo hk]; grind]
   rw [aC fun k hk=>by rw [g4 i' k zo hk,g4 j' k zo hk,Ux]]
   by_cases c:i' = j'
   ·rw [if_pos c,if_pos (show z.length + i' = z.length + j' by omega)]; grind
   ·rw [if_neg c,if_neg (show ¬ z.length + i' = z.length + j' by omega)]; grind
theorem a20 {c d : List (List Qi)} {t : Qi} {x y : Nat} : kR t (tF c d x y) (x + y) = tF (kR t c x) (kR t d y) x y := gC oK (wQ _ _ _ _) fun i hi j hj => by
 rw [kR,eR hi hj,iE hi hj,iE hi hj]
 by_cases ci:i < x
 ·rw [if_pos ci, if_pos ci]
  by_cases cj:j < x
  ·rw [if_pos cj,if_pos cj,kR,eR ci cj]
  ·rw [if_neg cj,if_neg cj]; show t * (0:Qi) = 0; grind
 ·rw [if_neg ci, if_neg ci]
  by_cases cj:x ≤ j
  ·rw [if_pos cj,if_pos cj,kR,eR zo zo]
  ·rw [if_neg cj,if_neg cj]; show t * (0:Qi) = 0; grind
end
end
section
open Go Go.RowKit
section
variable {z w:List Qi} {s:List (List Qi)} {n:Nat}
theorem Sl (hw:w.length = n) {i j:Nat} (hi:i < n) (hj:j < n):gm (Hn z w s) i j = (if i = j then 1 - fT z w i else 0) + (1 + fT z w i) * gm s i j:=by
 subst hw
 have e:gm (Hn z w s) i j = Zn (Zq z w) (Zr z w) s i j:=eR hi hj
 rw [e,Zn,Zq,Zr,gP hi,gP hi]; rfl
theorem Sm (hw:w.length = n) {i j:Nat} (hi:i < n) (hj:j < n):gm (qT z w s) i j = (if i = j then 1 + fT z w i else 0) + (1 - fT z w i) * gm s i j:=by
 subst hw
 have e:gm (qT z w s) i j = Zn (Zr z w) (Zq z w) s i j:=eR hi hj
 rw [e,Zn,Zq,Zr,gP hi,gP hi]; rfl
theorem a58 (hz:z.length = n) (hw:w.length = n) (hp:z.all eO = true) (hq:w.all eO = true) {i:Nat} (hi:i < n):fT z w i * fT w z i = 1:=by
 have a:=sJ (x:=gv w i) (nZ hp (show i < z.length by omega))
 have b:=sJ (x:=gv z i) (nZ hq (show i < w.length by omega))
 have c:=pS (nZ hp (show i < z.length by omega))
 rw [fT,fT]
 generalize gv w i / gv z i = u at a ⊢
 generalize gv z i / gv w i = v at b ⊢
 generalize gv z i = x at a b c ⊢
 generalize gv w i = y at a b ⊢
 have e:u * v = u * v * (x * Qi.inv x):=by rw [c]; grind
 have e2:u * v * (x * Qi.inv x) = (v * (u * x)) * Qi.inv x:=by grind
 rw [e,e2,a,b,c]
theorem qK (hz:z.length = n) (hw:w.length = n) (h:uE z w s = 0):w.all eO = true ∧ oM (qT z w s) n = 0 ∧ jQ z w s = iK (Hn z w s) (nN (qT z w s) n) n n n ∧ yK z w s = w:=by
 have e:=h
 rw [uE,if_neg zo] at e
 by_cases c:w.all eO = true
 ·rw [if_pos c] at e
  subst hw
  exact ⟨c,a1G e,by rw [jQ,dA,if_pos h],by rw [yK,dA,if_pos h]⟩
 ·rw [if_neg c] at e; omega
def qrt:Qi:=lG * lG
theorem Pe:(4:Qi) * qrt = 1:=by show Qi.ofInt 4 * qrt = Qi.ofInt 1; decide +kernel
theorem a86 (hw : w.length = n) (hu : ∀ i, i < n → fT z w i * fT w z i = 1) :
    Ja 1 (rsM (fun i=>1 + fT w z i) (qT z w s) n) 1 (rsM (fun i=>1 - fT w z i) (Hn z w s) n) n = Ja 4 (tS n) 0 (tS n) n
    ∧ Ja 1 (rsM (fun i=>1 - fT w z i) (qT z w s) n) 1 (rsM (fun i=>1 + fT w z i) (Hn z w s) n) n = Ja 4 s 0 s n:=by
  constructor <;> refine a1h fun i hi j hj => ?_ <;> rw [Bz hi hj, Bz hi hj, Sl hw hi hj, Sm hw hi hj] <;> (try rw [uT hi hj]) <;>
    (have h := hu i hi
     generalize fT z w i = u at h ⊢
     generalize fT w z i = v at h ⊢
     generalize gm s i j = x
     by_cases c:i = j
     · simp only [if_pos c]; clear c hu hw; grind
     · simp only [if_neg c]; clear c hu hw; grind)
theorem Wj (hz : z.length = n) (hw : w.length = n) (hs : cI s n n) (hp : z.all eO = true) (h : uE z w s = 0) :
  uE w z (jQ z w s) = 0 ∧ jQ w z (jQ z w s) = s ∧ yK w z (jQ z w s) = z:=by
 obtain ⟨hq,hi,hS,-⟩:=qK hz hw h
 have hu:∀ i,i < n → fT z w i * fT w z i = 1:=fun i hi=>a58 hz hw hp hq hi
 have hBs:cI (qT z w s) n n:=by rw [← hw]; exact lI _ _ _ _
 have r:=Va hBs hi
 have l:=a1b hBs hi
 have hC:=rG (qT z w s) n
 obtain ⟨t1,t2⟩:=a86 (s:=s) hw hu
 generalize hDD:nN (qT z w s) n = C at *
 have key : ∀ f g : Nat → Qi, ∀ i, i < n → ∀ j, j < n → gm (iK (Ja 1 (rsM f (qT z w s) n) 1 (rsM g (Hn z w s) n) n) C n n n) i j = (if i = j then f i else 0) + g i * gm (jQ z w s) i j := fun f g i hi j hj => by
  rw [Fx,a1X,a1X,r,← hS,rH hi hj,Bz hi hj,Bz hi hj,uT hi hj]
  by_cases c:i = j
  ·rw [if_pos c,if_pos c]; grind
  ·rw [if_neg c,if_neg c]; grind
 have eB : qT w z (jQ z w s) = Ja 4 C 0 C n := by
  have hA:cI (qT w z (jQ z w s)) n n:=by rw [← hz]; exact lI _ _ _ _
  have e1:iK (Ja 4 (tS n) 0 (tS n) n) C n n n = Ja 4 C 0 C n:=by rw [Fx,Vm hC]
  rw [← e1,← t1]
  exact gC hA gS fun i hi j hj=>by rw [key _ _ i hi j hj,Sm hz hi hj]
 have eA : Hn w z (jQ z w s) = Ja 4 (iK s C n n n) 0 (iK s C n n n) n := by
  have hA:cI (Hn w z (jQ z w s)) n n:=by rw [← hz]; exact lI _ _ _ _
  rw [← Fx,← t2]
  exact gC hA gS fun i hi j hj=>by rw [key _ _ i hi j hj,Sl hz hi hj]
 obtain ⟨i1,i2⟩:=Yd (x:=4) (y:=qrt) Pe r (D:=C)
 have hE : uE w z (jQ z w s) = 0 := by
  rw [uE,if_neg zo,if_pos hp,eB,hz]; exact a6C i1
 refine ⟨hE,?_,by rw [yK,dA,if_pos hE]⟩
 rw [jQ,dA,if_pos hE,hz,eA,eB,i2,a1p,Fx,Gd,l,Vn hs]
 refine gC sA hs fun i hi j hj=>?_
 have:=Pe
 rw [rH hi hj,rH hi hj]; grind
end
end
section
open Go Go.RowKit
section
variable {z w:List Qi} {s c:List (List Qi)} {n:Nat}
def qQ (z w:List Qi) (S:List (List Qi)) (i k:Nat):Qi:=if i = k then (1 + fT z w k) * lG - gm S i k * ((1 - fT z w k) * lG) else -(gm S i k * ((1 - fT z w k) * lG))
def Cq (z w:List Qi) (S:List (List Qi)) (n:Nat):List (List Qi):=tab n fun i=>tab n fun k=>qQ z w S i k
def Cp (z w:List Qi) (s c:List (List Qi)):List (List Qi):=dA (uE z w s) (iZ (Cq z w (jQ z w s) w.length) c)
theorem a1v {S:List (List Qi)} {i k:Nat}:qQ z w S i k = (if i = k then (1 + fT z w k) * lG else 0) - gm S i k * ((1 - fT z w k) * lG):=by
 unfold qQ
 by_cases e:i = k
 ·rw [if_pos e,if_pos e]
 ·rw [if_neg e,if_neg e]; grind
theorem tW (z w:List Qi) (S:List (List Qi)) (n:Nat):cI (Cq z w S n) n n:=cI.tab
theorem Bx {S:List (List Qi)} {i k:Nat} (hi:i < n) (hk:k < n):gm (Cq z w S n) i k = qQ z w S i k:=eR hi hk
theorem a6I (hz:z.length = n) (hw:w.length = n) (h:uE z w s = 0) {i j:Nat} (hi:i < n) (hj:j < n):(aF n fun u=>gm (jQ z w s) i u * gm (qT z w s) u j) = gm (Hn z w s) i j:=by
 obtain ⟨hq,hiB,hS,-⟩:=qK hz hw h
 have hBs:cI (qT z w s) n n:=by rw [← hw]; exact lI _ _ _ _
 have l:=a1b hBs hiB
 have e1:∀ u,u < n → gm (jQ z w s) i u = aF n fun v=>gm (Hn z w s) i v * gm (nN (qT z w s) n) v u:=fun u hu=>by rw [hS,jV hi hu]
 have e2:∀ v,v < n → (aF n fun u=>gm (nN (qT z w s) n) v u * gm (qT z w s) u j) = if v = j then 1 else 0:=fun v hv=>by rw [← jV hv hj,l,uT hv hj]
 have e3 : ∀ u, u < n → gm (jQ z w s) i u * gm (qT z w s) u j = aF n fun v => gm (Hn z w s) i v * (gm (nN (qT z w s) n) v u * gm (qT z w s) u j) := fun u hu => by
  rw [e1 u hu,← gM]; exact aC fun v _=>by grind
 rw [aC e3,jO]
 have e4:∀ v,v < n → (aF n fun u=>gm (Hn z w s) i v * (gm (nN (qT z w s) n) v u * gm (qT z w s) u j)) = gm (Hn z w s) i v * (if v = j then 1 else 0):=fun v hv=>by rw [mP,e2 v hv]
 rw [aC e4,cF hj (fun v _ hne=>by rw [if_neg hne]; grind),if_pos rfl]; grind
theorem a57 (hz : z.length = n) (hw : w.length = n) (h : uE z w s = 0) {i j : Nat} (hi : i < n) (hj : j < n) :
  (aF n fun u=>gm (jQ z w s) i u * ((1 - fT z w u) * gm s u j)) = (if i = j then 1 - fT z w i else 0) + (1 + fT z w i) * gm s i j - gm (jQ z w s) i j * (1 + fT z w j):=by
 have a:=a6I hz hw h hi hj
 rw [Sl hw hi hj] at a
 have e : ∀ u, u < n → gm (jQ z w s) i u * gm (qT z w s) u j = (if u = j then gm (jQ z w s) i u * (1 + fT z w u) else 0) + gm (jQ z w s) i u * ((1 - fT z w u) * gm s u j) := fun u hu => by
  rw [Sm hw hu hj]
  by_cases k:u = j
  ·rw [if_pos k,if_pos k]; grind
  ·rw [if_neg k,if_neg k]; grind
 rw [aC e,lP,cF hj (fun u _ hne=>if_neg hne),if_pos rfl] at a
 grind
theorem a85 (hz : z.length = n) (hw : w.length = n) (h : uE z w s = 0) {i j : Nat} (hi : i < n) (hj : j < n) :
  (aF n fun u=>qQ z w (jQ z w s) i u * gm s u j) = lG * (gm (jQ z w s) i j * (1 + fT z w j) - if i = j then 1 - fT z w i else 0):=by
 have e : ∀ u, u < n → qQ z w (jQ z w s) i u * gm s u j = (if u = i then (1 + fT z w i) * lG * gm s i j else 0) - lG * (gm (jQ z w s) i u * ((1 - fT z w u) * gm s u j)) := fun u hu => by
  rw [a1v]
  by_cases k:u = i
  ·subst k; rw [if_pos rfl,if_pos rfl]; grind
  ·rw [if_neg k,if_neg (Ne.symm k)]; grind
 rw [aC e,pW,cF hi (fun u _ hne=>if_neg hne),if_pos rfl,a57 hz hw h hi hj]
 grind
abbrev dl (i k:Nat):Qi:=if i = k then 1 else 0
theorem Js {n:Nat} (f g:Nat → Qi):aF n f - aF n g = aF n fun k=>f k - g k:=by
 rw [aC (f:=fun k=>f k - g k) (g:=fun k=>f k - 1 * g k) (fun k _=>by grind),pW]; grind
theorem a37 {i k:Nat} (e:i = k):dl i k = 1:=if_pos e
theorem a36 {i k:Nat} (e:¬ i = k):dl i k = 0:=if_neg e
theorem o11 (x:Qi):1 * 1 * x = x:=by grind
theorem o10 (x:Qi):1 * 0 * x = 0:=by grind
theorem a38 (i k:Nat):(dl i k).conj = dl i k:=by
 unfold dl
 by_cases e:i = k
 ·rw [if_pos e]; exact zV
 ·rw [if_neg e]; exact qP
theorem Li {S:List (List Qi)} {i k:Nat}:qQ z w S i k = dl i k * ((1 + fT z w k) * lG) - gm S i k * ((1 - fT z w k) * lG):=by
 rw [a1v]
 by_cases e:i = k
 ·rw [if_pos e,a37 e]; grind
 ·rw [if_neg e,a36 e]; grind
theorem a55 (hz : z.length = n) (hw : w.length = n) (h : uE z w s = 0) {i j : Nat} (hi : i < n) (hj : j < n) :
  (aF n fun u=>qQ z w (jQ z w s) i u * gm s u j) = lG * (gm (jQ z w s) i j * (1 + fT z w j) - dl i j * (1 - fT z w j)):=by
 rw [a85 hz hw h hi hj]
 by_cases e:i = j
 ·rw [if_pos e,a37 e,e]; grind
 ·rw [if_neg e,a36 e]; grind
theorem a6q {a b r x x' y h:Qi} (h4:h * h * 4 = 1):(a * ((1 + r) * h) - x * ((1 - r) * h)) * y * (b * ((1 + r) * h) - x' * ((1 - r) * h)) - (h * (x * (1 + r) - a * (1 - r))) * y * (h * (x' * (1 + r) - b * (1 - r))) = a * b * (r * y) - x * (r * y) * x':=by grind
theorem a3K {a r v v' x y h:Qi} (h4:h * h * 4 = 1) (u1:r * v = 1) (u2:a * (v' - v) = 0):((1 + v') * h) * (a * ((1 + r) * h) - y * ((1 - r) * h)) + -(x * ((1 - v) * h) * ((1 + r) * h)) + h * h * (1 - r) * (a * (1 - v') + (1 + v') * y - x * (1 + v)) = a:=by grind
theorem Oa:lG * lG * 4 = 1:=by rw [show lG * lG * 4 = (lG * 2) * (lG * 2) by grind,a81]; grind
theorem a0G:lG.conj = lG:=by decide +kernel
theorem Jh {x:Qi} (h:eO x = true):x.conj = x:=by
 have hb:=a6D h
 have e : x.im = 0 := by
  have h2:=(Ui x).2
  rw [hb] at h2
  have hd : ((x.den : Int) : Rat) ≠ 0 := by
   have:=x.den_pos
   intro k
   have:(x.den:Int) = 0:=by exact_mod_cast k
   omega
  have h3:((x.den:Int):Rat) * x.im = 0:=by rw [h2]; rfl
  rcases Rat.mul_eq_zero.1 h3 with k | k
  ·exact absurd k hd
  ·exact k
 exact Qi.ext' rfl (by show -x.im = x.im; rw [e]; rfl)
theorem a1T (hz:z.length = n) (hw:w.length = n) (hp:z.all eO = true) (hq:w.all eO = true) {k:Nat} (hk:k < n):(fT z w k).conj = fT z w k ∧ fT z w k * gv z k = gv w k:=by
 have hne:=nZ hp (show k < z.length by omega)
 have e:=sJ (x:=gv w k) hne
 have e2:fT z w k * gv z k = gv w k:=e
 have pz : eO (gv z k) = true := by
  rw [List.all_eq_true] at hp
  exact hp _ (by rw [show gv z k = z[k]'zo by simp [gv,List.getD,show k < z.length by omega]]; exact List.getElem_mem _)
 have pw : eO (gv w k) = true := by
  rw [List.all_eq_true] at hq
  exact hq _ (by rw [show gv w k = w[k]'zo by simp [gv,List.getD,show k < w.length by omega]]; exact List.getElem_mem _)
 refine ⟨?_,e2⟩
 have c:=congrArg Qi.conj e2
 rw [Fi,Jh pz,Jh pw] at c
 have d:((fT z w k).conj - fT z w k) * gv z k = 0:=by grind
 rcases jL d with k1 | k1
 ·grind
 ·exact absurd k1 hne
theorem a6r (hz:z.length = n) (hw:w.length = n) (hs:cI s n n) (hp:z.all eO = true) (h:uE z w s = 0):iZ (Cq z w (jQ z w s) n) (iG z s) = iG w (jQ z w s):=by
 obtain ⟨hq,-,hS,-⟩:=qK hz hw h
 have hS2:cI (jQ z w s) n n:=by rw [hS]; exact gS
 have hl:=(tW z w (jQ z w s) n).1
 refine gC (n:=n) (m:=n) (by have:=mA (p:=Cq z w (jQ z w s) n) (c:=iG z s); rwa [hl] at this) (by have:=nC w (jQ z w s); rwa [hw] at this) fun i hi j hj=>?_
 rw [oS (N:=n) (by rw [(nC z s).1,hz]) zo zo,sM (by rw [hS2.1,hw]) zo zo,hw]
 have q0 : nD n (gm (Cq z w (jQ z w s) n) i) (gm (Cq z w (jQ z w s) n) j) (gm (iG z s)) = nD n (qQ z w (jQ z w s) i) (qQ z w (jQ z w s) j) (fun u v => (if u = v then gv z u else 0) - nD n (gm s u) (gm s v) (fun x y => if x = y then gv z x else 0)) :=
  nQ (fun k hk=>Bx hi hk) (fun k hk=>Bx hj hk) fun u v hu hv=>by rw [sM (by rw [hs.1,hz]) zo zo,hz,oY]
 rw [q0,Pf,oY,Gn,oY]
 have t : ∀ k, k < n → qQ z w (jQ z w s) i k * gv z k * (qQ z w (jQ z w s) j k).conj - (aF n fun a => qQ z w (jQ z w s) i a * gm s a k) * gv z k * (aF n fun a => qQ z w (jQ z w s) j a * gm s a k).conj
   = dl i k * dl j k * gv w k - gm (jQ z w s) i k * gv w k * (gm (jQ z w s) j k).conj:=fun k hk=>by
  obtain ⟨rc,re⟩:=a1T hz hw hp hq hk
  rw [a55 hz hw h hi hk,a55 hz hw h hj hk,Li,Li]
  simp only [a0H,Fi,Nf,zV,a38,rc,a0G]
  rw [a6q Oa,re]
 rw [Js,aC t,← Js,cF hi (fun k _ hne=>by rw [show dl i k = 0 from if_neg (Ne.symm hne)]; grind),show dl i i = 1 from if_pos rfl]
 congr 1
 by_cases k:i = j
 ·rw [if_pos k,a37 k.symm,o11]
 ·rw [if_neg k,a36 (Ne.symm k),o10]
theorem a3L (hz:z.length = n) (hw:w.length = n) (hs:cI s n n) (hc:cI c n n) (hp:z.all eO = true) (h:uE z w s = 0):iZ (Cq w z s n) (iZ (Cq z w (jQ z w s) n) c) = c:=by
 obtain ⟨hq,-,hS,-⟩:=qK hz hw h
 obtain ⟨b1,b2,-⟩:=Wj hz hw hs hp h
 have l1:=(tW w z s n).1
 have l2:=(tW z w (jQ z w s) n).1
 refine gC (n:=n) (m:=n) (by have:=mA (p:=Cq w z s n) (c:=iZ (Cq z w (jQ z w s) n) c); rwa [l1] at this) hc fun i hi j hj=>?_
 rw [oS (N:=n) (by rw [mA.1,l2]) zo zo]
 have q0 : nD n (gm (Cq w z s n) i) (gm (Cq w z s n) j) (gm (iZ (Cq z w (jQ z w s) n) c)) = nD n (qQ w z s i) (qQ w z s j) (fun u v => nD n (qQ z w (jQ z w s) u) (qQ z w (jQ z w s) v) (gm c)) :=
  nQ (fun k hk => Bx hi hk) (fun k hk => Bx hj hk) fun u v hu hv => by
   rw [oS hc.1 zo zo]
   exact nQ (fun k hk=>Bx hu hk) (fun k hk=>Bx hv hk) fun _ _ _ _=>rfl
 have key : ∀ i, i < n → ∀ j, j < n → (aF n fun u => qQ w z s i u * qQ z w (jQ z w s) u j) = if j = i then 1 else 0 := fun i hi j hj => by
  have u1:=a58 hz hw hp hq hj
  have t:=a57 hw hz b1 hi hj
  rw [b2] at t
  have e : ∀ u, u < n → qQ w z s i u * qQ z w (jQ z w s) u j = ((if u = i then ((1 + fT w z i) * lG) * (dl i j * ((1 + fT z w j) * lG) - gm (jQ z w s) i j * ((1 - fT z w j) * lG)) else 0) + (if u = j then -(gm s i j * ((1 - fT w z j) * lG) * ((1 + fT z w j) * lG)) else 0)) + lG * lG * (1 - fT z w j) * (gm s i u * ((1 - fT w z u) * gm (jQ z w s) u j)) := fun u hu => by
   rw [Li,Li]
   by_cases a:u = i
   ·subst a
    rw [if_pos rfl,show dl u u = 1 from if_pos rfl]
    by_cases b:u = j
    ·subst b; rw [if_pos rfl,show dl u u = 1 from if_pos rfl]; grind
    ·rw [if_neg b,show dl u j = 0 from if_neg b]; grind
   ·rw [if_neg a, show dl i u = 0 from if_neg (Ne.symm a)]
    by_cases b:u = j
    ·subst b; rw [if_pos rfl,show dl u u = 1 from if_pos rfl]; grind
    ·rw [if_neg b,show dl u j = 0 from if_neg b]; grind
  have t2 : (if i = j then 1 - fT w z i else 0) = dl i j * (1 - fT w z i) := by
   by_cases a:i = j
   ·rw [if_pos a,a37 a]; grind
   ·rw [if_neg a,a36 a]; grind
  rw [t2] at t
  rw [aC e, lP, lP, cF hi (fun u _ hne => if_neg hne), if_pos rfl, cF hj (fun u _ hne => if_neg hne), if_pos rfl, mP, t, a3K Oa u1 (by
   by_cases a:i = j
   ·subst a; grind
   ·rw [show dl i j = 0 from if_neg a]; grind)]
  by_cases a:i = j
  ·rw [if_pos a.symm]; exact if_pos a
  ·rw [if_neg (Ne.symm a)]; exact if_neg a
 rw [q0,Gn]
 rw [nQ (p':=fun u=>if u = i then 1 else 0) (q':=fun u=>if u = j then 1 else 0) (C':=gm c) (fun u hu=>key i hi u hu) (fun u hu=>key j hj u hu) fun _ _ _ _=>rfl]
 have e1 : ∀ a, a < n → (aF n fun b => (if a = i then 1 else 0) * gm c a b * (if b = j then (1 : Qi) else 0).conj) = if a = i then gm c a j else 0 := fun a ha => by
  rw [cF hj (fun b _ hne=>by rw [if_neg hne,qP]; grind),if_pos rfl,zV]
  by_cases k:a = i
  ·rw [if_pos k,if_pos k]; grind
  ·rw [if_neg k,if_neg k]; grind
 show (aF n fun a=>aF n fun b=>(if a = i then 1 else 0) * gm c a b * (if b = j then (1:Qi) else 0).conj) = _
 rw [aC e1,cF hi (fun a _ hne=>if_neg hne),if_pos rfl]
end
section
variable {z:List Qi} {s:List (List Qi)} {n:Nat}
def Gl (z:List Qi) (s:List (List Qi)) (i k m:Nat):Qi:=(if i = k then 1 / gv z i else 0) - aF m fun m=>(gm s m i).conj * gm s m k / gv z m
def pwM (z:List Qi) (s:List (List Qi)):List (List Qi):=tab z.length fun i=>tab z.length fun k=>Gl z s i k z.length
def Fz (z:List Qi) (s:List (List Qi)):Bool:=(pwM z s).all fun r=>!r.any fun x=>!decide (x = 0)
theorem a3z (h:Fz z s = true) {i k:Nat} (hi:i < z.length) (hk:k < z.length):Gl z s i k z.length = 0:=by
 rw [Fz,List.all_eq_true] at h
 have h2:=h (tab z.length fun k=>Gl z s i k z.length) (fH.2 ⟨i,hi,rfl⟩)
 rw [Bool.not_eq_true',List.any_eq_false] at h2
 have h3:=h2 (Gl z s i k z.length) (fH.2 ⟨k,hk,rfl⟩)
 simpa using h3
theorem a1j (hs:cI s z.length z.length) (hp:z.all eO = true) (h:Fz z s = true):iG z s = mI z.length z.length:=by
 have hne:∀ {i},i < z.length → gv z i ≠ 0:=fun hi=>nZ hp hi
 have hm : iK (tab z.length fun i => tab z.length fun m => gv z i * (gm s m i).conj / gv z m) s z.length z.length z.length = tS z.length := gC gS (pI _) fun i hi k hk => by
  rw [jV hi hk,uT hi hk]
  have e:=a3z h hi hk
  rw [Gl] at e
  have t : ∀ m, m < z.length → gm (tab z.length fun i => tab z.length fun m => gv z i * (gm s m i).conj / gv z m) i m * gm s m k = gv z i * ((gm s m i).conj * gm s m k / gv z m) := fun m hm => by
   rw [eR hi hm,Qi.div_def,Qi.div_def]; grind
  rw [aC t,mP]
  have e2:(aF z.length fun m=>(gm s m i).conj * gm s m k / gv z m) = if i = k then 1 / gv z i else 0:=by grind
  rw [e2]
  by_cases c:i = k
  ·rw [if_pos c, if_pos c, Qi.div_def]
   have:=pS (hne hi)
   grind
  ·rw [if_neg c,if_neg c]; grind
 have hr:=Lw cI.tab hs hm
 refine gC (nC z s) (xX _ _) fun i hi k hk=>?_
 rw [sM hs.1 hi hk]
 have e:gm (tS z.length) i k = if i = k then 1 else 0:=uT hi hk
 rw [← hr,jV hi hk] at e
 have t : ∀ m, m < z.length → gm s i m * gm (tab z.length fun i => tab z.length fun m => gv z i * (gm s m i).conj / gv z m) m k = (gm s i m * gv z m * (gm s k m).conj) * Qi.inv (gv z k) := fun m hm => by
  rw [eR hm hk,Qi.div_def]; grind
 rw [aC t,gM] at e
 have hk1:=pS (hne hk)
 have e3 : (aF z.length fun m => gm s i m * gv z m * (gm s k m).conj) = (if i = k then 1 else 0) * gv z k := by
  generalize (aF z.length fun m=>gm s i m * gv z m * (gm s k m).conj) = X at *
  rw [← e]; grind
 rw [e3,show gm (mI z.length z.length) i k = 0 from eR hi hk]
 by_cases c:i = k
 ·rw [if_pos c,if_pos c,c]; grind
 ·rw [if_neg c,if_neg c]; grind
theorem a21 {t : Qi} : kR t (mI n n) n = mI n n := gC oK (xX _ _) fun i hi j hj => by
 rw [kR,eR hi hj,show gm (mI n n) i j = 0 from eR hi hj]; grind
end
section
variable {z:List Qi} {s:List (List Qi)} {l:List Int}
theorem Fs : ∀ (n : Nat) (q : Nat → Nat), (∀ i, i < n → q i < n) → (∀ i j, i < n → j < n → q i = q j → i = j) → ∀ k, k < n → ∃ i, i < n ∧ q i = k
 | 0,_,_,_,k,hk=>by omega
 | n + 1, q, hq, hi, k, hk => by
  have hqn:=hq n zo
  obtain ⟨hlt, hinj⟩ : (∀ i, i < n → (if q i = n then q n else q i) < n) ∧ ∀ i j, i < n → j < n → (if q i = n then q n else q i) = (if q j = n then q n else q j) → i = j := by
   constructor
   ·intro i h
    have a:=hq i zo
    by_cases c:q i = n
    ·rw [if_pos c]
     have:q n ≠ n:=fun e=>by have:=hi i n zo zo (c.trans e.symm); omega
     omega
    ·rw [if_neg c]; omega
   ·intro i j h1 h2 e
    by_cases c:q i = n
    ·by_cases d : q j = n
     ·exact hi i j zo zo (c.trans d.symm)
     ·rw [if_pos c, if_neg d] at e
      have:=hi n j zo zo e; omega
    ·by_cases d : q j = n
     ·rw [if_neg c, if_pos d] at e
      have:=hi i n zo zo e; omega
     ·rw [if_neg c,if_neg d] at e; exact hi i j zo zo e
  by_cases c:k = q n
  ·exact ⟨n,by omega,c.symm⟩
  ·by_cases d : k = n
   ·subst d
    obtain ⟨i,h1,h2⟩:=Fs k _ hlt hinj (q k) zo
    by_cases e:q i = k
    ·exact ⟨i,by omega,e⟩
    ·rw [if_neg e] at h2
     have:=hi i k zo zo h2; omega
   ·obtain ⟨i, h1, h2⟩ := Fs n _ hlt hinj k zo
    by_cases e:q i = n
    ·rw [if_pos e] at h2; exact absurd h2.symm c
    ·rw [if_neg e] at h2; exact ⟨i,by omega,h2⟩
theorem a1J {Q:List Nat} {n:Nat} (hl:Q.length = n) (hlt:∀ x,x ∈ Q → x < n) (hinj:∀ i j,i < n → j < n → gY Q i = gY Q j → i = j) (f:Nat → Qi):(aF n fun i=>f (gY Q i)) = aF n f:=by
 have hq:∀ i,i < n → gY Q i < n:=fun i hi=>rL hlt zo
 have e1 : (aF n fun i => f (gY Q i)) = aF n fun i => aF n fun k => if gY Q i = k then f k else 0 := aC fun i hi => by
  rw [cF (hq i hi) (fun k _ hne=>if_neg (Ne.symm hne)),if_pos rfl]
 rw [e1,jO]
 exact aC fun k hk => by
  obtain ⟨i,hi,e2⟩:=Fs n (gY Q) hq hinj k hk
  rw [cF hi (fun j hj hne=>if_neg fun e3=>hne (hinj j i hj hi (e3.trans e2.symm))),if_pos e2]
theorem a4d (hs:cI s z.length z.length) (he:zB z.length l = 0):pE (iG z s) (jW l) = iG (yD z (jW l)) (pE s (jW l)):=by
 have h0 : l.length = z.length ∧ uI z.length l = 0 := by
  by_cases c:l.length = z.length
  ·exact ⟨c,by rw [← Sn c]; exact he⟩
  ·rw [Gp c] at he; omega
 obtain ⟨h1,h2⟩:=h0
 have hl:(jW l).length = z.length:=by rw [wF,h1]
 have hlt:=Lt h2
 have hinj : ∀ i j, i < z.length → j < z.length → gY (jW l) i = gY (jW l) j → i = j := fun i j hi hj e => by
  obtain ⟨a1,a2⟩:=Wc h2 (i:=i) zo
  obtain ⟨b1,b2⟩:=Wc h2 (i:=j) zo
  exact Wd h2 zo zo zo
 have hq:∀ i,i < z.length → gY (jW l) i < z.length:=fun i hi=>rL hlt zo
 refine gC (n:=z.length) (m:=z.length) (by rw [← hl]; exact wR _ _) (by have:=nC (yD z (jW l)) (pE s (jW l)); rwa [pV,hl] at this) fun i hi j hj=>?_
 rw [sM (by rw [(wR s (jW l)).1,pV]) (by rw [pV,hl]; exact hi) (by rw [pV,hl]; exact hj),pV,hl]
 have e1:gm (pE (iG z s) (jW l)) i j = gm (iG z s) (gY (jW l) i) (gY (jW l) j):=eR zo zo
 have e2:∀ a k,a < z.length → k < z.length → gm (pE s (jW l)) a k = gm s (gY (jW l) a) (gY (jW l) k):=fun a k ha hk=>eR zo zo
 have e3:∀ k,k < z.length → gv (yD z (jW l)) k = gv z (gY (jW l) k):=fun k hk=>gP zo
 have e4 : (aF z.length fun k => gm (pE s (jW l)) i k * gv (yD z (jW l)) k * (gm (pE s (jW l)) j k).conj) = aF z.length fun k => gm s (gY (jW l) i) k * gv z k * (gm s (gY (jW l) j) k).conj := by
  rw [← a1J hl hlt hinj (fun k=>gm s (gY (jW l) i) k * gv z k * (gm s (gY (jW l) j) k).conj)]
  exact aC fun k hk=>by rw [e2 i k hi hk,e2 j k hj hk,e3 k hk]
 rw [e1,sM hs.1 (hq i hi) (hq j hj),e4,e3 i hi]
 congr 1
 by_cases c:i = j
 ·rw [if_pos c,if_pos (by rw [c])]
 ·rw [if_neg c,if_neg fun e=>c (hinj i j hi hj e)]
end
section
variable {z:List Qi} {s:List (List Qi)} {g t:Qi} {p n:Nat}
theorem a4y (hz:z.length = n) (hs:cI s n n) (hp:p < n) (hn:n ≠ 1) (hd:Zo s g p ≠ 0):ntC z s (kR t (iG z s) n) g t p = kR t (iG (yC z p (n - 1)) (Ch s p (n - 1) (jZ s p g))) (n - 1):=by
 have hzl:(z ++ [gv z p]).length = n + 1:=by rw [List.length_append,hz]; rfl
 have hd1:=a2D hz hp
 have hj:=a7F hd1
 rw [hzl] at hj
 have hk : JK (jP s g n) (J1 p n) := fun b => by
  have:=Vu (S:=jP s g n) (p:=p) (q:=n) (bb:=b)
  rw [a3s]; exact this.2 (a0g hp hd)
 have hb:cI (jP s g n) (n + 1) (n + 1):=wQ _ _ _ _
 have lG:=Lf hp
 have hl1:=Ah hp
 -- the noise of both
 have c1 : tF (kR t (iG z s) n) [[t * (gv z p * (Qi.ofInt 1 - g * g.conj))]] n 1 = kR t (iG (z ++ [gv z p]) (jP s g n)) (n + 1) := by
  rw [← a1i,← a20]
  congr 1
  have:=a1I (z:=z) (zb:=[gv z p]) (a:=s) (b:=[[g]]) (by rw [hs.1,hz]) rfl
  rw [hz] at this
  exact this.symm
 have c2:=a6s (z:=z) (s:=s) (c:=kR t (iG z s) n) (g:=g) (t:=t) (p:=p) hz hp oK hd (a6k (z:=z) (g:=g) (t:=t) (p:=p))
 rw [← c2,c1]
 have c3:=a2Y (z:=z ++ [gv z p]) (S:=jP s g n) (js:=J1 p n) (by rw [hzl]; exact hb) (by rw [hzl]; exact hj) hk fun y hy=>a82 hd1 hy
 rw [hzl] at c3
 have c4:(iG (z ++ [gv z p]) (jP s g n)).length = n + 1:=by rw [(nC _ _).1,hzl]
 rw [Mz c4,c3]
 have g1:(Mf (jP s g n) (J1 p n) (n + 1)).length = n - 1:=by rw [Mf,List.length_map,lG,hl1]
 have z0 : Ye (z ++ [gv z p]) (J1 p n) = yC z p (n - 1) := by
  rw [Ye,jnF,hzl,lG,tT,Py,xC hp]
  exact cE fun i hi=>Ky (by rw [hz]; exact Cb hi hp)
 have s0 : Od (z ++ [gv z p]) (jP s g n) (J1 p n) = Ch s p (n - 1) (jZ s p g) := by
  have e : Od (z ++ [gv z p]) (jP s g n) (J1 p n) = tab (iQ [p] n).length fun x => tab (iQ [p] n).length fun y => jnX (jP s g n) (iS (J1 p n)) (2 * (J1 p n).length) (gY (iQ [p] n) x) (gY (iQ [p] n) y) := by
   rw [Od,jnF,hzl,lG]
  rw [e,hl1]
  refine cE fun x hx=>cE fun y hy=>?_
  have qx:gY (iQ [p] n) x = mR p x:=by rw [tT,tH (by rw [xC hp]; exact hx)]
  have qy:gY (iQ [p] n) y = mR p y:=by rw [tT,tH (by rw [xC hp]; exact hy)]
  have bx:=Cb hx hp
  have bY:=Cb hy hp
  have nx:mR p x ≠ p:=by unfold mR; split <;> omega
  have ny:mR p y ≠ p:=by unfold mR; split <;> omega
  rw [qx,qy,← a64 hj hk (show mR p x < n + 1 by omega) (by rw [a7D]; simp only [List.mem_cons,List.not_mem_nil,or_false,not_or]; exact ⟨nx,by omega⟩),kD,Mc]
  have z1:gm (jP s g n) n (mR p y) = 0:=by rw [iE zo zo,if_neg zo,if_neg zo]; rfl
  have e1 : ∀ k, k < n → Br (jP s g n) (J1 p n) (mR p x) k * gm (jP s g n) k (mR p y) = (if k = p then gm s (mR p x) p * jZ s p g * gm s p (mR p y) else 0) + (if k = mR p x then gm s (mR p x) (mR p y) else 0) := fun k hk2 => by
   rw [Uv hp bx nx zo hd,if_pos hk2,Ov bx hp hk2,iE zo zo,if_pos hk2,if_pos bY]
   by_cases c:k = p
   ·rw [if_pos c,if_pos c,if_neg (fun k2=>nx (k2.symm.trans c)),c]; grind
   ·rw [if_neg c, if_neg c]
    by_cases c2:k = mR p x
    ·rw [if_pos c2,if_pos c2,c2,q1]; grind
    ·rw [if_neg c2,if_neg c2,q0]; grind
  rw [aC e1,lP,cF hp (fun k _ hne=>if_neg hne),if_pos rfl,cF bx (fun k _ hne=>if_neg hne),if_pos rfl,z1]; grind
 rw [z0,s0,g1]
end
end
section
open Go Go.RowKit
theorem Gm {z:List Qi} {s:List (List Qi)} {i k:Nat}:Gl z s i k 0 = if i = k then Qi.ofInt 1 / gv z i else Qi.zero:=by
 have e:Gl z s i k 0 = (if i = k then 1 / gv z i else 0) - 0:=rfl
 rw [e,show (if i = k then 1 / gv z i else (0:Qi)) - 0 = if i = k then 1 / gv z i else 0 by grind]; rfl
theorem Pd {z:List Qi} {s:List (List Qi)} {i k m:Nat}:Gl z s i k (m + 1) = Gl z s i k m - (gm s m i).conj * gm s m k / gv z m:=by
 unfold Gl
 rw [show (aF (m + 1) fun m=>(gm s m i).conj * gm s m k / gv z m) = (aF m fun m=>(gm s m i).conj * gm s m k / gv z m) + (gm s m i).conj * gm s m k / gv z m from rfl]
 grind
theorem Lv {z : List Qi} {s : List (List Qi)} {i k L : Nat} (hz : cB z L) (hs : bA s L) (hL : 1 ≤ L) (hp : z.all eO = true) (hi : i < z.length) : ∀ {m : Nat}, m ≤ z.length → aE (Gl z s i k m) (1 + 3 * L + 2 + m * (6 * L + 5))
 | 0, _ => by
  rw [Gm]
  split
  ·exact (xH kS (hz.get hL i) (nZ hp hi)).le zo
  ·exact aE.zero zo
 | m + 1, hm => by
  rw [Pd]
  haveI f1:=Lv (k:=k) hz hs hL hp hi (m:=m) zo
  haveI f2:aE (gm s m i) L:=hs.get hL m i
  haveI f3:aE (gm s m k) L:=hs.get hL m k
  haveI f4:aE (gm s m i).conj L:=fitConj
  haveI f5:aE ((gm s m i).conj * gm s m k) (L + L + 1):=fitMul
  haveI f6:aE ((gm s m i).conj * gm s m k / gv z m) (L + L + 1 + 3 * L + 2):=xH f5 (hz.get hL m) (nZ hp zo)
  exact (fitSub (x:=Gl z s i k m) (y:=(gm s m i).conj * gm s m k / gv z m) (L:=1 + 3 * L + 2 + m * (6 * L + 5)) (M:=L + L + 1 + 3 * L + 2)).le (by rw [Nat.succ_mul m]; omega)
theorem a47 {z : List Qi} {s : List (List Qi)} {L : Nat} (hz : cB z L) (hs : bA s L) (hL : 1 ≤ L) (hp : z.all eO = true) (h8 : z.length ≤ 8) : bA (pwM z s) (51 * L + 43) := bA.tab fun i k hi _ => (Lv hz hs hL hp hi (Nat.le_refl _)).le (by
 have:z.length * (6 * L + 5) ≤ 8 * (6 * L + 5):=Nat.mul_le_mul_right _ h8
 omega)
theorem a48 (z:List Qi) (s:List (List Qi)):cI (pwM z s) z.length z.length:=cI.tab
theorem a05 {M:List (List Qi)} {n:Nat} (h:M.length = n) (k:∀ j,j < n → ((M.getD j []).any fun x=>!decide (x = 0)) = false):(M.all fun r=>!r.any fun x=>!decide (x = 0)) = true:=by
 rw [List.all_eq_true]; intro r hr
 obtain ⟨j,hj,e⟩:=List.getElem_of_mem hr
 have:=k j zo
 rw [show M.getD j [] = r by simp [List.getD,hj,e]] at this
 rw [this]; rfl
theorem a1u {M:List (List Qi)} {j:Nat} (h:j < M.length) (k:((M.getD j []).any fun x=>!decide (x = 0)) = true):(M.all fun r=>!r.any fun x=>!decide (x = 0)) = false:=by
 rw [List.all_eq_false]
 refine ⟨M[j],List.getElem_mem h,?_⟩
 rw [show M.getD j [] = M[j] by simp [List.getD,h]] at k
 rw [k]; simp
theorem a5M {z:List Qi} {s:List (List Qi)} {n i k L:Nat} (hz:cB z L) (hs:bA s L) (hL:1 ≤ L) (hLb:L ≤ 100000000000) (hp:z.all eO = true) (hsh:cI s z.length z.length) (hn:n = z.length) (h8:n ≤ 8) (hi:i < n) (hk:k < n):bE Tryz.prog 232 [NT .i64 i,NT .i64 k,PT (iT z s)] (aI (Gl z s i k n)):=by
 have hsl:=hsh.1
 haveI f0:=kS
 haveI f1:aE (gv z i) L:=hz.get hL i
 refine bE.intro Tryz.func232 rfl Tryz.ntmps232 rfl (fun cx=>(ts (rn rfl (eG (Ts:=[Is (.bool false),Is (.slice none 0 0),Is (.bool false),Is (.slice none 0 0),Is (.slice none 0 0)]) O_51 rfl (fun V=>aW zd (aW zd (aW zd (aW zd (aW zd (aG))))))) fun B5=>(eZ (ts (ro rfl (aM.imp (Df ) oJ) (rn rfl (eG (Ts:=[Is (.bool false),Is (.slice none 0 0),Is (.bool false),Is (.slice none 0 0),Is (.slice none 0 0)]) O_51 rfl (fun V=>aW zd (aW zd (aW zd (aW zd (aW zd (aG))))))) fun B6=>?_)))))))
 refine gX Z_51 (Ht rfl) (Ht rfl) rfl (i:=1) rfl (aK rfl) rfl rfl (eZ (cU (bR [0,1] rfl (by decide) (jS (fun (x:Qi)=>x = Gl z s i k 0) (fun (x:Qi)=>[(0,NT .i64 i),(1,NT .i64 k),(2,PT (iT z s)),(5,cC B5 0),(6,cC B6 0)]) (fun (x:Qi)=>[box B5 51 [Is (.bool false),Is (.slice none 0 0),Is (.bool false),Is (.slice none 0 0),Is (.slice none 0 0)],box B6 51 [aD (decide (x.a < 0)),aH x.a.natAbs,aD (decide (x.b < 0)),aH x.b.natAbs,aH (du x)]]) ?_ (fun x hx=>?_)))))
 ·refine ts (rm rfl (rm rfl (ro rfl (cT (Ht rfl) (Ht rfl)) (eZ (dX (Ht rfl) (fun hb => ?_) (fun hb => ?_))))))
  ·have hij : i = k := by simpa using hb
   refine Y.D_start (m:=11) [(10,1,box B6 51 [aD (decide ((Qi.ofInt 1 / gv z i).a < 0)),aH (Qi.ofInt 1 / gv z i).a.natAbs,aD (decide ((Qi.ofInt 1 / gv z i).b < 0)),aH (Qi.ofInt 1 / gv z i).b.natAbs,aH (du (Qi.ofInt 1 / gv z i))])] (Y.D_step (Ei:=[]) rfl rfl bX rfl rfl (by kernel_rfl) (dZ rfl (cJ K_77 (qD (n:=1) (by decide) (by decide)) ⟨(cV 1),trivial⟩)) (Y.D_step (Ei:=[(2,_)]) rfl rfl (bQ (bJ rfl rfl) bX) rfl rfl (by kernel_rfl) (dZ rfl (qJ lW (Ht rfl) rfl)) (Y.D_step (Ei:=[(16,_)]) rfl rfl (bQ (bZ 1 rfl rfl) bX) rfl rfl (by kernel_rfl) (dZ rfl (dV A_29 Z_29 (Ht rfl))) ?_)))
   refine Y.D_step (Ei:=[(0,_)]) rfl rfl (bQ (bJ rfl rfl) bX) rfl rfl (by kernel_rfl) (dZ rfl (cZ (Ht rfl))) (Y.D_step (Ei:=[(17,_),(18,_)]) rfl rfl (bQ (bZ 2 rfl rfl) (bQ (bZ 3 rfl rfl) bX)) rfl rfl (by kernel_rfl) (dZ rfl (dJ U_29 Z_51 (Ht rfl) (Ht rfl) rfl (eQ (dY (d:=Qi.zero) zo)))) (Y.D_step (Ei:=[(19,_)]) rfl rfl (bQ (bZ 4 rfl rfl) bX) rfl rfl (by kernel_rfl) (dZ rfl (dV A_51 Z_51 (Ht rfl))) (Y.D_step (Ei:=[(15,_),(20,_)]) rfl rfl (bQ (bZ 0 rfl rfl) (bQ (bZ 5 rfl rfl) bX)) rfl rfl (by kernel_rfl) (dZ rfl (cJ K_40 (yH (x:=Qi.ofInt 1) (y:=gv z i) (L:=1) (M:=L) zo) ⟨(Ht rfl),(Ht rfl),trivial⟩)) ?_)))
   refine Y.D_step (Ei:=[(21,_)]) rfl rfl (bQ (bZ 6 rfl rfl) bX) rfl rfl (by kernel_rfl) (dZ rfl (cZ (Ht rfl))) (Y.D_step (Ei:=[(14,_)]) rfl rfl (bQ (bZ 7 rfl rfl) bX) rfl rfl (by kernel_rfl) (dZ rfl (dU (Ht rfl) rfl)) (cQ (Ei:=[(14,_)]) rfl rfl (bQ (bZ 7 rfl rfl) bX) rfl rfl (dZ rfl (dU (Ht rfl) rfl)) (Y.D_putI (Ei:=[(6,_),(22,_)]) 1 rfl rfl rfl (bQ (bJ rfl rfl) (bQ (bZ 8 rfl rfl) bX)) (.head _) rfl (kQ Z_51 (Ht rfl) (Ht rfl) rfl (i:=0) rfl (aK rfl) rfl rfl) ?_)))
   refine Y.D_done aL rfl (by kernel_rfl) rfl (by simp [Y.okP]) rfl rfl (bU (bU (bU (bU (bU (bU (bU (bU (bU (bU (Y.F_putI (Y.F_nil ?_))))))))))))
   refine eZ (bD (Qi.ofInt 1 / gv z i) (by rw [Gm,if_pos hij]) (zS rfl) (aU (aB rfl) (aU (aB rfl) aY)))
  ·have hij : ¬ i = k := by simpa using hb
   refine cY (bD Qi.zero (by rw [Gm,if_neg hij]) (zS rfl) (aU (aB rfl) (aU (aB rfl) aY)))
 ·subst hx
  refine cU (ts (ro rfl (qJ mK (Ht rfl) rfl) (ro rfl (dV A_30 Z_30 (Ht rfl)) (ro rfl (dK U_30 (Ht rfl) (by rw [List.length_map,hsl])) ?_))))
  refine ro rfl (cZ (cV 0)) (eZ (eK ?_))
  refine bS (fun (m : Nat) => m ≤ n) (fun (m : Nat) => n - m) (fun (m : Nat) => [(0, NT .i64 i), (1, NT .i64 k), (2, PT (iT z s)), (5, cC B5 0), (6, cC B6 0), (26, NT .i64 n), (27, NT .i64 m)]) (fun (m : Nat) => [box B5 51 [Is (.bool false), Is (.slice none 0 0), Is (.bool false), Is (.slice none 0 0), Is (.slice none 0 0)], box B6 51 [aD (decide ((Gl z s i k m).a < 0)), aH (Gl z s i k m).a.natAbs, aD (decide ((Gl z s i k m).b < 0)), aH (Gl z s i k m).b.natAbs, aH (du (Gl z s i k m))]]) 0 (Nat.zero_le _)
   (aQ rfl (aQ rfl (aQ rfl (aQ rfl (aQ rfl (aZ rfl (lO hn.symm) (zS rfl))))))) (aU (aB rfl) (aU (aB rfl) aY)) (fun m hm=>?_)
  refine ts (ro rfl (gZ (Ht rfl) (Ht rfl)) (eZ (cU (dX (Ht rfl) (fun hd=>?_) (fun hd=>?_)))))
  ·have hmn : m < n := by simp only [decide_eq_true_eq] at hd; omega
   have hsr:=hsh.row (i:=m) zo
   haveI f2:aE (gm s m i) L:=hs.get hL m i
   haveI f3:aE (gm s m k) L:=hs.get hL m k
   haveI f4:aE (gv z m) L:=hz.get hL m
   haveI f5:aE (gm s m i).conj L:=fitConj
   haveI f6:aE ((gm s m i).conj * gm s m k) (L + L + 1):=fitMul
   haveI f7:aE ((gm s m i).conj * gm s m k / gv z m) (L + L + 1 + 3 * L + 2):=xH f6 f4 (nZ hp zo)
   have f8:=Lv (k:=k) hz hs hL hp (show i < z.length by omega) (m:=m) zo
   haveI f9 : aE (Gl z s i k m) (100 * L + 100) := f8.le (by
    have:m * (6 * L + 5) ≤ 8 * (6 * L + 5):=Nat.mul_le_mul_right _ zo
    omega)
   refine cY (cU (eK (ts (rm rfl (ra rfl (eZ (cU (Y.D_start (m:=29) [] (cQ (Ei:=[(2,_)]) rfl rfl (bQ (bJ rfl rfl) bX) rfl rfl (dZ rfl (qJ mK (Ht rfl) rfl)) (cQ (Ei:=[(31,_)]) rfl rfl (bQ (bZ 0 rfl rfl) bX) rfl rfl (dZ rfl (dV A_30 Z_30 (Ht rfl))) (cQ (Ei:=[(7,_)]) rfl rfl (bQ (bJ rfl rfl) bX) rfl rfl (dZ rfl (cZ (Ht rfl))) (cQ (Ei:=[(32,_),(33,_)]) rfl rfl (bQ (bZ 1 rfl rfl) (bQ (bZ 2 rfl rfl) bX)) rfl rfl (dZ rfl (dJ U_30 Z_29 (Ht rfl) (Ht rfl) rfl (eQ (dY (d:=[]) zo)))) ?_))))))))))))
   refine cQ (Ei:=[(34,_)]) rfl rfl (bQ (bZ 3 rfl rfl) bX) rfl rfl (dZ rfl (dV A_29 Z_29 (Ht rfl))) (cQ (Ei:=[(0,_)]) rfl rfl (bQ (bJ rfl rfl) bX) rfl rfl (dZ rfl (cZ (Ht rfl))) (cQ (Ei:=[(35,_),(36,_)]) rfl rfl (bQ (bZ 4 rfl rfl) (bQ (bZ 5 rfl rfl) bX)) rfl rfl (dZ rfl (dJ U_29 Z_51 (Ht rfl) (Ht rfl) rfl (eQ (dY (d:=Qi.zero) zo)))) (cQ (Ei:=[(37,_)]) rfl rfl (bQ (bZ 6 rfl rfl) bX) rfl rfl (dZ rfl (dV A_51 Z_51 (Ht rfl))) ?_)))
   refine cQ (Ei:=[(38,_)]) rfl rfl (bQ (bZ 7 rfl rfl) bX) rfl rfl (dZ rfl (cJ K_175 Bf ⟨(Ht rfl),trivial⟩)) (cQ (Ei:=[(2,_)]) rfl rfl (bQ (bJ rfl rfl) bX) rfl rfl (dZ rfl (qJ mK (Ht rfl) rfl)) (cQ (Ei:=[(40,_)]) rfl rfl (bQ (bZ 9 rfl rfl) bX) rfl rfl (dZ rfl (dV A_30 Z_30 (Ht rfl))) (cQ (Ei:=[(7,_)]) rfl rfl (bQ (bJ rfl rfl) bX) rfl rfl (dZ rfl (cZ (Ht rfl))) (cQ (Ei:=[(41,_),(42,_)]) rfl rfl (bQ (bZ 10 rfl rfl) (bQ (bZ 11 rfl rfl) bX)) rfl rfl (dZ rfl (dJ U_30 Z_29 (Ht rfl) (Ht rfl) rfl (eQ (dY (d:=[]) zo)))) ?_))))
   refine cQ (Ei:=[(43,_)]) rfl rfl (bQ (bZ 12 rfl rfl) bX) rfl rfl (dZ rfl (dV A_29 Z_29 (Ht rfl))) (cQ (Ei:=[(1,_)]) rfl rfl (bQ (bJ rfl rfl) bX) rfl rfl (dZ rfl (cZ (Ht rfl))) (cQ (Ei:=[(44,_),(45,_)]) rfl rfl (bQ (bZ 13 rfl rfl) (bQ (bZ 14 rfl rfl) bX)) rfl rfl (dZ rfl (dJ U_29 Z_51 (Ht rfl) (Ht rfl) rfl (eQ (dY (d:=Qi.zero) zo)))) (cQ (Ei:=[(46,_)]) rfl rfl (bQ (bZ 15 rfl rfl) bX) rfl rfl (dZ rfl (dV A_51 Z_51 (Ht rfl))) ?_)))
   refine cQ (Ei:=[(39,_),(47,_)]) rfl rfl (bQ (bZ 8 rfl rfl) (bQ (bZ 16 rfl rfl) bX)) rfl rfl (dZ rfl (cJ K_45 (kF (x:=(gm s m i).conj) (y:=gm s m k) (L:=L) (M:=L) zo) ⟨(Ht rfl),(Ht rfl),trivial⟩)) (cQ (Ei:=[(2,_)]) rfl rfl (bQ (bJ rfl rfl) bX) rfl rfl (dZ rfl (qJ lW (Ht rfl) rfl)) (cQ (Ei:=[(49,_)]) rfl rfl (bQ (bZ 18 rfl rfl) bX) rfl rfl (dZ rfl (dV A_29 Z_29 (Ht rfl))) (cQ (Ei:=[(7,_)]) rfl rfl (bQ (bJ rfl rfl) bX) rfl rfl (dZ rfl (cZ (Ht rfl))) ?_)))
   refine cQ (Ei:=[(50,_),(51,_)]) rfl rfl (bQ (bZ 19 rfl rfl) (bQ (bZ 20 rfl rfl) bX)) rfl rfl (dZ rfl (dJ U_29 Z_51 (Ht rfl) (Ht rfl) rfl (eQ (dY (d:=Qi.zero) zo)))) (cQ (Ei:=[(52,_)]) rfl rfl (bQ (bZ 21 rfl rfl) bX) rfl rfl (dZ rfl (dV A_51 Z_51 (Ht rfl))) (cQ (Ei:=[(48,_),(53,_)]) rfl rfl (bQ (bZ 17 rfl rfl) (bQ (bZ 22 rfl rfl) bX)) rfl rfl (dZ rfl (cJ K_40 (yH (x:=(gm s m i).conj * gm s m k) (y:=gv z m) (L:=L + L + 1) (M:=L) zo) ⟨(Ht rfl),(Ht rfl),trivial⟩)) ?_))
   refine cQ (Ei:=[(54,_)]) rfl rfl (bQ (bZ 23 rfl rfl) bX) rfl rfl (dZ rfl (cZ (Ht rfl))) (cQ (Ei:=[(30,_)]) rfl rfl (bQ (bZ 24 rfl rfl) bX) rfl rfl (dZ rfl (dU (Ht rfl) rfl)) (cQ (Ei:=[(30,_)]) rfl rfl (bQ (bZ 24 rfl rfl) bX) rfl rfl (dZ rfl (dU (Ht rfl) rfl)) (Y.D_newp (Ei:=[]) (fun bb=>box bb 51 [aD (decide (((gm s m i).conj * gm s m k / gv z m).a < 0)),aH ((gm s m i).conj * gm s m k / gv z m).a.natAbs,aD (decide (((gm s m i).conj * gm s m k / gv z m).b < 0)),aH ((gm s m i).conj * gm s m k / gv z m).b.natAbs,aH (du ((gm s m i).conj * gm s m k / gv z m))]) 28 rfl rfl rfl bX rfl rfl (by kernel_rfl) (eG (Ts:=[Is (.bool false),Is (.slice none 0 0),Is (.bool false),Is (.slice none 0 0),Is (.slice none 0 0)]) O_51 rfl (fun V=>aW zd (aW zd (aW zd (aW zd (aW zd (aG))))))) ?_)))
   refine Y.D_putN (Ei:=[(55,_)]) 27 rfl rfl rfl rfl rfl rfl (bQ (bZ 25 rfl rfl) bX) (fun bb=>kQ Z_51 (Ht rfl) (Ht rfl) rfl (i:=0) rfl (aK rfl) rfl rfl) (Y.D_done aL rfl (by kernel_rfl) rfl (by simp [Y.okP]) rfl rfl (bU (bU (bU (bU (bU (bU (bU (bU (bU (bU (bU (bU (bU (bU (bU (bU (bU (bU (bU (bU (bU (bU (bU (bU (bU (bU (bU (Y.F_newp (fun B8=>Y.F_putN (Y.F_nil ?_)))))))))))))))))))))))))))))))
   refine ra rfl (eZ (dQ (ro rfl (eW A_51 Z_51 (Ht rfl) (i:=1) rfl rfl rfl) (ro rfl (eW A_51 Z_51 (Ht rfl) (i:=2) rfl rfl rfl) (ro rfl (cJ K_44 (uD (x:=Gl z s i k m) (y:=((gm s m i).conj * gm s m k / gv z m)) (L:=100 * L + 100) (M:=L + L + 1 + 3 * L + 2) zo) ⟨(Ht rfl),(Ht rfl),trivial⟩) (gX Z_51 (Ht rfl) (Ht rfl) rfl (i:=1) rfl (aK rfl) rfl rfl (eZ (bC (dQ (ro rfl (dW (Ht rfl) (cV 1) z6) ?_))))))))))
   refine rm rfl (eZ (bR [0,1] rfl (by decide) (fY (m + 1) hmn zo (zS rfl) (aU (aB rfl) (aU (aB (by rw [Pd]; rfl)) aY)))))
  ·have hmn : m = n := by simp only [decide_eq_false_iff_not] at hd; omega
   rw [hmn]
   refine gW rfl (ts (ro rfl (eW A_51 Z_51 (Ht rfl) (i:=1) rfl rfl rfl) (gX Z_51 (Ht rfl) (Ht rfl) rfl (i:=0) rfl (aK rfl) rfl rfl (eZ ?_))))
   exact fG rfl (fU A_51 Z_51 rfl (i:=0) rfl rfl)
theorem a2Q {z:List Qi} {s:List (List Qi)} {L:Nat} (hz:cB z L) (hs:bA s L) (hL:1 ≤ L) (hLb:L ≤ 100000000000) (hp:z.all eO = true) (hsh:cI s z.length z.length) (h8:z.length ≤ 8):bE Tryz.prog 161 [iT z s] (bL (pwM z s)):=by
 refine bE.intro Tryz.func161 rfl Tryz.ntmps161 rfl (fun cx=>(ts (rn rfl (fK (Ht rfl)) fun B1=>(ro rfl (cX cW) (eZ (cU (gV (i:=0) (tt:=1) rfl rfl Dp (dQ (ro rfl (qJ lW (Ht rfl) rfl) (ro rfl (dV A_29 Z_29 (Ht rfl)) (ro rfl (dK U_29 (Ht rfl) aA) (ro rfl (qI (γ:=Fin z.length × Fin z.length) (Ts:=fun x=>[NT .i64 x.1.1,NT .i64 x.2.1]) (U:=fun x=>aI (Gl z s x.1.1 x.2.1 z.length)) Tryz.call232 (fun x=>a5M hz hs hL hLb hp hsh rfl h8 x.1.2 x.2.2) ⟨(Ht rfl),trivial⟩) ?_))))))))))))
 refine ro rfl (cJ Tryz.call114 (Ra (n:=z.length) (f:=fun i k=>Gl z s i k z.length) zo) ⟨(Ht rfl),(Ht rfl),trivial⟩) (ra rfl (eZ ?_))
 exact fG rfl (eY rfl)
theorem Qu {z:List Qi} {s:List (List Qi)} {L:Nat} (hz:cB z L) (hs:bA s L) (hL:1 ≤ L) (hLb:L ≤ 100000000000) (hp:z.all eO = true) (hsh:cI s z.length z.length) (h8:z.length ≤ 8):bE Tryz.prog 59 [iT z s] (aD (Fz z s)):=by
 have hPf:=a47 hz hs hL hp h8
 have hPs:=a48 z s
 have hPw:=a2Q hz hs hL hLb hp hsh h8
 rw [Fz]
 generalize pwM z s = M at *
 obtain ⟨n,hn⟩:∃ n,n = z.length:=⟨_,rfl⟩
 rw [← hn] at hPs
 have hMl:=hPs.1
 refine bE.intro Tryz.func59 rfl Tryz.ntmps59 rfl (fun cx=>(ts (rn rfl (fK (Ht rfl)) fun B1=>(ro rfl (cX cW) (eZ (cU (ts (ro rfl (eW A_32 Z_32 (Ht rfl) (i:=0) rfl rfl rfl) (ro rfl (cJ Tryz.call161 hPw ⟨(Ht rfl),trivial⟩) (ro rfl (dK U_30 (Ht rfl) (by rw [List.length_map,hMl])) ?_))))))))))
 refine ro rfl (cZ (cV 0)) (eZ (eK ?_))
 refine bS (fun (k : Nat) => k ≤ n ∧ ∀ j, j < k → ((M.getD j []).any fun x => !decide (x = 0)) = false) (fun (k : Nat) => n - k) (fun (k : Nat) => [(6, bL M), (7, NT .i64 n), (8, NT .i64 k)]) (fun (k : Nat) => [box B1 32 [bB z, bL s]]) 0 ⟨Nat.zero_le _, fun j h => by omega⟩
  (zS rfl) (aU (aB rfl) aY) (fun k ⟨hk,hz0⟩=>?_)
 refine ts (ro rfl (gZ (Ht rfl) (Ht rfl)) (eZ (cU (dX (Ht rfl) (fun hd=>?_) (fun hd=>?_)))))
 ·have hkn : k < n := by simp only [decide_eq_true_eq] at hd; omega
  refine cY (cU (eK (ts (ro rfl (dJ U_30 Z_29 (Ht rfl) (Ht rfl) rfl (eQ (dY (d:=[]) zo))) (ro rfl (dV A_29 Z_29 (Ht rfl)) (ra rfl (eZ (cU ?_))))))))
  obtain ⟨r,hr⟩:∃ r,r = M.getD k []:=⟨_,rfl⟩
  have hrf:cB r (51 * L + 43):=by rw [hr]; exact hPf.row k
  have hrl:r.length ≤ 1000:=by rw [hr,hPs.row hkn]; omega
  obtain ⟨l,hl⟩:∃ l:List {x:Qi // aE x (51 * L + 43)},r = l.map Subtype.val:=⟨r.attach.map fun x=>⟨x.1,hrf x.1 x.2⟩,by simp⟩
  have hll:l.length ≤ 1000:=by rw [hl,List.length_map] at hrl; exact hrl
  have hany:(r.any fun x=>!decide (x = 0)) = l.any fun x=>!decide (x.1 = Qi.zero):=by rw [hl,List.any_map]; rfl
  refine qC (E':=[(4,_),(6,_),(7,_),(8,_)]) (aZ rfl (kO (Us:=l.map fun x=>aI x.1) (by rw [← hr,hl,List.map_map]; rfl)) (zS rfl)) ?_
  refine dQ (rm rfl (ro rfl (cJ Tryz.call162 (yF (l:=l) (T:=fun x=>aI x.1) (p:=fun x=>!decide (x.1 = Qi.zero)) zo) ⟨(Ht rfl),(bT.fn Tryz.call27 (γ:={x:Qi // aE x (51 * L + 43)}) (Ts:=fun x=>[aI x.1]) (U:=fun x=>aD (!decide (x.1 = Qi.zero))) (fun x=>haveI:=x.2; Kd zo)),trivial⟩) (eZ (dX (Ht rfl) (fun hc=>?_) (fun hc=>?_)))))
  ·have hf := a1u (M := M) (j := k) zo (by rw [← hr, hany]; exact hc)
   refine ts (ro rfl (cX cW) (eZ (fG rfl (fZ (eY rfl) ?_))))
   exact (dN hf.symm)
  ·have hf : ((M.getD k []).any fun x => !decide (x = 0)) = false := by rw [← hr, hany]; exact hc
   refine cY (bC (dQ (ro rfl (dW (Ht rfl) (cV 1) z6) (rm rfl (eZ ?_)))))
   refine fY (k + 1) ⟨hkn, fun j h => by
    by_cases e:j = k
    ·rw [e]; exact hf
    ·exact hz0 j zo⟩ zo (zS rfl) (aU (aB rfl) aY)
 ·have hkn : k = n := by simp only [decide_eq_false_iff_not] at hd; omega
  have hf:=a05 hMl (fun j h=>hz0 j zo)
  refine gW rfl (ts (ro rfl (cX cW) (eZ (fG rfl (fZ (eY rfl) ?_)))))
  exact (dN hf.symm)
end
section
open Go Go.RowKit
theorem a69:Tryz.prog.info? 3 = some Tryz.t3:=by kernel_rfl
theorem a72:Tryz.prog.underlying 72 = some (.slice 3):=by kernel_rfl
end
section
open Go Go.RowKit
theorem Qr {l:List Int} {v:Int} (hl:l.length ≤ 1000000):bE Tryz.prog 192 [lM 1 (l.map (aT .i64)),aT .i64 v] (aT .i64 (La (fun x=>decide (v = x)) l)):=by
 refine bE.intro Tryz.func192 rfl Tryz.ntmps192 rfl (fun cx=>(ts (ro rfl (cX (cV 0)) (eZ (cU (ts (rm rfl (ro rfl (dK U_72 (Ht rfl) aA) (ro rfl (cZ (cV 0)) (eZ (eK ?_)))))))))))
 refine bS (fun (k : Nat) => k ≤ l.length ∧ ∀ (i : Nat) (x : Int), i < k → l[i]? = some x → decide (v = x) = false) (fun (k : Nat) => l.length - k) (fun (k : Nat) => [(0, lM 1 (l.map (aT .i64))), (1, aT .i64 v), (7, NT .i64 l.length), (8, NT .i64 k)]) (fun (k : Nat) => []) 0 ⟨Nat.zero_le _, fun i x h => by omega⟩
  (zS rfl) aY (fun k ⟨hk,hn⟩=>?_)
 refine ts (ro rfl (gZ (Ht rfl) (Ht rfl)) (eZ (cU (dX (Ht rfl) (fun hb=>?_) (fun hb=>?_)))))
 ·simp only [decide_eq_true_eq] at hb
  refine cY (cU (eK (ts (rm rfl (ra rfl (eZ (ts (rm rfl (rm rfl (rm rfl (ro rfl (dJ U_72 Z_3 (Ht rfl) (Ht rfl) rfl (eQ (oU hb))) (ro rfl (dV A_3 Z_3 (Ht rfl)) (ro rfl (kN (Ht rfl) (Ht rfl)) (eZ (dX (Ht rfl) (fun hc=>?_) (fun hc=>?_))))))))))))))))
  ·refine ts (rm rfl (ra rfl (eZ (fG rfl (fZ (eY rfl) ?_)))))
   exact (aS (Lb (p:=fun x=>decide (v = x)) (oU hb) hc hn).symm)
  ·refine cY (bC (dQ (ro rfl (dW (Ht rfl) (cV 1) z6) (rm rfl (eZ ?_)))))
   refine fY (k + 1) ⟨hb, fun i x h1 h2 => by
    by_cases e:i = k
    ·subst e; rw [oU hb] at h2; obtain rfl:=Option.some.inj h2; exact hc
    ·exact hn i x zo h2⟩ zo (zS rfl) aY
 ·simp only [decide_eq_false_iff_not] at hb
  refine gW rfl (ts (ro rfl (cX cW) (eZ (fG rfl (fZ (eY rfl) ?_)))))
  exact (aS (Bs (p:=fun x=>decide (v = x)) (fun i x h=>hn i x (by have:=(List.getElem?_eq_some_iff.1 h).1; omega) h)).symm)
theorem yE {l:List Int} {v:Int} (hl:l.length ≤ 1000000):bE Tryz.prog 95 [lM 1 (l.map (aT .i64)),aT .i64 v] (aD (l.any fun x=>decide (v = x))):=by
 refine bE.intro Tryz.func95 rfl Tryz.ntmps95 rfl (fun cx=>(ts (ro rfl (cX cW) (eZ (ts (rm rfl (rm rfl (ro rfl (cJ Tryz.call192 (Qr zo) ⟨(Ht rfl),(Ht rfl),trivial⟩) (ro rfl (mV (Ht rfl) cW) (ra rfl (eZ (fG rfl (fZ (eY rfl) ?_)))))))))))))
 exact (dN (Fr _ l))
theorem a2M {z:List Qi} {s:List (List Qi)} {G:List Nat} (hl:z.length ≤ 1000) (hG:G.length ≤ 1000):bE Tryz.prog 121 [iT z s,lM 1 ((gnI G).map (aT .i64))] (pM ((iQ G z.length).map Nat.succ)):=by
 refine bE.intro Tryz.func121 rfl Tryz.ntmps121 rfl (fun cx=>(ts (rn rfl (fK (Ht rfl)) fun B2=>(ro rfl (cX cW) (eZ (ts (ro rfl (cX cW) (eZ (cU (ts (ro rfl (cX (cV 1)) (eZ (eK (zO 3 1 ?_))))))))))))))
 refine gA (fun (i : Nat) (v : Value) => i ≤ z.length) (fun (i : Nat) (v : Value) => z.length - i) (fun (i : Nat) (v : Value) => [(1, lM 1 ((gnI G).map (aT .i64))), (2, cC B2 0), (5, Is v), (6, NT .i64 (i + 1))]) (fun (i : Nat) (v : Value) => [box B2 32 [bB z, bL s], cL 3 1 v (((iQ G i).map Nat.succ).map (NT .i64))]) 0 (.slice none 0 0) (Nat.zero_le _)
  (zS rfl) (aU (aB rfl) (aU (bO rfl) aY)) (fun i v hi=>?_)
 refine cU (ts (rm rfl (ro rfl (eJ lW (Ht rfl) rfl) (ro rfl (fQ A_29 Z_29 (Ht rfl) (i:=0) rfl rfl) (ro rfl (dK U_29 (Ht rfl) aA) (ro rfl (Am (Ht rfl) (Ht rfl)) (eZ (dX (Ht rfl) (fun hd=>?_) (fun hd=>?_)))))))))
 ·simp only [decide_eq_true_eq] at hd
  have hcl:=Ld G i
  refine cY (cU (eK (jS (fun (v2:Value)=>True) (fun (v2:Value)=>[(1,lM 1 ((gnI G).map (aT .i64))),(2,cC B2 0),(5,Is v2),(6,NT .i64 (i + 1))]) (fun (v2:Value)=>[box B2 32 [bB z,bL s],cL 3 1 v2 (((iQ G (i + 1)).map Nat.succ).map (NT .i64))]) ?_ (fun v2 _=>?_))))
  ·refine ts (rm rfl (rm rfl (ro rfl (cJ Tryz.call95 (yE (l := gnI G) (v := ((i + 1 : Nat) : Int)) (by rw [List.length_map]; omega)) ⟨(Ht rfl), (Ht rfl), trivial⟩) ?_)))
   refine ro rfl (dR (Ht rfl)) (eZ (dX (Ht rfl) (fun he=>?_) (fun he=>?_)))
   ·rw [a14] at he
    have he2:i ∉ G:=by simpa using he
    have hnx:iQ G (i + 1) = iQ G i ++ [i]:=by rw [iQ,if_neg he2]
    refine dQ (rm rfl (rm rfl (ro rfl (dB (xs:=[.tmp 19]) U_72 Z_3 Tryz.zeroValue3 (cG (Ht rfl) cK) rfl rfl rfl) (qX (inf:=Tryz.t3) a72 a69 rfl rfl rfl (Ht rfl) (Ht rfl) (i:=1) rfl (by simp) (fun T hT=>by simp at hT; subst hT; exact El.one) (by show _ * 8 ≤ _; simp only [List.length_map,List.length_cons,List.length_nil]; omega) (by simp only [List.length_map,List.length_cons,List.length_nil]; omega) rfl (fun v3=>?_)))))
    refine ra rfl (eZ (bD v3 trivial (zS rfl) (aU (aB rfl) (aU (bO (by rw [hnx,List.map_append,List.map_append]; rfl)) aY))))
   ·rw [a14] at he
    have he2:i ∈ G:=by simpa using he
    have hnx:iQ G (i + 1) = iQ G i:=by rw [iQ,if_pos he2,List.append_nil]
    refine cY (bD v trivial (zS rfl) (aU (aB rfl) (aU (bO (by rw [hnx])) aY)))
  ·refine bC (dQ (rm rfl (ro rfl (dW (Ht rfl) (cV 1) z6) (ra rfl (eZ (fY (i + 1,v2) hd (by dsimp only; omega) (zS rfl) (dE.refl _)))))))
 ·simp only [decide_eq_false_iff_not] at hd
  obtain rfl:z.length = i:=Nat.le_antisymm zo hi
  refine gW rfl (gV (i:=1) (tt:=5) rfl rfl jG (ts (rm rfl (ra rfl (eZ ?_)))))
  exact fG rfl (eY rfl)
theorem a5J {z:List Qi} {s:List (List Qi)} {p:Nat} (hp:p < z.length) (hl:z.length ≤ 1000):bE Tryz.prog 121 [iT z s,lM 1 [aT .i64 ((p:Int) + 1)]] (pM (Fw p (z.length - 1))):=by
 rw [← a3v hp]; exact a2M (G:=[p]) hl (by simp)
theorem a2O {z:List Qi} {s:List (List Qi)} {Q:List Nat} {m:Nat} (hs:cI s z.length z.length) (hQ:∀ x,x ∈ Q → x < z.length) (hm:Q.length = m) (hm2:m ≤ 1000) (hl:z.length ≤ 1000) {i j:Nat} (hi:i < m) (hj:j < m):bE Tryz.prog 206 [NT .i64 i,NT .i64 j,PT (iT z s),PT (pM (Q.map Nat.succ))] (aI (gm s (gY Q i) (gY Q j))):=by
 have hki:gY Q i < z.length:=rL hQ zo
 have hkj:gY Q j < z.length:=rL hQ zo
 have hsl:=hs.1
 have hsr:=hs.row hki
 refine bE.intro Tryz.func206 rfl Tryz.ntmps206 rfl (fun cx=>(ts (rn rfl (eG (Ts:=[Is (.bool false),Is (.slice none 0 0),Is (.bool false),Is (.slice none 0 0),Is (.slice none 0 0)]) O_51 rfl (fun V=>aW zd (aW zd (aW zd (aW zd (aW zd (aG))))))) fun B6=>(eZ (cU (fJ (m:=14) (dp 2 rfl (qJ mK (Ht rfl) rfl) (dq 7 0 rfl (dV A_30 Z_30 (Ht rfl)) (dp 3 rfl (dV A_72 Z_72 (Ht rfl)) (dp 0 rfl (cZ (Ht rfl)) ?_))))))))))
 refine cP 9 2 10 3 rfl (dJ U_72 Z_3 (Ht rfl) (Ht rfl) rfl (eQ (Aw zo))) (dq 11 4 rfl (dV A_3 Z_3 (Ht rfl)) (dq 12 5 rfl (aM.nat (dG (Ht rfl) (cV 1) zo z6) (show gY Q i + 1 - 1 = gY Q i by omega)) (cP 8 1 13 6 rfl (dJ U_30 Z_29 (Ht rfl) (Ht rfl) rfl (eQ (dY (d:=[]) zo))) (dq 14 7 rfl (dV A_29 Z_29 (Ht rfl)) (dp 3 rfl (dV A_72 Z_72 (Ht rfl)) ?_)))))
 refine dp 1 rfl (cZ (Ht rfl)) (cP 16 9 17 10 rfl (dJ U_72 Z_3 (Ht rfl) (Ht rfl) rfl (eQ (Aw zo))) (dq 18 11 rfl (dV A_3 Z_3 (Ht rfl)) (dq 19 12 rfl (aM.nat (dG (Ht rfl) (cV 1) zo z6) (show gY Q j + 1 - 1 = gY Q j by omega)) (fW aL rfl (by kernel_rfl) (zF (zF (zF (aJ (aJ (aV (ro rfl (dJ U_29 Z_51 (Ht rfl) (Ht rfl) rfl (eQ (dY (d:=Qi.zero) zo))) ?_)))))))))))
 refine ro rfl (dV A_51 Z_51 (Ht rfl)) (gX Z_51 (Ht rfl) (Ht rfl) rfl (i:=0) rfl (aK rfl) rfl rfl (eZ ?_))
 exact fG rfl (fU A_51 Z_51 rfl (i:=0) rfl rfl)
theorem Ua {z:List Qi} {s:List (List Qi)} {Q:List Nat} {m:Nat} (hs:cI s z.length z.length) (hQ:∀ x,x ∈ Q → x < z.length) (hm:Q.length = m) (hm2:m ≤ 1000) (hl:z.length ≤ 1000):gG Tryz.prog 122 [iT z s,pM (Q.map Nat.succ)] [] (Nat) (fun B=>fE [bB (yD z Q),Is (.slice (some ⟨B,0,none⟩) m m)]) (fun B=>[oF B 29 51 5 (bP aI (pE s Q))]) (fun _=>True):=by
 have hll:(Q.map Nat.succ).length = m:=by rw [List.length_map]; exact hm
 refine gG.intro Tryz.func122 rfl Tryz.ntmps122 rfl (fun cx Z=>(ts (rn rfl (fK (Ht rfl)) fun B2=>(rn rfl (tB (Ht rfl)) fun B3=>(rn rfl (eG (Ts:=[Is (.slice none 0 0),Is (.slice none 0 0)]) O_32 rfl (fun V=>aW zd (aW zd (aG)))) fun B4=>(eZ (cU (gV (i:=1) (tt:=2) rfl rfl Dp (gV (i:=2) (tt:=3) rfl rfl oE (dQ (ro rfl (dV A_72 Z_72 (Ht rfl)) (ro rfl (dK U_72 (Ht rfl) (by rw [List.length_map,hll])) ?_))))))))))))
 refine rn rfl (mM (T:=aI Qi.zero) (i:=Tryz.t51) nR lH rfl rfl (Ht rfl) rfl lJ (El.ag rfl) (by show 88 * _ ≤ _; omega) zo) fun B10=>ra rfl (eZ (cU (ts (ro rfl (dV A_72 Z_72 (Ht rfl)) (ro rfl (dK U_72 (Ht rfl) (by rw [List.length_map,hll])) ?_)))))
 refine ro rfl (cZ (cV 0)) (eZ (eK (bR [0,3,4] rfl (by decide) ?_)))
 refine bS (fun (i : Nat) => i ≤ m) (fun (i : Nat) => m - i) (fun (i : Nat) => [(2, PT (iT z s)), (3, PT (pM (Q.map Nat.succ))), (4, cC B4 0), (5, Is B10), (11, pM (Q.map Nat.succ)), (12, NT .i64 m), (13, NT .i64 i)]) (fun (i : Nat) => [Z, box B4 32 [Is (.slice none 0 0), Is (.slice none 0 0)], cL 51 5 B10 ((jC (fun i => gv z (gY Q i)) Qi.zero m i).map aI)]) 0 (Nat.zero_le _)
  (zS rfl) (aU (fun _ _ _ h=>h) (aU (fun _ _ _ h=>h) (aU (bO (by rw [← gR]; exact Ef aI m)) aY))) (fun i hi=>?_)
 refine ts (ro rfl (gZ (Ht rfl) (Ht rfl)) (eZ (cU (dX (Ht rfl) (fun hd=>?_) (fun hd=>?_)))))
 ·simp only [decide_eq_true_eq] at hd
  have hki:gY Q i < z.length:=rL hQ zo
  refine cY (cU (eK (ts (rm rfl (ro rfl (dJ U_72 Z_3 (Ht rfl) (Ht rfl) rfl (eQ (Aw zo))) (ro rfl (dV A_3 Z_3 (Ht rfl)) (ra rfl (ra rfl (eZ (dQ (rm rfl (rm rfl (ro rfl (qJ lW (Ht rfl) rfl) (ro rfl (dV A_29 Z_29 (Ht rfl)) (rm rfl (ro rfl (aM.nat (dG (Ht rfl) (cV 1) zo z6) (show gY Q i + 1 - 1 = gY Q i by omega)) (ro rfl (dJ U_29 Z_51 (Ht rfl) (Ht rfl) rfl (eQ (dY (d:=Qi.zero) hki))) ?_)))))))))))))))))
  refine ro rfl (dV A_51 Z_51 (Ht rfl)) (ro rfl (cR U_29 Z_51 (Ht rfl) (Ht rfl) rfl (i:=2) rfl (by rw [List.length_map,eD]; omega) rfl) ?_)
  refine kV Z_51 (Ht rfl) (Ht rfl) (El.ag rfl) (i:=2) rfl rfl (by rw [List.length_map,eD]; omega) rfl ?_
  refine eZ (bC (dQ (ro rfl (dW (Ht rfl) (cV 1) z6) (rm rfl (eZ (fY (i + 1) hd zo (zS rfl) (aU (fun _ _ _ h=>h) (aU (fun _ _ _ h=>h) (aU (bO (by rw [eN,← jJ (f:=(fun i=>gv z (gY Q i)))])) aY)))))))))
 ·simp only [decide_eq_false_iff_not] at hd
  obtain rfl:m = i:=Nat.le_antisymm zo hi
  rw [jI]
  refine gW rfl (gV (i:=2) (tt:=5) rfl rfl jG ?_)
  rw [show yD z Q = tab m fun i=>gv z (gY Q i) from by rw [yD,hm],show pE s Q = tab m fun i=>tab m fun j=>gm s (gY Q i) (gY Q j) from by rw [pE,hm]]
  refine ts (rm rfl (ro rfl (dV A_72 Z_72 (Ht rfl)) (ro rfl (dK U_72 (Ht rfl) (by rw [List.length_map,hll])) ?_)))
  refine ro rfl (qI (γ:=Fin m × Fin m) (Ts:=fun x=>[NT .i64 x.1.1,NT .i64 x.2.1]) (U:=fun x=>aI (gm s (gY Q x.1.1) (gY Q x.2.1))) Tryz.call206 (fun x=>a2O hs hQ hm hm2 hl x.1.2 x.2.2) ⟨(Ht rfl),(Ht rfl),trivial⟩) (hJ Tryz.call114 (Tx (n:=m) (f:=fun i j=>gm s (gY Q i) (gY Q j)) zo) ⟨(Ht rfl),(Ht rfl),trivial⟩ rfl (fun B32 _=>(ro rfl (yR (Ht rfl) (Ht rfl)) (gX Z_32 (Ht rfl) (Ht rfl) rfl (i:=1) rfl (aK rfl) rfl rfl (eZ ?_)))))
  exact jT B32 trivial [0,3] ⟨⟨_,rfl,fun _ _ _ h=>h⟩,⟨_,rfl,fun _ _ _ h=>h⟩,trivial⟩ (by decide) (wN rfl (fU A_32 Z_32 rfl (i:=1) rfl rfl))
theorem a2P {z:List Qi} {s:List (List Qi)} {p m:Nat} (hs:cI s z.length z.length) (hp:p < z.length) (hm:m = z.length - 1) (hl:z.length ≤ 1000):gG Tryz.prog 122 [iT z s,pM (Fw p m)] [] Nat (fun B=>fE [bB (yC z p m),Is (.slice (some ⟨B,0,none⟩) m m)]) (fun B=>[oF B 29 51 5 (bP aI (a7M s p m))]) (fun _=>True):=by
 have h:=Ua (Q:=tab m (mR p)) hs (a4w hp hm) (aN _ _) zo hl
 rw [Py,a2e,a3x] at h
 exact h
theorem Ug {n:Int} (h1:-9223372036854775808 ≤ n) (h2:n ≤ 9223372036854775807):bE Tryz.prog 109 [aT .i64 n] (aI (Qi.ofInt n)):=by
 refine bE.intro Tryz.func109 rfl Tryz.ntmps109 rfl (fun cx=>(ts (rn rfl (eG (Ts:=[Is (.bool false),Is (.slice none 0 0),Is (.bool false),Is (.slice none 0 0),Is (.slice none 0 0)]) O_51 rfl (fun V=>aW zd (aW zd (aW zd (aW zd (aW zd (aG))))))) fun B2=>(eZ (ts (rn rfl (eG (Ts:=[Is (.bool false),Is (.slice none 0 0),Is (.bool false),Is (.slice none 0 0),Is (.slice none 0 0)]) O_51 rfl (fun V=>aW zd (aW zd (aW zd (aW zd (aW zd (aG))))))) fun B3=>?_))))))
 refine eZ (cU (fJ (m:=4) (dp 3 rfl (eW A_51 Z_51 (Ht rfl) (i:=1) rfl rfl rfl) (dq 4 0 rfl (bI cD (Ht rfl)) (dp 0 rfl (cZ (Ht rfl)) (dq 6 2 rfl (cJ K_77 (qD (n:=n) h1 h2) ⟨(Ht rfl),trivial⟩) (fW aL rfl (by kernel_rfl) (zF (aV (ro rfl (aP oV K_302 Ih (Ht rfl) ⟨(Ht rfl),trivial⟩) (gX Z_51 (Ht rfl) (Ht rfl) rfl (i:=0) rfl (aK rfl) rfl rfl (eZ ?_))))))))))))
 exact fG rfl (fU A_51 Z_51 rfl (i:=0) rfl rfl)
end
section
open Go Go.RowKit
theorem a5E {z:List Qi} {s:List (List Qi)} {port:Int} {g:Qi} {L:Nat} (hs:cI s z.length z.length) (hf:bA s L) (hg:aE g L) (hL:1 ≤ L) (hLb:L ≤ 1000000) (hl:z.length ≤ 1000):bE Tryz.prog 41 [iT z s,aT .i64 port,aI g] (eS [iT (He z s port g) (wU z s port g),aT .i64 (rO z s port g)]):=by
 haveI:=hg
 have hsl:=hs.1
 refine bE.intro Tryz.func41 rfl Tryz.ntmps41 rfl (fun cx=>(ts (rn rfl (fK (Ht rfl)) fun B3=>(rn rfl (fK (Ht rfl)) fun B5=>(rn rfl (eG (Ts:=[Is (.slice none 0 0),Is (.slice none 0 0)]) O_32 rfl (fun V=>aW zd (aW zd (aG)))) fun B6=>(ro rfl (cX (cV 0)) (eZ (cU (eK (ts (ro rfl (eW A_32 Z_32 (Ht rfl) (i:=0) rfl rfl rfl) (rm rfl (ro rfl (cJ Tryz.call106 Ms ⟨(Ht rfl),(Ht rfl),trivial⟩) (ro rfl (dR (Ht rfl)) (ra rfl (eZ (dX (Ht rfl) (fun hb=>?_) (fun hb=>?_))))))))))))))))))
 ·have he : rO z s port g = 1 := a6Y (by simpa only [Bool.not_eq_true', decide_eq_false_iff_not] using hb)
  refine ts (ro rfl (aM.imp (oA ) oH) (gX Z_32 (Ht rfl) (Ht rfl) rfl (i:=2) rfl (aK rfl) rfl rfl (ro rfl (cX (cV 1)) (eZ (bM rfl (fZ (fU A_32 Z_32 rfl (i:=2) rfl rfl) ?_) (fZ (eY rfl) ?_))))))
  ·exact (Md he (by decide))
  ·exact (aS he.symm)
 ·have hb2 : 1 ≤ port ∧ port ≤ (z.length : Int) := by simpa using hb
  obtain ⟨p,rfl⟩:∃ p:Nat,port = (p:Int) + 1:=⟨(port - 1).toNat,by omega⟩
  have hp:p < z.length:=by omega
  refine ts (ro rfl (eJ lW (Ht rfl) rfl) (ro rfl (fQ A_29 Z_29 (Ht rfl) (i:=0) rfl rfl) (ro rfl (dK U_29 (Ht rfl) aA) (ro rfl (cT (Ht rfl) (cV 1)) (ra rfl (eZ (dX (Ht rfl) (fun hc=>?_) (fun hc=>?_))))))))
  ·have he : rO z s ((p : Int) + 1) g = 4 := a6Z hb2 (by simpa using hc)
   refine ts (ro rfl (aM.imp (oA ) oH) (gX Z_32 (Ht rfl) (Ht rfl) rfl (i:=2) rfl (aK rfl) rfl rfl (ro rfl (cX (cV 4)) (eZ (bM rfl (fZ (fU A_32 Z_32 rfl (i:=2) rfl rfl) ?_) (fZ (eY rfl) ?_))))))
   ·exact (Md he (by decide))
   ·exact (aS he.symm)
  ·have hn1 : ¬ z.length = 1 := by simpa using hc
   have htd:=a70 (s:=s) (g:=g) hp hn1
   obtain ⟨m,hm⟩:∃ m,m = z.length - 1:=⟨_,rfl⟩
   have hspl:=hs.row hp
   haveI f0:aE (Qi.ofInt 1) 1:=kS
   haveI f1:aE (gm s p p) L:=hf.get hL p p
   refine cY (bC (ts (rm rfl (ro rfl (iY (Ht rfl) cW (r:=((p:Nat):Int)) ((Ej (z:=(p:Int) + 1 - 1) zo).trans zo)) ?_))))
   refine ra rfl (eZ (cU (Y.D_start (m:=22) [] (cQ (Ei:=[(5,_)]) rfl rfl (bQ (bJ rfl rfl) bX) rfl rfl (dZ rfl (eW A_51 Z_51 (Ht rfl) (i:=1) rfl rfl rfl)) (cQ (Ei:=[(32,_)]) rfl rfl (bQ (bZ 0 rfl rfl) bX) rfl rfl (dZ rfl (bI cD (Ht rfl))) (cQ (Ei:=[]) rfl rfl bX rfl rfl (dZ rfl (cJ Tryz.call109 (Ug (n:=1) (by decide) (by decide)) ⟨(cV 1),trivial⟩)) (cQ (Ei:=[(34,_)]) rfl rfl (bQ (bZ 2 rfl rfl) bX) rfl rfl (dZ rfl (bI cD (Ht rfl))) ?_)))))))
   refine cQ (Ei:=[(3,_)]) rfl rfl (bQ (bJ rfl rfl) bX) rfl rfl (dZ rfl (eJ mK (Ht rfl) rfl)) (cQ (Ei:=[(36,_)]) rfl rfl (bQ (bZ 4 rfl rfl) bX) rfl rfl (dZ rfl (fQ A_30 Z_30 (Ht rfl) (i:=0) rfl rfl)) (cQ (Ei:=[(8,_)]) rfl rfl (bQ (bJ rfl rfl) bX) rfl rfl (dZ rfl (cZ (Ht rfl))) (cQ (Ei:=[(37,_),(38,_)]) rfl rfl (bQ (bZ 5 rfl rfl) (bQ (bZ 6 rfl rfl) bX)) rfl rfl (dZ rfl (dJ U_30 Z_29 (Ht rfl) (Ht rfl) rfl (eQ (dY (d:=[]) zo)))) ?_)))
   refine cQ (Ei:=[(39,_)]) rfl rfl (bQ (bZ 7 rfl rfl) bX) rfl rfl (dZ rfl (dV A_29 Z_29 (Ht rfl))) (cQ (Ei:=[(8,_)]) rfl rfl (bQ (bJ rfl rfl) bX) rfl rfl (dZ rfl (cZ (Ht rfl))) (cQ (Ei:=[(40,_),(41,_)]) rfl rfl (bQ (bZ 8 rfl rfl) (bQ (bZ 9 rfl rfl) bX)) rfl rfl (dZ rfl (dJ U_29 Z_51 (Ht rfl) (Ht rfl) rfl (eQ (dY (d:=Qi.zero) zo)))) (cQ (Ei:=[(42,_)]) rfl rfl (bQ (bZ 10 rfl rfl) bX) rfl rfl (dZ rfl (dV A_51 Z_51 (Ht rfl))) ?_)))
   refine cQ (Ei:=[(43,_)]) rfl rfl (bQ (bZ 11 rfl rfl) bX) rfl rfl (dZ rfl (bI cD (Ht rfl))) (cQ (Ei:=[(5,_)]) rfl rfl (bQ (bJ rfl rfl) bX) rfl rfl (dZ rfl (eW A_51 Z_51 (Ht rfl) (i:=1) rfl rfl rfl)) (cQ (Ei:=[(44,_),(45,_)]) rfl rfl (bQ (bZ 12 rfl rfl) (bQ (bZ 13 rfl rfl) bX)) rfl rfl (dZ rfl (aP dD K_45 (kF (x:=gm s p p) (y:=g) (L:=L) (M:=L) zo) (Ht rfl) ⟨(Ht rfl),trivial⟩)) (cQ (Ei:=[(35,_),(46,_)]) rfl rfl (bQ (bZ 3 rfl rfl) (bQ (bZ 14 rfl rfl) bX)) rfl rfl (dZ rfl (aP kJ K_44 (uD (x:=Qi.ofInt 1) (y:=gm s p p * g) (L:=1) (M:=L + L + 1) (hx:=f0) zo) (Ht rfl) ⟨(Ht rfl),trivial⟩)) ?_)))
   refine cQ (Ei:=[(33,_),(47,_)]) rfl rfl (bQ (bZ 1 rfl rfl) (bQ (bZ 15 rfl rfl) bX)) rfl rfl (dZ rfl (aP nU K_40 (yH (x:=g) (y:=Qi.ofInt 1 - gm s p p * g) (L:=L) (M:=1 + (L + L + 1) + 1) (hy:=@fitSub _ _ _ _ f0 inferInstance) zo) (Ht rfl) ⟨(Ht rfl),trivial⟩)) (cQ (Ei:=[(48,_)]) rfl rfl (bQ (bZ 16 rfl rfl) bX) rfl rfl (dZ rfl (cZ (Ht rfl))) (cQ (Ei:=[(31,_)]) rfl rfl (bQ (bZ 17 rfl rfl) bX) rfl rfl (dZ rfl (dU (Ht rfl) rfl)) ?_))
   refine cQ (Ei:=[(31,_)]) rfl rfl (bQ (bZ 17 rfl rfl) bX) rfl rfl (dZ rfl (dU (Ht rfl) rfl)) (Y.D_newp (Ei:=[]) (fun bb=>box bb 51 [aD (decide ((jZ s p g).a < 0)),aH (jZ s p g).a.natAbs,aD (decide ((jZ s p g).b < 0)),aH (jZ s p g).b.natAbs,aH (du (jZ s p g))]) 21 rfl rfl rfl bX rfl rfl (by kernel_rfl) (eG (Ts:=[Is (.bool false),Is (.slice none 0 0),Is (.bool false),Is (.slice none 0 0),Is (.slice none 0 0)]) O_51 rfl (fun V=>aW zd (aW zd (aW zd (aW zd (aW zd (aG))))))) ?_)
   refine Y.D_putN (Ei:=[(49,_)]) 20 rfl rfl rfl rfl rfl rfl (bQ (bZ 18 rfl rfl) bX) (fun bb=>kQ Z_51 (Ht rfl) (Ht rfl) rfl (i:=0) rfl (aK rfl) rfl rfl) (Y.D_done aL rfl (by kernel_rfl) rfl (by simp [Y.okP]) rfl rfl (bU (bU (bU (bU (bU (bU (bU (bU (bU (bU (bU (bU (bU (bU (bU (bU (bU (bU (bU (bU (Y.F_newp (fun B9=>Y.F_putN (Y.F_nil ?_))))))))))))))))))))))))
   refine ra rfl (eZ (cU (ts (rm rfl (ro rfl (iR (Ht rfl) cW) (eZ (dX (Ht rfl) (fun he=>?_) (fun he=>?_))))))))
   ·have hz : Qi.ofInt 1 - gm s p p * g = Qi.zero := by simp at he; exact he
    have he:rO z s ((p:Int) + 1) g = 6:=by rw [htd,if_pos hz]
    refine ts (ro rfl (aM.imp (oA ) oH) (gX Z_32 (Ht rfl) (Ht rfl) rfl (i:=2) rfl (aK rfl) rfl rfl (ro rfl (cX (cV 6)) (eZ (bM rfl (fZ (fU A_32 Z_32 rfl (i:=2) rfl rfl) ?_) (fZ (eY rfl) ?_))))))
    ·exact (Md he (by decide))
    ·exact (aS he.symm)
   ·have hz : Qi.ofInt 1 - gm s p p * g ≠ Qi.zero := by simp at he; exact he
    have he:rO z s ((p:Int) + 1) g = 0:=by rw [htd,if_neg hz]
    haveI ff:aE (jZ s p g) (7 * L + 11):=Qc hf hg hL hz
    have hll:(Fw p m).length = m:=aN _ _
    refine cY (ts (ro rfl (eW A_32 Z_32 (Ht rfl) (i:=0) rfl rfl rfl) (rm rfl (ro rfl (dB (xs:=[.tmp 55]) U_72 Z_3 Tryz.zeroValue3 (cG (Ht rfl) cK) rfl rfl rfl) (ro rfl (cJ Tryz.call121 (eX (a5J (z:=z) (s:=s) (p:=p) hp hl) (kO (by rw [← hm]))) ⟨(Ht rfl),(Ht rfl),trivial⟩) ?_)))))
    refine ra rfl (eZ (ts (ro rfl (eW A_32 Z_32 (Ht rfl) (i:=0) rfl rfl rfl) (rm rfl (hJ Tryz.call122 (a2P (p:=p) (m:=m) hs hp hm hl) ⟨(Ht rfl),(Ht rfl),trivial⟩ rfl (fun B60 _=>(rn rfl (eG (Ts:=[Is (.slice none 0 0),Is (.slice none 0 0)]) O_32 rfl (fun V=>aW zd (aW zd (aG)))) fun B12=>(gX Z_32 (Ht rfl) (Ht rfl) rfl (i:=5) rfl (aK rfl) rfl rfl (eZ (cU (ts (rm rfl (ro rfl (dK U_72 (Ht rfl) (by rw [List.length_map,hll])) ?_)))))))))))))
    refine ro rfl (cZ (cV 0)) (eZ (eK (bR [0,2,3,4,5] rfl (by decide) ?_)))
    refine bS (fun (i : Nat) => i ≤ m) (fun (i : Nat) => m - i) (fun (i : Nat) => [(3, cC B3 0), (6, cC B6 0), (8, NT .i64 p), (9, cC B9 0), (11, pM (Fw p m)), (12, cC B12 0), (61, pM (Fw p m)), (62, NT .i64 m), (63, NT .i64 i)]) (fun (i : Nat) => [box B3 32 [bB z, bL s], box B6 32 [Is (.slice none 0 0), Is (.slice none 0 0)], box B9 51 [aD (decide ((jZ s p g).a < 0)), aH (jZ s p g).a.natAbs, aD (decide ((jZ s p g).b < 0)), aH (jZ s p g).b.natAbs, aH (du (jZ s p g))], oF B60 29 51 5 (bP aI (pR (fun i => tab m fun j => Mc s p (jZ s p g) i j) (fun i => tab m fun j => gm s (mR p i) (mR p j)) m i)), box B12 32 [bB (yC z p m), Is (.slice (some ⟨B60, 0, none⟩) m m)]]) 0 (Nat.zero_le _)
     (zS rfl) (aU (fun _ _ _ h=>h) (aU (fun _ _ _ h=>h) (aU (aB rfl) (aU (bF (by rw [← lT]; rfl)) (aU (aB rfl) aY))))) (fun i hi=>?_)
    refine ts (ro rfl (gZ (Ht rfl) (Ht rfl)) (eZ (cU (dX (Ht rfl) (fun hd=>?_) (fun hd=>?_)))))
    ·simp only [decide_eq_true_eq] at hd
     have hki:mR p i < z.length:=Cb zo hp
     have hsr:=hs.row hki
     refine nF 3 (i) rfl (sX hd) (fun v=>(cY (cU (eK (ts (rm rfl (ro rfl (dJ U_72 Z_3 (Ht rfl) (Ht rfl) rfl (eQ (Vi hd))) (ro rfl (dV A_3 Z_3 (Ht rfl)) (ra rfl (ra rfl (eZ (ts (rm rfl (ro rfl (dK U_72 (Ht rfl) (by rw [List.length_map,hll])) ?_))))))))))))))
     refine ro rfl (cZ (cV 0)) (eZ (eK ?_))
     refine bS (fun (j : Nat) => j ≤ m) (fun (j : Nat) => m - j) (fun (j : Nat) => [(3, cC B3 0), (6, cC B6 0), (8, NT .i64 p), (9, cC B9 0), (11, pM (Fw p m)), (12, cC B12 0), (13, NT .i64 i), (14, NT .i64 (mR p i + 1)), (61, pM (Fw p m)), (62, NT .i64 m), (63, NT .i64 i), (68, pM (Fw p m)), (69, NT .i64 m), (70, NT .i64 j)]) (fun (j : Nat) => [box B3 32 [bB z, bL s], box B6 32 [Is (.slice none 0 0), Is (.slice none 0 0)], box B9 51 [aD (decide ((jZ s p g).a < 0)), aH (jZ s p g).a.natAbs, aD (decide ((jZ s p g).b < 0)), aH (jZ s p g).b.natAbs, aH (du (jZ s p g))], Hw B60 29 51 5 (bP aI (pR (fun i => tab m fun j => Mc s p (jZ s p g) i j) (fun i => tab m fun j => gm s (mR p i) (mR p j)) m i)) i v, box B12 32 [bB (yC z p m), Is (.slice (some ⟨B60, 0, none⟩) m m)], cL 51 5 v ((pR (fun j => Mc s p (jZ s p g) i j) (fun j => gm s (mR p i) (mR p j)) m j).map aI)]) 0 (Nat.zero_le _)
      (zS rfl) (aU (fun _ _ _ h=>h) (aU (fun _ _ _ h=>h) (aU (fun _ _ _ h=>h) (aU (fun _ _ _ h=>h) (aU (fun _ _ _ h=>h) (aU (bO (by rw [← lT])) aY)))))) (fun j hj=>?_)
     refine ts (ro rfl (gZ (Ht rfl) (Ht rfl)) (eZ (cU (dX (Ht rfl) (fun hf2=>?_) (fun hf2=>?_)))))
     ·simp only [decide_eq_true_eq] at hf2
      have hkj:mR p j < z.length:=Cb zo hp
      have hrl:=lA (fun j=>Mc s p (jZ s p g) i j) (fun j=>gm s (mR p i) (mR p j)) m j
      haveI g1:aE (gm s (mR p i) (mR p j)) L:=hf.get hL _ _
      haveI g2:aE (gm s (mR p i) p) L:=hf.get hL _ _
      haveI g3:aE (gm s p (mR p j)) L:=hf.get hL _ _
      refine cY (cU (eK (ts (rm rfl (ro rfl (dJ U_72 Z_3 (Ht rfl) (Ht rfl) rfl (eQ (Vi hf2))) (ro rfl (dV A_3 Z_3 (Ht rfl)) (ra rfl (ra rfl (eZ (fJ (m:=39) (dp 12 rfl (eJ mK (Ht rfl) rfl) (dq 75 0 rfl (fQ A_30 Z_30 (Ht rfl) (i:=4) rfl rfl) (dp 13 rfl (cZ (Ht rfl)) (cP 76 1 77 2 rfl (gQ U_30 Z_29 (Ht rfl) (Ht rfl) rfl zo (by rw [Nat.mul_one,Nat.zero_add])) ?_))))))))))))))
      refine dq 78 3 rfl (gI A_29 Z_29 (Ht rfl) (j:=3) rfl) (dp 15 rfl (cZ (Ht rfl)) (dp 12 rfl (eJ mK (Ht rfl) rfl) (dq 81 6 rfl (fQ A_30 Z_30 (Ht rfl) (i:=4) rfl rfl) (dp 13 rfl (cZ (Ht rfl)) (cP 82 7 83 8 rfl (gQ U_30 Z_29 (Ht rfl) (Ht rfl) rfl zo (by rw [Nat.mul_one,Nat.zero_add])) ?_)))))
      refine dq 84 9 rfl (gI A_29 Z_29 (Ht rfl) (j:=3) rfl) (dp 15 rfl (cZ (Ht rfl)) (cP 85 10 86 11 rfl (cR U_29 Z_51 (Ht rfl) (Ht rfl) rfl (i:=5) rfl (by simp only [List.length_map,hrl]; omega) rfl) ?_))
      refine dq 87 12 rfl (oX A_51 Z_51 (Ht rfl) (i:=5) rfl rfl (eQ (tA hf2))) (dq 88 13 rfl (bI cD (Ht rfl)) (dp 3 rfl (eJ mK (Ht rfl) rfl) (dq 90 15 rfl (fQ A_30 Z_30 (Ht rfl) (i:=0) rfl rfl) (dp 14 rfl (cZ (Ht rfl)) (dq 92 17 rfl (aM.nat (dG (Ht rfl) (cV 1) zo z6) (show mR p i + 1 - 1 = mR p i by omega)) (cP 91 16 93 18 rfl (dJ U_30 Z_29 (Ht rfl) (Ht rfl) rfl (eQ (dY (d:=[]) zo))) ?_))))))
      refine dq 94 19 rfl (dV A_29 Z_29 (Ht rfl)) (dp 8 rfl (cZ (Ht rfl)) (cP 95 20 96 21 rfl (dJ U_29 Z_51 (Ht rfl) (Ht rfl) rfl (eQ (dY (d:=Qi.zero) zo))) (dq 97 22 rfl (dV A_51 Z_51 (Ht rfl)) (dq 98 23 rfl (bI cD (Ht rfl)) (dp 9 rfl (eW A_51 Z_51 (Ht rfl) (i:=2) rfl rfl rfl) (dq 100 25 rfl (bI cD (Ht rfl)) (dp 3 rfl (eJ mK (Ht rfl) rfl) (dq 102 27 rfl (fQ A_30 Z_30 (Ht rfl) (i:=0) rfl rfl) (dp 8 rfl (cZ (Ht rfl)) ?_)))))))))
      refine cP 103 28 104 29 rfl (dJ U_30 Z_29 (Ht rfl) (Ht rfl) rfl (eQ (dY (d:=[]) zo))) (dq 105 30 rfl (dV A_29 Z_29 (Ht rfl)) (dp 16 rfl (cZ (Ht rfl)) (dq 107 32 rfl (aM.nat (dG (Ht rfl) (cV 1) zo z6) (show mR p j + 1 - 1 = mR p j by omega)) (cP 106 31 108 33 rfl (dJ U_29 Z_51 (Ht rfl) (Ht rfl) rfl (eQ (dY (d:=Qi.zero) zo))) (dq 109 34 rfl (dV A_51 Z_51 (Ht rfl)) ?_)))))
      refine cP 101 26 110 35 rfl (aP dD K_45 (kF (x:=jZ s p g) (y:=gm s p (mR p j)) (L:=7 * L + 11) (M:=L) zo) (Ht rfl) ⟨(Ht rfl),trivial⟩) (cP 99 24 111 36 rfl (aP dD K_45 (kF (x:=gm s (mR p i) p) (y:=jZ s p g * gm s p (mR p j)) (L:=L) (M:=7 * L + 11 + L + 1) zo) (Ht rfl) ⟨(Ht rfl),trivial⟩) (cP 89 14 112 37 rfl (aP pQ K_46 (Ck (x:=gm s (mR p i) (mR p j)) (y:=gm s (mR p i) p * (jZ s p g * gm s p (mR p j))) (L:=L) (M:=L + (7 * L + 11 + L + 1) + 1) zo) (Ht rfl) ⟨(Ht rfl),trivial⟩) ?_))
      refine fW aL rfl (by kernel_rfl) (zF (zF (zF (zF (zF (zF (zF (zF (zF (aJ (aJ (aJ (aV (ro rfl (cR U_29 Z_51 (Ht rfl) (Ht rfl) rfl (i:=5) rfl (by simp only [List.length_map,hrl]; omega) rfl) ?_))))))))))))))
      refine kV Z_51 (Ht rfl) (Ht rfl) (El.ag rfl) (i:=5) rfl rfl (by simp only [List.length_map,hrl]; omega) rfl ?_
      refine eZ (bC (dQ (ro rfl (dW (Ht rfl) (cV 1) z6) (rm rfl (eZ (fY (j + 1) hf2 zo (zS rfl) (aU (fun _ _ _ h=>h) (aU (fun _ _ _ h=>h) (aU (fun _ _ _ h=>h) (aU (fun _ _ _ h=>h) (aU (fun _ _ _ h=>h) (aU (bO (by rw [eN,← mE (f:=fun j=>Mc s p (jZ s p g) i j)]; rfl)) aY))))))))))))
     ·simp only [decide_eq_false_iff_not] at hf2
      obtain rfl:m = j:=Nat.le_antisymm zo hj
      refine gW rfl (bC (dL 3 5 rfl rfl (by decide) (by simp only [bP,List.length_map,lA]; omega) ?_))
      refine dQ (ro rfl (dW (Ht rfl) (cV 1) z6) (rm rfl (eZ (bR [0,1,2,3,4] rfl (by decide) (fY (i + 1) hd zo (zS rfl) (aU (fun _ _ _ h=>h) (aU (fun _ _ _ h=>h) (aU (fun _ _ _ h=>h) (aU (bF (by rw [eE,nA,← mE (f:=(fun i=>tab m fun j=>Mc s p (jZ s p g) i j))])) (aU (fun _ _ _ h=>h) aY))))))))))
    ·simp only [decide_eq_false_iff_not] at hd
     obtain rfl:m = i:=Nat.le_antisymm zo hi
     rw [nA]
     refine gW rfl (cU (Ew 4 3 1 rfl rfl rfl (by decide) (a7A (q:=fun _=>True) (M:=Ch s p m (jZ s p g)) (aN _ _).symm) ?_))
     subst hm
     refine dQ (ro rfl (eW A_32 Z_32 (Ht rfl) (i:=4) rfl rfl rfl) (gX Z_32 (Ht rfl) (Ht rfl) rfl (i:=1) rfl (aK rfl) rfl rfl (ro rfl (cX (cV 0)) (eZ (bM rfl (fZ (fU A_32 Z_32 rfl (i:=1) rfl rfl) ?_) (fZ (eY rfl) ?_))))))
     ·exact (a2l he)
     ·exact (aS he.symm)
end
section
open Go Go.RowKit
theorem Ff {M:List (List Qi)} {n m:Nat} (h:cI M n m) (hn:n ≤ 32) (hm:m ≤ 32):bE Tryz.prog 271 [QM M] (aD true):=by
 have hl:=h.1
 refine bE.intro Tryz.func271 rfl Tryz.ntmps271 rfl (fun cx=>(ts (ro rfl (cX cW) (eZ (cU (ts (rm rfl (ro rfl (dK U_36 (Ht rfl) aA) (ro rfl (eH (Ht rfl) (cV 32)) (eZ (iA (Ht rfl) (by simp [hl]; omega) ?_)))))))))))
 refine cY (cU (ts (ro rfl (cX (cV 0)) (eZ (eK ?_)))))
 refine bS (fun (i : Nat) => i ≤ n) (fun (i : Nat) => n - i) (fun (i : Nat) => [(0, QM M), (3, NT .i64 i)]) (fun (i : Nat) => []) 0 (Nat.zero_le _)
  (zS rfl) aY (fun i hi=>?_)
 refine cU (ts (rm rfl (rm rfl (ro rfl (dK U_36 (Ht rfl) aA) (ro rfl (gZ (Ht rfl) (Ht rfl)) (eZ (dX (Ht rfl) (fun hd=>?_) (fun hd=>?_))))))))
 ·have hdn : i < n := by simp only [decide_eq_true_eq] at hd; omega
  have hr:=h.row hdn
  have hr0:=h.row (i:=0) zo
  simp at hr hr0
  refine cY (cU (eK (cU (fJ (m:=13) (dp 0 rfl (cZ (Ht rfl)) (dp 3 rfl (cZ (Ht rfl)) (cP 13 0 14 1 rfl (dJ U_36 Z_35 (Ht rfl) (Ht rfl) rfl (eQ (dY (d:=[]) zo))) (dq 15 2 rfl (dV A_35 Z_35 (Ht rfl)) (dq 16 3 rfl (dK U_35 (Ht rfl) aA) (dp 0 rfl (cZ (Ht rfl)) (dq 18 5 rfl (dJ U_36 Z_35 (Ht rfl) (cV 0) rfl (eQ (dY (d:=[]) zo))) (dq 19 6 rfl (dV A_35 Z_35 (Ht rfl)) (dq 20 7 rfl (dK U_35 (Ht rfl) aA) ?_)))))))))))))
  refine cP 17 4 21 8 rfl (fB (Ht rfl) (Ht rfl)) (dq 22 9 rfl (cZ (Ht rfl)) (C.D_step (Ei:=[(0,_),(23,_)]) rfl rfl (bV (bK rfl rfl) (bV (bG 10 rfl rfl) bW)) (eU rfl rfl (Ht rfl) (fun h=>cZ (Ht rfl))) (C.D_step (Ei:=[(3,_),(23,_)]) rfl rfl (bV (bK rfl rfl) (bV (bG 10 rfl rfl) bW)) (eU rfl rfl (Ht rfl) (fun h=>cZ (Ht rfl))) (fW aL rfl (by kernel_rfl) (zF (zF (zF (aJ (aV ?_)))))))))
  refine fX rfl rfl (eU rfl rfl (Ht rfl) (fun h=>dJ U_36 Z_35 (fV rfl h) (fV rfl h) rfl (eQ (dY (d:=[]) zo)))) (fX rfl rfl (eU rfl rfl (Ht rfl) (fun h=>dV A_35 Z_35 (fV rfl h))) (fX rfl rfl (eU rfl rfl (Ht rfl) (fun h=>dK U_35 (fV rfl h) aA)) (fX rfl rfl (eU rfl rfl (Ht rfl) (fun h=>eH (fV rfl h) (cV 32))) (ro rfl (gN (Ht rfl) (fun h=>(fV rfl h))) (eZ (iA (Ht rfl) (by simp [hr,hr0]; omega) ?_))))))
  refine cY (bC (dQ (rm rfl (ro rfl (dW (Ht rfl) (cV 1) z6) (ra rfl (eZ (fY (i + 1) hdn zo (zS rfl) aY)))))))
 ·refine gW rfl (ts (ro rfl (cX cW) (eZ ?_)))
  exact fG rfl (eY rfl)
theorem Mv  : bE Tryz.prog 272 [QM []] (NT .i64 0):=by
 refine bE.intro Tryz.func272 rfl Tryz.ntmps272 rfl (fun cx=>(ts (ro rfl (cX (cV 0)) (eZ (cU (ts (rm rfl (ro rfl (dK U_36 (Ht rfl) aA) (ro rfl (cT (Ht rfl) (cV 0)) (eZ (De (Ht rfl) (by rfl) ?_)))))))))))
 refine ts (ro rfl (cX (cV 0)) (eZ ?_))
 exact fG rfl (eY rfl)
theorem Rf {M:List (List Qi)} {n m:Nat} (h:cI M n m) (h1:1 ≤ n):bE Tryz.prog 272 [QM M] (NT .i64 m):=by
 have hl:=h.1
 have hr0:=h.row (i:=0) zo
 refine bE.intro Tryz.func272 rfl Tryz.ntmps272 rfl (fun cx=>(ts (ro rfl (cX (cV 0)) (eZ (cU (ts (rm rfl (ro rfl (dK U_36 (Ht rfl) aA) (ro rfl (cT (Ht rfl) (cV 0)) (eZ (iA (Ht rfl) (by simp [hl]; omega) ?_)))))))))))
 refine cY (ts (rm rfl (ro rfl (dJ U_36 Z_35 (Ht rfl) (cV 0) rfl (eQ (dY (d:=[]) zo))) (ro rfl (dV A_35 Z_35 (Ht rfl)) (ro rfl (dK U_35 (Ht rfl) aA) (ra rfl (eZ (fG rfl (fZ (eY rfl) ?_)))))))))
 exact (lO hr0)
theorem rU {M:List (List Qi)} {n m:Nat} (h:cI M n m) (h1:1 ≤ n ∨ m = 0):bE Tryz.prog 272 [QM M] (NT .i64 m):=by
 by_cases e:n = 0
 ·subst e
  obtain rfl:=List.length_eq_zero_iff.1 h.1
  rw [show m = 0 by omega]; exact Mv
 ·exact Rf h zo
theorem Fe {M:List (List Qi)} {n:Nat} (hM:cI M n n) (hn:n ≤ 32):bE Tryz.prog 238 [QM M] (aD true):=by
 have hl:=hM.1
 refine bE.intro Tryz.func238 rfl Tryz.ntmps238 rfl (fun cx=>(ts (ro rfl (cX cW) (eZ (ts (rm rfl (ro rfl (cJ Tryz.call271 (Ff hM hn hn) ⟨(Ht rfl),trivial⟩) (rm rfl (fX rfl rfl (eU rfl rfl (Ht rfl) (fun h=>cZ (Ht rfl))) (fX rfl rfl (eU rfl rfl (Ht rfl) (fun h=>dK U_36 (fV rfl h) aA)) (fX rfl rfl (eU rfl rfl (Ht rfl) (fun h=>cZ (Ht rfl))) (fX rfl rfl (eU rfl rfl (Ht rfl) (fun h=>cJ Tryz.call272 (rU hM zo) ⟨(fV rfl h),trivial⟩)) (fX rfl rfl (eU rfl rfl (Ht rfl) (fun h=>cT (fV rfl h) (fV rfl h))) ?_)))))))))))))
 refine ro rfl (fC (Ht rfl) (fun h=>(fV rfl h))) (ra rfl (eZ (fG rfl (fZ (eY rfl) ?_))))
 exact (dN (by simp [hl]))
theorem Xi {M:List (List Qi)} {n:Nat} (hM:cI M n n) (_:1 ≤ n) (hn:n ≤ 32):bE Tryz.prog 238 [QM M] (aD true):=Fe hM hn
theorem a0t {M:List (List Qi)} {n m:Nat} (hM:cI M n m) (hn:n ≤ 1000) (h1:1 ≤ m) (hm:m ≤ 1000):gG Tryz.prog 172 [QM M] [] (Nat) (fun B=>Is (.slice (some ⟨B,0,none⟩) n n)) (fun B=>[oF B 35 131 5 (bP QT M)]) (fun _=>True):=by
 have hMl:=hM.1
 refine gG.intro Tryz.func172 rfl Tryz.ntmps172 rfl (fun cx Z=>(ts (ro rfl (cX cW) (eZ (ts (rm rfl (ro rfl (dK U_36 (Ht rfl) (by rw [List.length_map,hMl])) ?_)))))))
 refine rn rfl (eM (T:=Is (.slice none 0 0)) (i:=Tryz.t35) Tryz.underlying36 Lc rfl rfl (Ht rfl) rfl (fun _=>rfl) trivial (by show 24 * _ ≤ _; omega) zo) fun B7=>ra rfl (eZ (cU (ts (ro rfl (cX (cV 0)) (eZ (eK (nM 1 rfl (tU (e:=131) (s:=5)) ?_)))))))
 refine bS (fun (i : Nat) => i ≤ n) (fun (i : Nat) => n - i) (fun (i : Nat) => [(0, QM M), (3, Is (.slice (some ⟨B7, 0, none⟩) n n)), (4, NT .i64 i)]) (fun (i : Nat) => [Z, oF B7 35 131 5 (bP QT (jC (dF M) [] n i))]) 0 (Nat.zero_le _)
  (zS rfl) (aU (fun _ _ _ h=>h) (aU (bF (by rw [← gR,lU]; exact mF QT n)) aY)) (fun i hi=>?_)
 refine cU (ts (rm rfl (rm rfl (ro rfl (dK U_36 (Ht rfl) aA) (ro rfl (gZ (Ht rfl) (Ht rfl)) (eZ (dX (Ht rfl) (fun hd0=>?_) (fun hd0=>?_))))))))
 ·have hdn : i < n := by simp only [decide_eq_true_eq] at hd0; omega
  have hrl:(dF M i).length = m:=hM.row hdn
  have hrl2:(M.getD i []).length = m:=hrl
  refine nF 1 (i) rfl (kZ hdn) (fun v0=>(cY (cU (eK (dQ (rm rfl (rm rfl (rn rfl (Co U_35 Z_131 O_131) fun B16=>(rm rfl (rm rfl (ro rfl (dJ U_36 Z_35 (Ht rfl) (Ht rfl) rfl (eQ (dY (d:=[]) zo))) (ro rfl (dV A_35 Z_35 (Ht rfl)) (Ic (inf:=Tryz.t131) Hh uW rfl rfl rfl (Ht rfl) (Ht rfl) (i:=3) rfl (fun T hT=>by obtain ⟨x,_,rfl⟩:=List.mem_map.1 hT; exact El.ag rfl) (by show _ * 88 ≤ _; simp only [List.length_map,List.length_append,List.length_take,List.length_cons,List.length_nil]; omega) (by simp only [List.length_map,List.length_append,List.length_take,List.length_cons,List.length_nil]; omega) rfl (fun v1=>?_))))))))))))))
  refine ro rfl (gQ U_36 Z_35 (Ht rfl) (Ht rfl) rfl zo (by rw [Nat.mul_one,Nat.zero_add])) ?_
  refine sP Z_35 (Ht rfl) (Ht rfl) (by simp only [bP,List.length_map,eD]; omega) (j:=1) (l:=3) rfl rfl rfl ?_
  refine eZ (bC (bR [0,1,3] rfl (by decide) (dL 1 2 rfl rfl (by decide) (by simp only [bP,List.length_map,eD]; omega) ?_)))
  refine dQ (rm rfl (ro rfl (dW (Ht rfl) (cV 1) z6) (ra rfl (eZ (bR [0,1] rfl (by decide) (fY (i + 1) hdn zo (zS rfl) (aU (fun _ _ _ h=>h) (aU (bF (by rw [List.nil_append,eE,← jJ (f:=dF M)])) aY))))))))
 ·have hin : i = n := by simp only [decide_eq_false_iff_not] at hd0; omega
  subst hin
  refine gW rfl (ts (rm rfl (ra rfl (eZ ?_))))
  exact jT B7 trivial [0,1] ⟨⟨_,rfl,fun _ _ _ h=>h⟩,⟨_,rfl,(bF (by rw [jI]; exact congrArg _ (Cf (h:=hMl)).symm))⟩,trivial⟩ (by decide) (wN rfl (eY rfl))
theorem a5N {n:Nat} (hn:n ≤ 32):gG Tryz.prog 199 [NT .i64 n] [] (Nat) (fun B=>Is (.slice (some ⟨B,0,none⟩) n n)) (fun B=>[jU dT B 35 131 5 (bP QT (tS n))]) (fun _=>True):=by
 refine gG.intro Tryz.func199 rfl Tryz.ntmps199 rfl (fun cx Z=>(ts (ro rfl (cX cW) (eZ (cU (ts (rm rfl (ro rfl (gZ (Ht rfl) (cV 0)) (eZ (iA (Ht rfl) (by simp) ?_))))))))))
 refine cY (cU (ts (rm rfl (ro rfl (eH (Ht rfl) (cV 32)) (eZ (iA (Ht rfl) (by simp; omega) ?_))))))
 refine cY (ts (rm rfl (rm rfl (hJ K_129 (rB (n:=n) (m:=n) zo zo) ⟨(Ht rfl),(Ht rfl),trivial⟩ rfl (fun B11 _=>(ra rfl (eZ (cU (ts (ro rfl (cX (cV 0)) (eZ (eK ?_))))))))))))
 refine bS (fun (i : Nat) => i ≤ n) (fun (i : Nat) => n - i) (fun (i : Nat) => [(0, NT .i64 n), (3, Is (.slice (some ⟨B11, 0, none⟩) n n)), (4, NT .i64 i)]) (fun (i : Nat) => [Z, jU dT B11 35 131 5 (bP QT (jC (yL n) (tab n fun _ => Qi.zero) n i))]) 0 (Nat.zero_le _)
  (zS rfl) (aU (fun _ _ _ h=>h) (aU (bF (by rw [mI,gR])) aY)) (fun i hi=>?_)
 refine cU (ts (rm rfl (rm rfl (ro rfl (gZ (Ht rfl) (Ht rfl)) (eZ (dX (Ht rfl) (fun hd0=>?_) (fun hd0=>?_)))))))
 ·have hdn : i < n := by simp only [decide_eq_true_eq] at hd0; omega
  refine kE 1 (i) rfl (kZ hdn) (fun v0 hv0=>(cY (cU (eK (fJ (m:=6) (dp 3 rfl (cZ (Ht rfl)) (dp 4 rfl (cZ (Ht rfl)) (cP 17 0 18 1 rfl (gQ U_36 Z_35 (Ht rfl) (Ht rfl) rfl zo (by rw [Nat.mul_one,Nat.zero_add])) ?_))))))))
  refine dq 19 2 rfl (gI A_35 Z_35 (Ht rfl) (j:=1) rfl) (dp 4 rfl (cZ (Ht rfl)) (d0 rfl (cJ K_148 (rD (n:=1) (by decide) (by decide)) ⟨(cV 1),trivial⟩) (fW aL rfl (by kernel_rfl) (zF (aJ (aJ (aV (ro rfl (cR U_35 Z_131 (Ht rfl) (Ht rfl) rfl (i:=2) rfl (by simp only [List.length_map,aN]; omega) rfl) ?_))))))))
  refine kV Z_131 (Ht rfl) (Ht rfl) (El.ag rfl) (i:=2) rfl rfl (by simp only [List.length_map,aN]; omega) rfl ?_
  refine eZ (bC (dL 1 2 rfl rfl (by decide) (by simp only [bP,List.length_map,eD]; omega) ?_))
  refine dQ (rm rfl (ro rfl (dW (Ht rfl) (cV 1) z6) (ra rfl (eZ (bR [0,1] rfl (by decide) (fY (i + 1) hdn zo (zS rfl) (aU (fun _ _ _ h=>h) (aU (bF (by rw [eN,eE,← jJ (f:=yL n),yL])) aY))))))))
 ·have hin : i = n := by simp only [decide_eq_false_iff_not] at hd0; omega
  subst hin
  refine gW rfl (ts (rm rfl (ra rfl (eZ ?_))))
  exact jT B11 trivial [0,1] ⟨⟨_,rfl,fun _ _ _ h=>h⟩,⟨_,rfl,(bF (by rw [jI]; rfl))⟩,trivial⟩ (by decide) (wN rfl (eY rfl))
end
end Go.Proofs.YteohomnhncjcnaaGreat
