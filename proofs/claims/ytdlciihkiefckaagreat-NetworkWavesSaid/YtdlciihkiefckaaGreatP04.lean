/- What functions of the program compute, proved by walks over their code, and the plain mathematics of it; a part of the proof in the last text. -/
import Derived.Test.YtdlciihkiefckaaGreatP03
set_option linter.unusedVariables false
set_option linter.unusedSimpArgs false
set_option maxRecDepth 100000
set_option maxHeartbeats 4000000
namespace Go.Proofs.YtdlciihkiefckaaGreat
section
open Go Go.RowKit
theorem Sg {M:List (List Qi)} {n m G B:Nat} (hs:iF M n m) (hstg:∀ c,c ≤ n → cF (dH M c).1 G) (hG1:1 ≤ G) (hg:6 * G + 4 ≤ 17592186044415) (hnm:n ≤ m) (hm:m ≤ 1000):gP Tryz.prog 221 [Is (.slice (some ⟨B,0,none⟩) n n)] [pD B 25 60 5 (dN aD M)] (Unit) (fun _=>dM [NT .i64 (dH M n).2.1,aF .i64 (dH M n).2.2]) (fun _=>[pD B 25 60 5 (dN aD (dH M n).1)]) (fun _=>True):=by
 have hs1:=hs.1
 refine gP.intro Tryz.func221 rfl Tryz.ntmps221 rfl (fun cx Z=>(ts (ro rfl (cQ (cJ 0)) (ro rfl (cQ (cJ 0)) (eX (ts (ro rfl (cQ (cJ 0)) (eX (cK (ts (rm rfl (ro rfl (jU U_26 (Ht rfl)) (ro rfl (cX (cJ 0)) (eX (eK (Hm 1 rfl (fun vs hvs=>?_)))))))))))))))))
 have hvs2:Vx vs n:=by have h:=hvs; rw [List.length_map,hs1] at h; exact h
 refine sA (fun (c : Nat) (sw : Nat) (vs : List Value) (A : List (List Qi)) => (c ≤ n ∧ sw ≤ c) ∧ dH M c = (A, sw, -1) ∧ Vx vs n) (fun (c : Nat) (sw : Nat) (vs : List Value) (A : List (List Qi)) => n - c) (fun (c : Nat) (sw : Nat) (vs : List Value) (A : List (List Qi)) => [(0, Is (.slice (some ⟨B, 0, none⟩) n n)), (4, NT .i64 sw), (12, NT .i64 n), (13, NT .i64 c)]) (fun (c : Nat) (sw : Nat) (vs : List Value) (A : List (List Qi)) => [Z, jF B 25 60 5 vs vs (dN aD A)]) 0 0 vs M ⟨⟨Nat.zero_le _, Nat.le_refl _⟩, rfl, hvs2⟩
  (zS rfl) (cT.refl _) (fun c sw vs A ⟨⟨hc,hsw⟩,hA,hvs⟩=>?_)
 refine ts (ro rfl (gW (Ht rfl) (Ht rfl)) (eX (cK (dQ (Ht rfl) (fun hcn=>?_) (fun hcn=>?_)))))
 ·simp only [decide_eq_true_eq] at hcn
  have hvl:=hvs.len
  have hAs:iF A n m:=by have h:=oH hs hc; rw [hA] at h; exact h
  have hAf:cF A G:=by have h:=hstg c hc; rw [hA] at h; exact h
  have hAl:=hAs.1
  refine cU (cK (eK (ts (rm rfl (ra rfl (eX (ts (rm rfl (ra rfl (eX (cK (eK ?_))))))))))))
  refine dB (fun (p : Nat) => (c ≤ p ∧ p ≤ n) ∧ ∀ r, c ≤ r → r < p → gm A r c = Qi.zero) (fun (p : Nat) => n - p) (fun (p : Nat) => [(0, Is (.slice (some ⟨B, 0, none⟩) n n)), (4, NT .i64 sw), (5, NT .i64 c), (6, NT .i64 p), (12, NT .i64 n), (13, NT .i64 c)]) (fun (p : Nat) => [Z, jF B 25 60 5 vs vs (dN aD A)]) c ⟨⟨Nat.le_refl _, hc⟩, fun r h1 h2 => by omega⟩
   (zS rfl) (cT.refl _) (fun p ⟨⟨hcp,hpn⟩,hz⟩=>?_)
  haveI fp:aM (gm A p c) G:=hAf.get hG1 p c
  refine cK (ts (rm rfl (rm rfl (ro rfl (jU U_26 (Ht rfl)) (ro rfl (gW (Ht rfl) (Ht rfl)) (rm rfl (fJ rfl rfl (eU rfl rfl (Ht rfl) (fun h=>cX (Ht rfl))) (fJ rfl rfl (eU rfl rfl (Ht rfl) (fun h=>cX (Ht rfl))) (fJ rfl rfl (eU rfl rfl (Ht rfl) (fun h=>gJ U_26 Z_25 (fG rfl h) (fG rfl h) rfl (by first | omega | (simp at h; omega)) (by rw [Nat.mul_one,Nat.zero_add]))) ?_)))))))))
  refine fJ rfl rfl (eU rfl rfl (Ht rfl) (fun h=>kK A_25 Z_25 (fG rfl h) (j:=1) rfl (by simp at h; omega))) ?_
  refine fJ rfl rfl (eU rfl rfl (Ht rfl) (fun h=>cX (Ht rfl))) (fJ rfl rfl (eU rfl rfl (Ht rfl) (fun h=>mN U_25 Z_60 (fG rfl h) (fG rfl h) rfl (j:=1) rfl zo (by simp at h; omega) (by simp at h; rw [hAs.row h]; omega))) ?_)
  refine fJ rfl rfl (eU rfl rfl (Ht rfl) (fun h=>qE A_60 Z_60 (fG rfl h) (j:=1) rfl zo (by simp at h; omega) (by simp at h; rw [hAs.row h]; omega))) ?_
  refine fJ rfl rfl (eU rfl rfl (Ht rfl) (fun h=>bH bR (fG rfl h))) (fJ rfl rfl (eU rfl rfl (Ht rfl) (fun h=>bD zB Tryz.call82 (Hx (x:=gm A p c) (L:=G) zo) (fG rfl h) trivial)) (fJ rfl rfl (eU rfl rfl (Ht rfl) (fun h=>fO (fG rfl h))) (ro rfl (eC (Ht rfl) (fun h=>(fG rfl h))) (eX (dQ (Ht rfl) (fun he=>?_) (fun he=>?_))))))
  ·have he2 : p < n ∧ gm A p c = Qi.zero := by simpa using he
   refine cU (eK (cY (rm rfl (ro rfl (dV (Ht rfl) (cJ 1) z6) (ra rfl (eX (bI ?_)))))))
   refine gZ (p + 1) ⟨⟨by omega, by omega⟩, fun r h1 h2 => by
     by_cases e:r = p
     ·rw [e]; exact he2.2
     ·exact hz r h1 zo⟩ zo (zS rfl) (cT.refl _)
  ·have hpv : pv A c n = p := a0E hcp hpn hz (fun h => by simp at he; exact he h)
   refine gU rfl (cK (ts (rm rfl (rm rfl (ro rfl (jU U_26 (Ht rfl)) (ro rfl (cB (Ht rfl) (Ht rfl)) (eX (dQ (Ht rfl) (fun hp=>?_) (fun hp=>?_)))))))))
   ·have hp2 : p = n := by simpa using hp
    have hend:=Nz hs1 hA (by rw [hpv]; exact hp2) hcn
    refine ts (rm rfl (rm rfl (ra rfl (ra rfl (eX ?_)))))
    exact kO () trivial [0,1] ⟨⟨_,rfl,fun _ _ _ h=>h⟩,⟨_,rfl,(fun S w V h=>gC (by rw [hend]) S w V (xT (by rw [List.length_map]; omega) S w V h))⟩,trivial⟩ (by decide) (Vf rfl (fV (eY rfl) (kT (by rw [hend]))) (fV (eY rfl) (aT (by rw [hend]))))
   ·have hp2 : p < n := by simp at hp; omega
    have hpz:=(pH (M:=A) (c:=c) (n:=n) hc).2.2.2 (by rw [hpv]; exact hp2)
    rw [hpv] at hpz
    have hnx:=Kt hs1 hA hpv hp2
    refine cU (cK (Rp (fun (q:Nat) (us:List Value) (D:List (List Qi))=>(q = sw + (if p = c then 0 else 1) ∧ D = (if p = c then A else swp [] A p c)) ∧ Vx us n) (fun (q:Nat) (us:List Value) (D:List (List Qi))=>[(0,Is (.slice (some ⟨B,0,none⟩) n n)),(4,NT .i64 q),(5,NT .i64 c),(12,NT .i64 n),(13,NT .i64 c)]) (fun (q:Nat) (us:List Value) (D:List (List Qi))=>[Z,jF B 25 60 5 us us (dN aD D)]) ?_ (fun q us D ⟨⟨hq,hD⟩,hus⟩=>?_)))
    ·refine ts (rm rfl (rm rfl (ro rfl (gD (Ht rfl) (Ht rfl)) (eX (dQ (Ht rfl) (fun hpc => ?_) (fun hpc => ?_))))))
     ·have hpc2 : ¬ p = c := by simpa using hpc
      refine cK (Y.D_start (m:=14) [(13,1,jF B 25 60 5 (vs.set p (hd vs c)) vs (dN aD A))] (Y.D_step (Ei:=[(0,_)]) rfl rfl (bQ (bJ rfl rfl) bX) rfl rfl (by kernel_rfl) (dX rfl (cX (Ht rfl))) (Y.D_step (Ei:=[(6,_)]) rfl rfl (bQ (bJ rfl rfl) bX) rfl rfl (by kernel_rfl) (dX rfl (cX (Ht rfl))) (bY (Ei:=[(0,_)]) rfl rfl (bQ (bJ rfl rfl) bX) rfl rfl (dX rfl (cX (Ht rfl))) (bY (Ei:=[(5,_)]) rfl rfl (bQ (bJ rfl rfl) bX) rfl rfl (dX rfl (cX (Ht rfl))) ?_)))))
      refine Y.D_step (Ei:=[(0,_)]) rfl rfl (bQ (bJ rfl rfl) bX) rfl rfl (by kernel_rfl) (dX rfl (cX (Ht rfl))) (Y.D_step (Ei:=[(5,_)]) rfl rfl (bQ (bJ rfl rfl) bX) rfl rfl (by kernel_rfl) (dX rfl (cX (Ht rfl))) (Y.D_step (Ei:=[(48,_),(49,_)]) rfl rfl (bQ (bZ 4 rfl rfl) (bQ (bZ 5 rfl rfl) bX)) rfl rfl (by kernel_rfl) (dX rfl (gJ U_26 Z_25 (Ht rfl) (Ht rfl) rfl zo (by rw [Nat.mul_one,Nat.zero_add]))) ?_))
      refine Y.D_step (Ei:=[(50,_)]) rfl rfl (bQ (bZ 6 rfl rfl) bX) rfl rfl (by kernel_rfl) (dX rfl (kK A_25 Z_25 (Ht rfl) (j:=1) rfl zo)) (Y.D_step (Ei:=[(0,_)]) rfl rfl (bQ (bJ rfl rfl) bX) rfl rfl (by kernel_rfl) (dX rfl (cX (Ht rfl))) (Y.D_step (Ei:=[(6,_)]) rfl rfl (bQ (bJ rfl rfl) bX) rfl rfl (by kernel_rfl) (dX rfl (cX (Ht rfl))) (Y.D_step (Ei:=[(52,_),(53,_)]) rfl rfl (bQ (bZ 8 rfl rfl) (bQ (bZ 9 rfl rfl) bX)) rfl rfl (by kernel_rfl) (dX rfl (gJ U_26 Z_25 (Ht rfl) (Ht rfl) rfl zo (by rw [Nat.mul_one,Nat.zero_add]))) ?_)))
      refine Y.D_step (Ei:=[(54,_)]) rfl rfl (bQ (bZ 10 rfl rfl) bX) rfl rfl (by kernel_rfl) (dX rfl (kK A_25 Z_25 (Ht rfl) (j:=1) rfl zo)) (Y.D_step (Ei:=[(44,_),(45,_)]) rfl rfl (bQ (bZ 0 rfl rfl) (bQ (bZ 1 rfl rfl) bX)) rfl rfl (by kernel_rfl) (dX rfl (gJ U_26 Z_25 (Ht rfl) (Ht rfl) rfl zo (by rw [Nat.mul_one,Nat.zero_add]))) ?_)
      refine Y.D_putI (Ei:=[(56,_),(51,_)]) 1 rfl rfl rfl (bQ (bZ 12 rfl rfl) (bQ (bZ 7 rfl rfl) bX)) (.head _) rfl (Mg Z_25 (Ht rfl) (Ht rfl) (hvs.pl c zo) (i:=p) (hs:=vs) zo) (Y.D_done bC rfl (by kernel_rfl) rfl (by simp [Y.okP]) rfl rfl (bU (bU (bU (bU (bU (bU (bU (bU (bU (bU (bU (bU (bU (Y.F_putI (Y.F_nil ?_))))))))))))))))
      refine ro rfl (gJ U_26 Z_25 (Ht rfl) (Ht rfl) rfl zo (by rw [Nat.mul_one,Nat.zero_add])) ?_
      refine Xh Z_25 (Ht rfl) (Ht rfl) (j:=1) rfl (hvs.pl p zo) (by rw [List.length_set]; omega) rfl ?_
      refine eX (lI 1 rfl (Lf (hs:=swp Bq vs p c) (p:=p) (c:=c) zo zo zo) (cY (rm rfl (ro rfl (dV (Ht rfl) (cJ 1) z6) (ra rfl (eX (aP (sw + 1,swp Bq vs p c,swp [] A p c) ⟨⟨by rw [if_neg hpc2],by rw [if_neg hpc2]⟩,hvs.swp hp2 hcn⟩ (zS rfl) (cT.refl _))))))))
     ·have hpc2 : p = c := by simpa using hpc
      refine cU (aP (sw,vs,A) ⟨⟨by rw [if_pos hpc2]; rfl,by rw [if_pos hpc2]⟩,hvs⟩ (zS rfl) (cT.refl _))
    ·have hul := hus.len
     rw [← hq,← hD] at hnx
     have hDs:iF D n m:=by rw [hD]; split; exact hAs; exact wI hAs hp2 hcn
     have hDf:cF D G:=by rw [hD]; split; exact hAf; exact Cd hAf
     have hDl:=hDs.1
     have hDz : gm D c c ≠ Qi.zero := by
      rw [hD]; split
      ·rename_i e; rw [e] at hpz; exact hpz
      ·show gv (dS (swp [] A p c) c) c ≠ _
       rw [yI zo]; exact hpz
     refine ts (rm rfl (ro rfl (dV (Ht rfl) (cJ 1) z6) (ra rfl (eX (eK ?_)))))
     refine dB (fun (r : Nat) => c < r ∧ r ≤ n) (fun (r : Nat) => n - r) (fun (r : Nat) => [(0, Is (.slice (some ⟨B, 0, none⟩) n n)), (4, NT .i64 q), (5, NT .i64 c), (7, NT .i64 r), (12, NT .i64 n), (13, NT .i64 c)]) (fun (r : Nat) => [Z, jF B 25 60 5 us us (dN aD (redM D c r))]) (c + 1) ⟨Nat.lt_succ_self _, hcn⟩
      (zS rfl) (aU (fun _ _ _ h=>h) (aU (vT (congrArg _ Ha)) aY)) (fun r ⟨hcr,hrn⟩=>?_)
     refine cK (ts (rm rfl (rm rfl (ro rfl (jU U_26 (Ht rfl)) (ro rfl (gW (Ht rfl) (Ht rfl)) (eX (dQ (Ht rfl) (fun hr=>?_) (fun hr=>?_))))))))
     ·simp only [decide_eq_true_eq] at hr
      obtain ⟨X,hX⟩:∃ X,X = redM D c r:=⟨_,rfl⟩
      have hXr:dS X r = dS D r:=by rw [hX]; exact sU zo zo
      have hXc:dS X c = dS D c:=by rw [hX]; exact sU zo zo
      have hXl:X.length = n:=by rw [hX,qG]; exact hDl
      have hXrl:(dS X r).length = m:=by rw [hXr]; exact hDs.row hr
      have hXcl:(dS X c).length = m:=by rw [hXc]; exact hDs.row hcn
      have hXrg:(X.getD r []).length = m:=hXrl
      have hXcg:(X.getD c []).length = m:=hXcl
      have hXfr:cH (dS X r) G:=by rw [hXr]; exact hDf.row r
      have hXfc:cH (dS X c) G:=by rw [hXc]; exact hDf.row c
      haveI g1:aM (gm X r c) G:=hXfr.get hG1 c
      haveI g2:aM (gm X c c) G:=hXfc.get hG1 c
      have hXz:gm X c c ≠ Qi.zero:=by show gv (dS X c) c ≠ _; rw [hXc]; exact hDz
      haveI g3:aM (gm X r c / gm X c c) (G + 3 * G + 2):=⟨g1.fit.div g2.fit hXz⟩
      have hend:=Qm (D:=D) (r:=r) (c:=c) zo hcr
      rw [← hX] at hend ⊢
      refine cU (cK (eK (cK (Y.D_start (m:=21) [] (bY (Ei:=[(0,_)]) rfl rfl (bQ (bJ rfl rfl) bX) rfl rfl (dX rfl (cX (Ht rfl))) (bY (Ei:=[(7,_)]) rfl rfl (bQ (bJ rfl rfl) bX) rfl rfl (dX rfl (cX (Ht rfl))) (bY (Ei:=[(69,_),(70,_)]) rfl rfl (bQ (bZ 0 rfl rfl) (bQ (bZ 1 rfl rfl) bX)) rfl rfl (dX rfl (gJ U_26 Z_25 (Ht rfl) (Ht rfl) rfl zo (by rw [Nat.mul_one,Nat.zero_add]))) ?_)))))))
      refine bY (Ei:=[(71,_)]) rfl rfl (bQ (bZ 2 rfl rfl) bX) rfl rfl (dX rfl (kK A_25 Z_25 (Ht rfl) (j:=1) rfl zo)) (bY (Ei:=[(5,_)]) rfl rfl (bQ (bJ rfl rfl) bX) rfl rfl (dX rfl (cX (Ht rfl))) (bY (Ei:=[(72,_),(73,_)]) rfl rfl (bQ (bZ 3 rfl rfl) (bQ (bZ 4 rfl rfl) bX)) rfl rfl (dX rfl (mN U_25 Z_60 (Ht rfl) (Ht rfl) rfl (j:=1) rfl zo zo zo)) (bY (Ei:=[(74,_)]) rfl rfl (bQ (bZ 5 rfl rfl) bX) rfl rfl (dX rfl (qE A_60 Z_60 (Ht rfl) (j:=1) rfl zo zo zo)) ?_)))
      refine bY (Ei:=[(75,_)]) rfl rfl (bQ (bZ 6 rfl rfl) bX) rfl rfl (dX rfl (bH bR (Ht rfl))) (bY (Ei:=[(0,_)]) rfl rfl (bQ (bJ rfl rfl) bX) rfl rfl (dX rfl (cX (Ht rfl))) (bY (Ei:=[(5,_)]) rfl rfl (bQ (bJ rfl rfl) bX) rfl rfl (dX rfl (cX (Ht rfl))) (bY (Ei:=[(77,_),(78,_)]) rfl rfl (bQ (bZ 8 rfl rfl) (bQ (bZ 9 rfl rfl) bX)) rfl rfl (dX rfl (gJ U_26 Z_25 (Ht rfl) (Ht rfl) rfl zo (by rw [Nat.mul_one,Nat.zero_add]))) ?_)))
      refine bY (Ei:=[(79,_)]) rfl rfl (bQ (bZ 10 rfl rfl) bX) rfl rfl (dX rfl (kK A_25 Z_25 (Ht rfl) (j:=1) rfl zo)) (bY (Ei:=[(5,_)]) rfl rfl (bQ (bJ rfl rfl) bX) rfl rfl (dX rfl (cX (Ht rfl))) (bY (Ei:=[(80,_),(81,_)]) rfl rfl (bQ (bZ 11 rfl rfl) (bQ (bZ 12 rfl rfl) bX)) rfl rfl (dX rfl (mN U_25 Z_60 (Ht rfl) (Ht rfl) rfl (j:=1) rfl zo zo zo)) (bY (Ei:=[(82,_)]) rfl rfl (bQ (bZ 13 rfl rfl) bX) rfl rfl (dX rfl (qE A_60 Z_60 (Ht rfl) (j:=1) rfl zo zo zo)) ?_)))
      refine bY (Ei:=[(76,_),(83,_)]) rfl rfl (bQ (bZ 7 rfl rfl) (bQ (bZ 14 rfl rfl) bX)) rfl rfl (dX rfl (bD jN K_64 (sC (x:=gm X r c) (y:=gm X c c) (L:=G) (M:=G) zo) (Ht rfl) ⟨(Ht rfl),trivial⟩)) (bY (Ei:=[(84,_)]) rfl rfl (bQ (bZ 15 rfl rfl) bX) rfl rfl (dX rfl (cX (Ht rfl))) (bY (Ei:=[(68,_)]) rfl rfl (bQ (bZ 16 rfl rfl) bX) rfl rfl (dX rfl (dK (Ht rfl) rfl)) (bY (Ei:=[(68,_)]) rfl rfl (bQ (bZ 16 rfl rfl) bX) rfl rfl (dX rfl (dK (Ht rfl) rfl)) ?_)))
      refine Y.D_newp (Ei:=[]) (fun bb=>box bb 60 [aC (decide ((gm X r c / gm X c c).a < 0)),aL (gm X r c / gm X c c).a.natAbs,aC (decide ((gm X r c / gm X c c).b < 0)),aL (gm X r c / gm X c c).b.natAbs,aL (du (gm X r c / gm X c c))]) 20 rfl rfl rfl bX rfl rfl (by kernel_rfl) (eG (Ts:=[Is (.bool false),Is (.slice none 0 0),Is (.bool false),Is (.slice none 0 0),Is (.slice none 0 0)]) O_60 rfl (fun V=>aW zd (aW zd (aW zd (aW zd (aW zd (aG))))))) ?_
      refine Y.D_putN (Ei:=[(85,_)]) 19 rfl rfl rfl rfl rfl rfl (bQ (bZ 17 rfl rfl) bX) (fun bb=>mH Z_60 (Ht rfl) (Ht rfl) rfl (i:=0) rfl (aK rfl) rfl rfl) (Y.D_done bC rfl (by kernel_rfl) rfl (by simp [Y.okP]) rfl rfl (bU (bU (bU (bU (bU (bU (bU (bU (bU (bU (bU (bU (bU (bU (bU (bU (bU (bU (bU (Y.F_newp (fun B8=>Y.F_putN (Y.F_nil ?_)))))))))))))))))))))))
      refine ra rfl (eX (ts (rm rfl (ro rfl (dV (Ht rfl) (cJ 1) z6) (ra rfl (eX (eK ?_)))))))
      refine dB (fun (k : Nat) => c < k ∧ k ≤ m) (fun (k : Nat) => m - k) (fun (k : Nat) => [(0, Is (.slice (some ⟨B, 0, none⟩) n n)), (4, NT .i64 q), (5, NT .i64 c), (7, NT .i64 r), (8, cE B8 0), (10, NT .i64 k), (12, NT .i64 n), (13, NT .i64 c)]) (fun (k : Nat) => [Z, jF B 25 60 5 us us (dN aD (X.set r (kD (dS X r) (dS X c) c k))), box B8 60 [aC (decide ((gm X r c / gm X c c).a < 0)), aL (gm X r c / gm X c c).a.natAbs, aC (decide ((gm X r c / gm X c c).b < 0)), aL (gm X r c / gm X c c).b.natAbs, aL (du (gm X r c / gm X c c))]]) (c + 1) ⟨Nat.lt_succ_self _, by omega⟩
       (zS rfl) (aU (fun _ _ _ h=>h) (aU (vT (by rw [← Hb,Zn zo])) (aU (aB rfl) aY))) (fun k ⟨hck,hkm⟩=>?_)
      obtain ⟨Y,hY⟩:∃ Y,Y = (X.set r (kD (dS X r) (dS X c) c k)):=⟨_,rfl⟩
      have hYl:Y.length = n:=by rw [hY,List.length_set]; exact hXl
      have hYrl:(dS Y r).length = m:=by rw [hY,Bx zo,sV]; exact hXrl
      have hYcl:(dS Y c).length = m:=by rw [hY,tX zo]; exact hXcl
      have hYrg:(Y.getD r []).length = m:=hYrl
      have hYcg:(Y.getD c []).length = m:=hYcl
      rw [← hY]
      refine cK (ts (rm rfl (rm rfl (rm rfl (ro rfl (gJ U_26 Z_25 (Ht rfl) (Ht rfl) rfl zo (by rw [Nat.mul_one,Nat.zero_add])) ?_)))))
      refine ro rfl (kK A_25 Z_25 (Ht rfl) (j:=1) rfl zo) (ro rfl (Um U_25 (Ht rfl) (j:=1) rfl zo zo) (ro rfl (gW (Ht rfl) (Ht rfl)) (eX (dQ (Ht rfl) (fun hk=>?_) (fun hk=>?_)))))
      ·have hk2 : k < m := by simp only [decide_eq_true_eq] at hk; omega
       have e1:gm Y r k = gv (dS X r) k:=by rw [hY]; exact a0t zo zo hck
       have e2:gm Y c k = gv (dS X c) k:=by rw [hY]; exact a0s zo
       haveI y1:aM (gm Y r k) G:=by rw [e1]; exact hXfr.get hG1 k
       haveI y2:aM (gm Y c k) G:=by rw [e2]; exact hXfc.get hG1 k
       have hst:=Ql (X:=X) (r:=r) (c:=c) (k:=k) zo zo zo hck
       rw [← hY] at hst
       refine cU (cK (eK (fW (m:=24) (dp 0 rfl (cX (Ht rfl)) (dp 7 rfl (cX (Ht rfl)) (dP 98 0 99 1 rfl (gJ U_26 Z_25 (Ht rfl) (Ht rfl) rfl zo (by rw [Nat.mul_one,Nat.zero_add])) ?_))))))
       refine dq 100 2 rfl (kK A_25 Z_25 (Ht rfl) (j:=1) rfl zo) (dp 10 rfl (cX (Ht rfl)) (dp 0 rfl (cX (Ht rfl)) (dp 7 rfl (cX (Ht rfl)) (dP 103 5 104 6 rfl (gJ U_26 Z_25 (Ht rfl) (Ht rfl) rfl zo (by rw [Nat.mul_one,Nat.zero_add])) ?_))))
       refine dq 105 7 rfl (kK A_25 Z_25 (Ht rfl) (j:=1) rfl zo) (dp 10 rfl (cX (Ht rfl)) (dP 106 8 107 9 rfl (mN U_25 Z_60 (Ht rfl) (Ht rfl) rfl (j:=1) rfl zo zo zo) (dq 108 10 rfl (qE A_60 Z_60 (Ht rfl) (j:=1) rfl zo zo zo) (dq 109 11 rfl (bH bR (Ht rfl)) (dp 8 rfl (eW A_60 Z_60 (Ht rfl) (i:=2) rfl rfl rfl) (dq 111 13 rfl (bH bR (Ht rfl)) (dp 0 rfl (cX (Ht rfl)) (dp 5 rfl (cX (Ht rfl)) (dP 113 15 114 16 rfl (gJ U_26 Z_25 (Ht rfl) (Ht rfl) rfl zo (by rw [Nat.mul_one,Nat.zero_add])) ?_)))))))))
       refine dq 115 17 rfl (kK A_25 Z_25 (Ht rfl) (j:=1) rfl zo) (dp 10 rfl (cX (Ht rfl)) (dP 116 18 117 19 rfl (mN U_25 Z_60 (Ht rfl) (Ht rfl) rfl (j:=1) rfl zo zo zo) (dq 118 20 rfl (qE A_60 Z_60 (Ht rfl) (j:=1) rfl zo zo zo) (dP 112 14 119 21 rfl (bD dC K_70 (kQ (x:=gm X r c / gm X c c) (y:=gm Y c k) (L:=G + 3 * G + 2) (M:=G) zo) (Ht rfl) ⟨(Ht rfl),trivial⟩) (dP 110 12 120 22 rfl (bD kS K_69 (wY (x:=gm Y r k) (y:=gm X r c / gm X c c * gm Y c k) (L:=G) (M:=G + 3 * G + 2 + G + 1) zo) (Ht rfl) ⟨(Ht rfl),trivial⟩) ?_)))))
       refine fK bC rfl (by kernel_rfl) (zF (zF (zF (zF (zF (zF (aV (ro rfl (mN U_25 Z_60 (Ht rfl) (Ht rfl) rfl (j:=1) rfl zo zo zo) (a08 Z_60 (Ht rfl) (Ht rfl) (j:=1) rfl (El.ag rfl) (F:=aD) (z:=gm Y r k - gm X r c / gm X c c * gm Y c k) zo zo zo rfl (eX (bI (cY ?_))))))))))))
       refine rm rfl (ro rfl (dV (Ht rfl) (cJ 1) z6) (ra rfl (eX (gZ (k + 1) ⟨by omega,hk2⟩ zo (zS rfl) (aU (fun _ _ _ h=>h) (aU (vT (congrArg _ hst)) (aU (aB rfl) aY)))))))
      ·have hk3 : k = m := by simp only [decide_eq_false_iff_not] at hk; omega
       subst hk3
       refine gU rfl (bI (cY (rm rfl (ro rfl (dV (Ht rfl) (cJ 1) z6) (ra rfl (eX (bO [0,1] rfl (by decide) (gZ (r + 1) ⟨by omega,hr⟩ zo (zS rfl) (aU (fun _ _ _ h=>h) (aU (vT (by rw [hY,← hend,hDs.row hr])) aY))))))))))
     ·simp only [decide_eq_false_iff_not] at hr
      obtain rfl:r = n:=Nat.le_antisymm hrn zo
      refine gU rfl (bI (cY (ro rfl (dV (Ht rfl) (cJ 1) z6) (rm rfl (eX (gZ (c + 1,q,us,redM D c r) ⟨⟨hcn,by show q ≤ c + 1; rw [hq]; split <;> omega⟩,hnx,hus⟩ (by dsimp only; omega) (zS rfl) (cT.refl _)))))))
 ·simp only [decide_eq_false_iff_not] at hcn
  obtain rfl:c = n:=Nat.le_antisymm hc zo
  have hvl:=hvs.len
  have hAs:iF A c m:=by have h:=oH hs hc; rw [hA] at h; exact h
  refine gU rfl (ts (rm rfl (ra rfl (ro rfl (cQ cV) (eX ?_)))))
  exact kO () trivial [0,1] ⟨⟨_,rfl,fun _ _ _ h=>h⟩,⟨_,rfl,(fun S w V h=>gC (by rw [hA]) S w V (xT (by rw [List.length_map,hAs.1]; exact hvl) S w V h))⟩,trivial⟩ (by decide) (Vf rfl (fV (eY rfl) (kT (by rw [hA]))) (fV (eY rfl) (aT (by rw [hA]))))
end
section
open Go Go.RowKit
abbrev Df (M bs:List (List Qi)) (i:Nat):List Qi:=dS M i ++ bs.map fun b=>gv b i
def oE (M bs:List (List Qi)) (n:Nat):List (List Qi):=tab n (Df M bs)
theorem Sz {r:List Qi} {bs:List (List Qi)} {i j:Nat} (h:j < bs.length):(r ++ (bs.take j).map fun b=>gv b i) ++ [gv (bs.getD j []) i] = r ++ (bs.take (j + 1)).map fun b=>gv b i:=by
 rw [List.append_assoc,List.take_add_one,List.map_append]
 simp [List.getD,h]
theorem oF {M bs:List (List Qi)} {n m:Nat} (h:iF M n m):iF (oE M bs n) n (m + bs.length):=by
 refine ⟨aO _ _,fun r hr=>?_⟩
 obtain ⟨i,hi,rfl⟩:=hJ.1 hr
 rw [List.length_append,List.length_map,h.row hi]
theorem tM {M bs : List (List Qi)} {n L : Nat} (h : cF M L) (hb : cF bs L) (hL : 1 ≤ L) : cF (oE M bs n) L := fun r hr x hx => by
 obtain ⟨i,hi,rfl⟩:=hJ.1 hr
 rcases List.mem_append.1 hx with h1 | h1
 ·exact h.row i x h1
 ·obtain ⟨b, hb1, rfl⟩ := List.mem_map.1 h1
  exact cH.get (hb b hb1) hL i
theorem Kq {M:List (List Qi)} {n m:Nat} (h:iF M n m):oE M [] n = M:=by
 have:oE M [] n = tab n (dS M):=eB fun i _=>by simp [Df]
 rw [this]; exact (Cf (h:=h.1)).symm
def qL (U : List (List Qi)) (x : List Qi) (n c : Nat) : Nat → Qi
 | 0=>gm U c n
 | k + 1=>qL U x n c k - gm U c (c + 1 + k) * gv x (c + 1 + k)
def uF (U : List (List Qi)) (n : Nat) : Nat → List Qi
 | 0=>tab n fun _=>Qi.zero
 | j + 1=>(uF U n j).set (n - (j + 1)) (qL U (uF U n j) n (n - (j + 1)) j / gm U (n - (j + 1)) (n - (j + 1)))
theorem Ao (U : List (List Qi)) (n : Nat) : ∀ j, (uF U n j).length = n
 | 0=>aO _ _
 | j + 1=>by rw [uF,List.length_set,Ao U n j]
def yF (M:List (List Qi)) (b:List Qi) (n:Nat):List (List Qi) × Nat × Int:=dH (oE M [b] n) n
def rF (M:List (List Qi)) (b:List Qi) (n:Nat):Int:=if 0 ≤ (yF M b n).2.2 then 6 else 0
def yG (M:List (List Qi)) (b:List Qi) (n:Nat):List Qi:=uF (yF M b n).1 n n
def Fh (G : Nat) : Nat → Nat
 | 0=>G
 | j + 1=>j * (Fh G j + G + 2) + 4 * G + 2
theorem yQ (G j:Nat):Fh G j ≤ Fh G (j + 1):=by
 cases j with
 | zero=>simp only [Fh]; omega
 | succ j =>
  have:Fh G (j + 1) + G + 2 ≤ (j + 1) * (Fh G (j + 1) + G + 2):=Nat.le_mul_of_pos_left _ zo
  rw [show Fh G (j + 1 + 1) = (j + 1) * (Fh G (j + 1) + G + 2) + 4 * G + 2 from rfl]
  omega
theorem Hi (G : Nat) : ∀ j, G ≤ Fh G j
 | 0=>Nat.le_refl _
 | j + 1=>Nat.le_trans (Hi G j) (yQ G j)
theorem Fi (G : Nat) : ∀ {i j : Nat}, i ≤ j → Fh G i ≤ Fh G j
 | i,0,h=>by rw [show i = 0 by omega]; exact Nat.le_refl _
 | i, j + 1, h => by
  by_cases e:i = j + 1
  ·rw [e]; exact Nat.le_refl _
  ·exact Nat.le_trans (Fi G (show i ≤ j by omega)) (yQ G j)
theorem tQ {M : List (List Qi)} {n m : Nat} (hs : iF M n m) : ∀ {c : Nat}, c ≤ n → (dH M c).2.2 < 0 → ∀ i, i < c → gm (dH M c).1 i i ≠ Qi.zero
 | 0,_,_,i,hi=>by omega
 | c + 1, hc, hst, i, hi => by
  have sh:=oH hs (c:=c) zo
  obtain ⟨_,i2,i3,i4⟩:=pH (M:=(dH M c).1) (c:=c) (n:=M.length) (by rw [hs.1]; omega)
  simp only [dH] at hst ⊢
  split at hst
  ·rename_i h0; omega
  ·rename_i h0
   rw [if_neg h0]
   split at hst
   ·simp at hst; omega
   ·rename_i h1
    rw [if_neg h1]
    have ih:=tQ hs (c:=c) zo zo
    have hl : ∀ X : List (List Qi), X.length = n → gm (redM X c M.length) i i = gm X i i := fun X hX => by
     show gv (dS (redM X c M.length) i) i = _
     rw [sU zo zo]
    by_cases e:pv (dH M c).1 c M.length = c
    ·rw [if_pos e, hl _ sh.1]
     by_cases e2:i = c
     ·rw [e2]; have:=i4 (by have:=hs.1; omega); rw [e] at this; exact this
     ·exact ih i zo
    ·have hpl : pv (dH M c).1 c M.length < n := by rw [← hs.1]; omega
     rw [if_neg e,hl _ ((Ce _ _ _ _).trans sh.1)]
     by_cases e2:i = c
     ·rw [e2]
      show gv (dS (swp [] _ _ c) c) c ≠ _
      rw [yI (by rw [sh.1]; omega)]
      exact i4 (by have:=hs.1; omega)
     ·have : dS (swp [] (dH M c).1 (pv (dH M c).1 c M.length) c) i = dS (dH M c).1 i := by
       simp only [dS,swp,List.getD]
       rw [List.getElem?_set_ne (Ne.symm e2),List.getElem?_set_ne zo]
      show gv (dS (swp [] _ _ c) i) i ≠ _
      rw [this]; exact ih i zo
theorem wG {U : List (List Qi)} {x : List Qi} {n c G X : Nat} (hU : cF U G) (hx : cH x X) (hG : 1 ≤ G) (hX : 1 ≤ X) : ∀ k, aM (qL U x n c k) (G + k * (G + X + 2))
 | 0=>(hU.get hG c n).le zo
 | k + 1 => by
  haveI f1:=wG (n:=n) (c:=c) hU hx hG hX k
  haveI f2:=hU.get hG c (c + 1 + k)
  haveI f3:=hx.get hX (c + 1 + k)
  have:aM (qL U x n c (k + 1)) (G + k * (G + X + 2) + (G + X + 1) + 1):=by unfold qL; infer_instance
  exact this.le (by rw [Nat.add_mul]; omega)
theorem Xr {U:List (List Qi)} {x:List Qi} {n c G X j:Nat} (hU:cF U G) (hx:cH x X) (hG:1 ≤ G) (hX:1 ≤ X) (hz:gm U c c ≠ Qi.zero):aM (qL U x n c j / gm U c c) (j * (X + G + 2) + 4 * G + 2):=by
 have f1:=wG (n:=n) (c:=c) hU hx hG hX j
 have f2:=hU.get hG c c
 have:aM (qL U x n c j / gm U c c) (G + j * (G + X + 2) + 3 * G + 2):=⟨f1.fit.div f2.fit hz⟩
 exact this.le (by rw [Nat.add_comm X G]; omega)
theorem Mt {U : List (List Qi)} {n G : Nat} (hU : cF U G) (hG : 1 ≤ G) (hz : ∀ i, i < n → gm U i i ≠ Qi.zero) : ∀ j, j ≤ n → cH (uF U n j) (Fh G j)
 | 0,_=>cH.tab fun _ _=>aM.zero hG
 | j + 1, hj => fun y hy => by
  have ih:=Mt hU hG hz j zo
  rcases List.mem_or_eq_of_mem_set hy with h1 | h1
  ·exact (ih y h1).le (yQ G j)
  ·rw [h1]; exact Xr hU ih hG (Nat.le_trans hG (Hi G j)) (hz _ zo)
theorem Qj {M:List (List Qi)} {b:List Qi} {n:Nat} (h:iF M n n):iF (yF M b n).1 n (n + 1):=oH (oF h) (Nat.le_refl n)
theorem Qh {M:List (List Qi)} {b:List Qi} {n L:Nat} (h:iF M n n) (hM:cF M L) (hb:cH b L) (hL:1 ≤ L):cF (yF M b n).1 (nB L n):=xJ (oF h) (tM hM (fun r hr=>by simp at hr; subst hr; exact hb) hL) hL (Nat.le_refl n)
def Ag (n i:Nat):List Qi:=(tab n fun _=>Qi.zero).set i (Qi.ofInt 1)
def Ma (n:Nat):List (List Qi):=tab n (Ag n)
theorem sM (n:Nat):iF (Ma n) n n:=⟨aO _ _,fun r hr=>by obtain ⟨i,_,rfl⟩:=hJ.1 hr; rw [Ag,List.length_set,aO]⟩
theorem qU:aM (Qi.ofInt 1) 1:=⟨Qi.Fit.int (L:=1) (by decide) (by decide)⟩
theorem Lw {n i L : Nat} (h : 1 ≤ L) : cH (Ag n i) L := fun x hx => by
 rcases List.mem_or_eq_of_mem_set hx with h1 | h1
 ·obtain ⟨_,_,rfl⟩:=hJ.1 h1; exact aM.zero h
 ·rw [h1]; exact qU.le h
theorem Iw {n L:Nat} (h:1 ≤ L):cF (Ma n) L:=fun r hr=>by obtain ⟨i,_,rfl⟩:=hJ.1 hr; exact Lw h
theorem Jt {M:List (List Qi)} {b:List Qi} {n:Nat} (h:¬ 0 ≤ (yF M b n).2.2):(yF M b n).2.2 < 0:=by omega
theorem nT (F:Qi → Ty) (n:Nat):List.replicate n (F Qi.zero) = (tab n fun _=>Qi.zero).map F:=by rw [mO,sX]
theorem a0b {n j:Nat} (h:(0:Int) ≤ (n:Int) - 1 - (j:Int)):j < n:=by omega
theorem a0c {n j:Nat} (h:(n:Int) - 1 - (j:Int) < 0):n ≤ j:=by omega
end
section
open Go Go.RowKit
theorem Kk  : bB Tryz.prog 172 [eE []] (aC true):=by
 refine bB.intro Tryz.func172 rfl Tryz.ntmps172 rfl (fun cx=>(ts (ro rfl (cQ cV) (eX (ts (rm rfl (ro rfl (cZ Tryz.call226 Gc ⟨(Ht rfl),trivial⟩) (rm rfl (ro rfl (dK (Ht rfl) rfl) (ro rfl (dK (Ht rfl) rfl) (ra rfl (ra rfl (eX (ts (rm rfl (rm rfl (fJ rfl rfl (eU rfl rfl (Ht rfl) (fun h=>cX (Ht rfl))) (fJ rfl rfl (eU rfl rfl (Ht rfl) (fun h=>cX (Ht rfl))) (fJ rfl rfl (eU rfl rfl (Ht rfl) (fun h=>dG U_26 (fG rfl h) aA)) (fJ rfl rfl (eU rfl rfl (Ht rfl) (fun h=>cB (fG rfl h) (fG rfl h))) ?_))))))))))))))))))))
 refine ro rfl (eC (Ht rfl) (fun h=>(fG rfl h))) (ra rfl (eX (fU rfl (fV (eY rfl) ?_))))
 exact (fT (by simp))
theorem Da {M:List (List Qi)} {n:Nat} (h:iF M n n) (h1:1 ≤ n) (hn:n ≤ 32):bB Tryz.prog 172 [eE M] (aC true):=by
 have hl:=h.1
 refine bB.intro Tryz.func172 rfl Tryz.ntmps172 rfl (fun cx=>(ts (ro rfl (cQ cV) (eX (ts (rm rfl (ro rfl (cZ Tryz.call226 (Ke h h1 hn hn) ⟨(Ht rfl),trivial⟩) (rm rfl (ro rfl (dK (Ht rfl) rfl) (ro rfl (dK (Ht rfl) rfl) (ra rfl (ra rfl (eX (ts (rm rfl (rm rfl (fJ rfl rfl (eU rfl rfl (Ht rfl) (fun h=>cX (Ht rfl))) (fJ rfl rfl (eU rfl rfl (Ht rfl) (fun h=>cX (Ht rfl))) (fJ rfl rfl (eU rfl rfl (Ht rfl) (fun h=>dG U_26 (fG rfl h) aA)) (fJ rfl rfl (eU rfl rfl (Ht rfl) (fun h=>cB (fG rfl h) (fG rfl h))) ?_))))))))))))))))))))
 refine ro rfl (eC (Ht rfl) (fun h=>(fG rfl h))) (ra rfl (eX (fU rfl (fV (eY rfl) ?_))))
 exact (fT (by simp [hl]))
theorem Kl {M:List (List Qi)} {n:Nat} (h:iF M n n) (hn:n ≤ 32):bB Tryz.prog 172 [eE M] (aC true):=by
 by_cases e:n = 0
 ·subst e
  obtain rfl:=List.length_eq_zero_iff.1 h.1
  exact Kk
 ·exact Da h zo hn
theorem zI {M bs:List (List Qi)} {n m:Nat} (hM:iF M n m) (hb:∀ b,b ∈ bs → n ≤ b.length) (hn:n ≤ 1000) (hm:m ≤ 1000) (hbl:bs.length ≤ 1000):gP Tryz.prog 195 [eE M,eE bs] [] (Nat) (fun B=>Is (.slice (some ⟨B,0,none⟩) n n)) (fun B=>[pD B 25 60 5 (dN aD (oE M bs n))]) (fun _=>True):=by
 have hMl:=hM.1
 refine gP.intro Tryz.func195 rfl Tryz.ntmps195 rfl (fun cx Z=>(ts (ro rfl (cQ cV) (eX (ts (rm rfl (ro rfl (dG U_26 (Ht rfl) aA) (rn rfl (fM (T:=Is (.slice none 0 0)) (i:=Tryz.t25) V_26 sN rfl rfl (Ht rfl) rfl (fun _=>rfl) trivial (by show 24 * _ ≤ _; omega) zo) fun B12=>(ra rfl (eX (cK (ts (rm rfl (ro rfl (dG U_26 (Ht rfl) aA) (ro rfl (cX (cJ 0)) (eX (eK (lI 1 rfl (vW (e:=60) (s:=5)) ?_))))))))))))))))))
 refine dB (fun (i : Nat) => i ≤ M.length) (fun (i : Nat) => M.length - i) (fun (i : Nat) => [(0, eE M), (1, eE bs), (5, Is (.slice (some ⟨B12, 0, none⟩) M.length M.length)), (13, eE M), (14, NT .i64 M.length), (15, NT .i64 i)]) (fun (i : Nat) => [Z, pD B12 25 60 5 (dN aD (kA (Df M bs) [] M.length i))]) 0 (Nat.zero_le _)
  (zS rfl) (aU (fun _ _ _ h=>h) (aU (gC (by rw [← iN,rC]; exact sW aD M.length)) aY)) (fun i hi=>?_)
 refine ts (ro rfl (gW (Ht rfl) (Ht rfl)) (eX (cK (dQ (Ht rfl) (fun hd0=>?_) (fun hd0=>?_)))))
 ·simp only [decide_eq_true_eq] at hd0
  have hrl:(dS M i).length = m:=hM.row zo
  have hrl2:(M.getD i []).length = m:=hrl
  refine qO 1 (i) rfl (xN hd0) (fun v0=>(cU (cK (eK (ts (rm rfl (ro rfl (dZ U_26 Z_25 (Ht rfl) (Ht rfl) rfl (dY (dU (d:=[]) hd0))) (ro rfl (dJ A_25 Z_25 (Ht rfl)) (ra rfl (ra rfl (eX (ts (rm rfl (rm rfl (rm rfl (oR Tryz.call109 (Cr (l:=M.getD i []) zo) ⟨(Ht rfl),trivial⟩ rfl (fun v1 _=>(ro rfl (gJ U_26 Z_25 (Ht rfl) (Ht rfl) rfl zo (by rw [Nat.mul_one,Nat.zero_add])) ?_))))))))))))))))))
  refine zG Z_25 (Ht rfl) (Ht rfl) (by simp only [dN,List.length_map,cR]; omega) (j:=1) (l:=3) rfl rfl rfl ?_
  refine eX (ts (rm rfl (ro rfl (dG U_26 (Ht rfl) aA) (ro rfl (cX (cJ 0)) (eX (eK (bO [0,1,3] rfl (by decide) ?_)))))))
  refine gR (fun (j : Nat) (v : Value) => j ≤ bs.length) (fun (j : Nat) (v : Value) => bs.length - j) (fun (j : Nat) (v : Value) => [(0, eE M), (1, eE bs), (5, Is (.slice (some ⟨B12, 0, none⟩) M.length M.length)), (6, NT .i64 i), (13, eE M), (14, NT .i64 M.length), (15, NT .i64 i), (25, eE bs), (26, NT .i64 bs.length), (27, NT .i64 j)]) (fun (j : Nat) (v : Value) => [Z, Le B12 25 60 5 (dN aD (kA (Df M bs) [] M.length i)) i v, bE 60 5 v ((dS M i ++ (bs.take j).map fun b => gv b i).map aD)]) 0 v1 (Nat.zero_le _)
   (zS rfl) (aU (fun _ _ _ h=>h) (aU (fun _ _ _ h=>h) (aU (bA (by simp)) aY))) (fun j v hj=>?_)
  refine ts (ro rfl (gW (Ht rfl) (Ht rfl)) (eX (cK (dQ (Ht rfl) (fun he=>?_) (fun he=>?_)))))
  ·simp only [decide_eq_true_eq] at he
   have hbj:i < (bs.getD j []).length:=by have h1:=hb (bs.getD j []) (by rw [Tj he]; exact List.getElem_mem _); omega
   refine cU (cK (eK (ts (ro rfl (dZ U_26 Z_25 (Ht rfl) (Ht rfl) rfl (dY (dU (d:=[]) he))) (ro rfl (dJ A_25 Z_25 (Ht rfl)) (ra rfl (eX (Y.D_startA (m:=12) [] 11 2 rfl rfl (bY (Ei:=[(5,_)]) rfl rfl (bQ (bJ rfl rfl) bX) rfl rfl (dX rfl (cX (Ht rfl))) (bY (Ei:=[(6,_)]) rfl rfl (bQ (bJ rfl rfl) bX) rfl rfl (dX rfl (cX (Ht rfl))) (bY (Ei:=[(5,_)]) rfl rfl (bQ (bJ rfl rfl) bX) rfl rfl (dX rfl (cX (Ht rfl))) ?_)))))))))))
   refine bY (Ei:=[(6,_)]) rfl rfl (bQ (bJ rfl rfl) bX) rfl rfl (dX rfl (cX (Ht rfl))) (bY (Ei:=[(33,_),(34,_)]) rfl rfl (bQ (bZ 2 rfl rfl) (bQ (bZ 3 rfl rfl) bX)) rfl rfl (dX rfl (gJ U_26 Z_25 (Ht rfl) (Ht rfl) rfl zo (by rw [Nat.mul_one,Nat.zero_add]))) ?_)
   refine bY (Ei:=[(35,_)]) rfl rfl (bQ (bZ 4 rfl rfl) bX) rfl rfl (dX rfl (nY A_25 Z_25 (Ht rfl) (j:=1) rfl)) (bY (Ei:=[(9,_)]) rfl rfl (bQ (bJ rfl rfl) bX) rfl rfl (dX rfl (cX (Ht rfl))) (bY (Ei:=[(6,_)]) rfl rfl (bQ (bJ rfl rfl) bX) rfl rfl (dX rfl (cX (Ht rfl))) (bY (Ei:=[(37,_),(38,_)]) rfl rfl (bQ (bZ 6 rfl rfl) (bQ (bZ 7 rfl rfl) bX)) rfl rfl (dX rfl (dZ U_25 Z_60 (Ht rfl) (Ht rfl) rfl (dY (dU (d:=Qi.zero) hbj)))) ?_)))
   refine bY (Ei:=[(39,_)]) rfl rfl (bQ (bZ 8 rfl rfl) bX) rfl rfl (dX rfl (dJ A_60 Z_60 (Ht rfl))) (bY (Ei:=[(40,_)]) rfl rfl (bQ (bZ 9 rfl rfl) bX) rfl rfl (dX rfl (eM (xs:=[.tmp 40]) U_25 Z_60 O_60 (cW (Ht rfl) cG) rfl rfl rfl)) (Y.D_app (Ei:=[(36,_),(41,_)]) rfl rfl rfl rfl (bQ (bZ 5 rfl rfl) (bQ (bZ 10 rfl rfl) bX)) rfl (Cj (inf:=Tryz.t60) jP iM rfl rfl rfl (Ht rfl) (Ht rfl) (by simp) (fun T hT=>by simp at hT; subst hT; exact El.ag rfl) (by show _ * 88 ≤ _; simp only [List.length_map,List.length_append,List.length_take,List.length_cons,List.length_nil]; omega) (by simp only [List.length_map,List.length_append,List.length_take,List.length_cons,List.length_nil]; omega)) ?_))
   refine Y.D_done bC rfl (by kernel_rfl) rfl (by simp [Y.okP]) rfl rfl (bU (bU (bU (bU (bU (bU (bU (bU (bU (bU (bU (Y.F_app (fun v2=>Y.F_nil ?_)))))))))))))
   refine ro rfl (gJ U_26 Z_25 (Ht rfl) (Ht rfl) rfl zo (by rw [Nat.mul_one,Nat.zero_add])) ?_
   refine zG Z_25 (Ht rfl) (Ht rfl) (by simp only [dN,List.length_map,cR]; omega) (j:=1) (l:=3) rfl rfl rfl ?_
   refine eX (bI (cY (ro rfl (dV (Ht rfl) (cJ 1) z6) (rm rfl (eX (bO [0,1,3] rfl (by decide) (gZ (j + 1,v2) he (by dsimp only; omega) (zS rfl) (aU (fun _ _ _ h=>h) (aU (fun _ _ _ h=>h) (aU (bA ((Mr aD _ (gv (bs.getD j []) i)).trans (congrArg _ (Sz he)))) aY))))))))))
  ·simp only [decide_eq_false_iff_not] at he
   obtain rfl:bs.length = j:=Nat.le_antisymm zo hj
   refine gU rfl (bI (lJ 1 2 rfl rfl (by decide) (by simp only [dN,List.length_map,cR]; omega) ?_))
   refine cY (ro rfl (dV (Ht rfl) (cJ 1) z6) (rm rfl (eX (bO [0,1] rfl (by decide) (gZ (i + 1) hd0 zo (zS rfl) (aU (fun _ _ _ h=>h) (aU (gC (by rw [List.take_length,mD,← jJ (f:=Df M bs)])) aY)))))))
 ·simp only [decide_eq_false_iff_not] at hd0
  obtain rfl:i = M.length:=Nat.le_antisymm hi zo
  subst hMl
  refine gU rfl (ts (rm rfl (ra rfl (eX ?_))))
  exact kO B12 trivial [0,1] ⟨⟨_,rfl,fun _ _ _ h=>h⟩,⟨_,rfl,(gC (by rw [jI]; rfl))⟩,trivial⟩ (by decide) (yB rfl (eY rfl))
end
section
open Go Go.RowKit
abbrev ek (n k:Nat):List Qi:=(Ma n).getD k []
theorem Yk {n k:Nat} (h:k < n):(ek n k).length = n:=(sM n).row h
theorem Yj {n k L:Nat} (h:1 ≤ L):cH (ek n k) L:=(Iw h).row k
def Bl (M:List (List Qi)) (n:Nat):Int:=nX (fun k=>rF M (ek n k) n) n
def Yu (M:List (List Qi)) (n:Nat):List (List Qi):=tab n fun r=>tab n fun j=>gv (yG M (ek n j) n) r
theorem yK {α:Type} {n i:Nat} {f:Nat → α} {d:α} (h:i < n):(tab n f).getD i d = f i:=by simp [List.getD,cD h]
def pZ (M:List (List Qi)) (n k i:Nat):List (List Qi):=tab n fun r=>tab n fun j=>if j < k ∨ j = k ∧ r < i then gv (yG M (ek n j) n) r else gm M r j
theorem oM (M:List (List Qi)) (n k i:Nat):iF (pZ M n k i) n n:=iF.tab
theorem Ld {M:List (List Qi)} {n:Nat} (h:iF M n n):M = pZ M n 0 0:=by
 rw [pZ]
 conv=>lhs; rw [Bn h]
 exact eB fun r _=>eB fun j _=>by rw [if_neg zo]
theorem Oy (M : List (List Qi)) (n k : Nat) : pZ M n k n = pZ M n (k + 1) 0 := eB fun r hr => eB fun j _ => by
 by_cases h:j < k ∨ j = k ∧ r < n
 ·rw [if_pos h,if_pos zo]
 ·rw [if_neg h,if_neg zo]
theorem Oz (M:List (List Qi)) (n:Nat):pZ M n n 0 = Yu M n:=eB fun r _=>eB fun j hj=>by rw [if_pos zo]
theorem Lc {M:List (List Qi)} {n k i:Nat} (hi:i < n) (hk:k < n):(pZ M n k i).set i (((pZ M n k i).getD i []).set k (gv (yG M (ek n k) n) i)) = pZ M n k (i + 1):=by
 apply List.ext_getElem?
 intro r
 by_cases hr:r < n
 ·by_cases e : r = i
  ·subst e
   rw [List.getElem?_set_self (by rw [(oM _ _ _ _).1]; exact hr),pZ,pZ,cD (f:=fun r=>tab n fun j=>if j < k ∨ j = k ∧ r < _ + 1 then gv (yG M (ek n j) n) r else gm M r j) hr]
   congr 1
   have:(tab n fun x=>tab n fun j=>if j < k ∨ j = k ∧ x < r then gv (yG M (ek n j) n) x else gm M x j).getD r [] = tab n fun j=>if j < k ∨ j = k ∧ r < r then gv (yG M (ek n j) n) r else gm M r j:=yK hr
   rw [this]
   apply List.ext_getElem?
   intro j
   by_cases hj:j < n
   ·by_cases e2 : j = k
    ·subst e2
     rw [List.getElem?_set_self (by rw [aO]; exact hj),cD hj,if_pos zo]
    ·rw [List.getElem?_set_ne (Ne.symm e2), cD hj, cD hj]
     by_cases e3:j < k
     ·rw [if_pos (.inl e3),if_pos (.inl e3)]
     ·rw [if_neg zo,if_neg zo]
   ·rw [List.getElem?_eq_none (by rw [List.length_set,aO]; omega),List.getElem?_eq_none (by rw [aO]; omega)]
  ·rw [List.getElem?_set_ne (Ne.symm e), pZ, pZ, cD hr, cD hr]
   congr 1
   refine eB fun j _=>?_
   by_cases e3:j < k ∨ j = k ∧ r < i
   ·rw [if_pos e3,if_pos zo]
   ·rw [if_neg e3,if_neg zo]
 ·rw [List.getElem?_eq_none (by rw [List.length_set,(oM _ _ _ _).1]; omega),List.getElem?_eq_none (by rw [(oM _ _ _ _).1]; omega)]
theorem Tn {M:List (List Qi)} {n k:Nat} (h:∀ i,i < k → rF M (ek n i) n = 0) (hk:k < n) (hx:rF M (ek n k) n ≠ 0):Bl M n = rF M (ek n k) n:=Ku h hx hk
theorem Lb {M:List (List Qi)} {n:Nat} (h:∀ i,i < n → rF M (ek n i) n = 0):Bl M n = 0:=uH h
def pmM (m:Bool) (a b:List (List Qi)) (n:Nat):List (List Qi):=tab n fun i=>tab n fun j=>if m = true then gm a i j - gm b i j else gm a i j + gm b i j
theorem Uz {m:Bool} {a b:List (List Qi)} {n:Nat}:iF (pmM m a b n) n n:=iF.tab
theorem Uy {m : Bool} {a b : List (List Qi)} {n L M : Nat} (ha : cF a L) (hb : cF b M) (h1 : 1 ≤ L) (h2 : 1 ≤ M) : cF (pmM m a b n) (L + M + 1) := cF.tab fun i j _ _ => by
 haveI:=ha.get h1 i j; haveI:=hb.get h2 i j
 split
 ·infer_instance
 ·infer_instance
theorem Mp {T : Ty} {s : Nat} : ∀ vs V, fE [T, Is (.slice none 0 0)] vs V → fE [T, jK s []] vs V
 | [_,_],_,⟨h1,h2,h3⟩=>⟨h1,iO _ _ h2,h3⟩
 | [],_,h=>h.elim
 | [_],_,h=>h.2.elim
 | _ :: _ :: _ :: _,_,h=>h.2.2.elim
theorem gP.arg {P : Program} {f : FuncId} {Ts Ts' : List Ty} {As : Hp} {γ : Type} {U : γ → Ty} {As' : γ → Hp} {Q : γ → Prop} (h : gP P f Ts As γ U As' Q) (i : ∀ vs V, fE Ts' vs V → fE Ts vs V) : gP P f Ts' As γ U As' Q :=
 fun cx Z vs V w h1 h2=>h cx Z vs V w h1 (i _ _ h2)
end
section
open Go Go.RowKit
section
variable {P:Program} {R:gN} {cx:Cx} {n:Nat} {k:List It} {E:bT} {H:Hp}
theorem Fr (i l off : Nat) {B : Nat} {BT : TypeId} {Us : List Ty} {v : Value} {A : SA} {T : Ty} (hB : H[i]? = some (box B BT Us)) (hU : Us[off]? = some (Is v)) (hL : H[l]? = some A) (hne : i ≠ l) (hT : ∀ S V, A.h S V V → T.p v V)
  (h:Tr P R cx n k E ((H.set l SA.emp).set i (box B BT (Us.set off T)))):Tr P R cx n k E H:=fun a w ⟨V,hi,hs⟩=>by
 obtain ⟨V',S,hle,hi',hA⟩:=hi.freeze hL
 have hT:=hT S V' hA
 refine h a w ⟨V',hi'.withHH ?_,hs.mono hle⟩
 obtain ⟨F,h1,h2⟩:=hi'.hp
 have hB':(H.set l SA.emp)[i]? = some (box B BT Us):=by rw [List.getElem?_set_ne (Ne.symm hne)]; exact hB
 have hil:=(List.getElem?_eq_some_iff.1 hB').1
 refine ⟨F,fun q A hq=>?_,fun q r b hq hr=>h2 q r b (by simpa using hq) (by simpa using hr)⟩
 by_cases c:i = q
 ·subst c
  rw [List.getElem?_set_self hil] at hq
  obtain rfl:=Option.some.inj hq
  obtain ⟨⟨k1,cs,k2,k3⟩,k4⟩:=h1 i _ hB'
  obtain ⟨u,u1,u2⟩:=k3.get hU
  obtain rfl:u = v:=u2
  have hset : cs.set off u = cs := by
   apply List.ext_getElem?
   intro j
   by_cases cj:off = j
   ·subst cj; rw [List.getElem?_set_self (List.getElem?_eq_some_iff.1 u1).1,u1]
   ·rw [List.getElem?_set_ne cj]
  refine ⟨⟨k1,cs,k2,?_⟩,k4⟩
  have:=k3.set off (v:=u) hT (k3.pl u (List.mem_of_getElem? u1))
  rwa [hset] at this
 ·rw [List.getElem?_set_ne c] at hq
  exact h1 q A hq
theorem a0L {B e l : Nat} {BT : TypeId} {F : Qi → Ty} {q : Value → Prop} {M : List (List Qi)} (hl : l = M.length) : ∀ S V, (rE q B BT e 5 (dN F M)).h S V V → (jK 1 (M.map fun r => jK 5 (r.map F))).p (.slice (some ⟨B, 0, none⟩) l l) V := fun S V h =>
 sK (s:=5) (M:=M) hl _ S V rfl h
end
def iE (p i:Nat):Nat:=if i < p then i else i + 1
abbrev mG (l:List Nat):Ty:=jK 1 (l.map (NT .i64))
def xR (p n:Nat):List Nat:=tab n fun j=>iE p j + 1
def Kp (p i:Nat):Nat:=if i ≤ p then i else i - 1
theorem Sx {p n:Nat} (h:p < n):Kp p n = n - 1:=by unfold Kp; split <;> omega
theorem Bz {p i n:Nat} (h:i < n - 1) (hp:p < n):iE p i < n:=by unfold iE; split <;> omega
theorem Jc {p n j:Nat} (h:j < n):(xR p n)[j]? = some (iE p j + 1):=cD h
def xX (z:List Qi) (p m:Nat):List Qi:=tab m fun i=>gv z (iE p i)
def a0D (s:List (List Qi)) (p m:Nat):List (List Qi):=tab m fun i=>tab m fun j=>gm s (iE p i) (iE p j)
def vJ (s:List (List Qi)) (p:Nat) (f:Qi) (i j:Nat):Qi:=gm s (iE p i) (iE p j) + gm s (iE p i) p * (f * gm s p (iE p j))
def Ff (s:List (List Qi)) (p m:Nat) (f:Qi):List (List Qi):=tab m fun i=>tab m fun j=>vJ s p f i j
def iS (s:List (List Qi)) (p:Nat) (g:Qi):Qi:=g / (Qi.ofInt 1 - gm s p p * g)
def oA (z : List Qi) (s : List (List Qi)) (port : Int) (g : Qi) : Int :=
 if ¬ (1 ≤ port ∧ port ≤ z.length) then 1 else if z.length = 1 then 4 else if Qi.ofInt 1 - gm s (port - 1).toNat (port - 1).toNat * g = Qi.zero then 6 else 0
def nI (z:List Qi) (s:List (List Qi)) (port:Int) (g:Qi):List Qi:=kX (oA z s port g) (xX z (port - 1).toNat (z.length - 1))
def nH (z:List Qi) (s:List (List Qi)) (port:Int) (g:Qi):List (List Qi):=kX (oA z s port g) (Ff s (port - 1).toNat (z.length - 1) (iS s (port - 1).toNat g))
theorem Cg {z:List Qi} {s:List (List Qi)} {port:Int} {g:Qi} {e:Int} (h:oA z s port g = e) (he:e ≠ 0):∀ v V,(dT [] []).p v V → (dT (nI z s port g) (nH z s port g)).p v V:=by
 rw [nI,nH,kX,kX,h,if_neg he,if_neg he]; exact fun _ _ k=>k
theorem Wy (p:Nat):((p:Int) + 1 - 1).toNat = p:=by omega
theorem Qy {z:List Qi} {s:List (List Qi)} {p:Nat} {g:Qi} (h:oA z s ((p:Int) + 1) g = 0):∀ v V,(dT (xX z p (z.length - 1)) (Ff s p (z.length - 1) (iS s p g))).p v V → (dT (nI z s ((p:Int) + 1) g) (nH z s ((p:Int) + 1) g)).p v V:=by
 rw [nI,nH,kX,kX,h,if_pos rfl,if_pos rfl,Wy]; exact fun _ _ k=>k
theorem Zu {z:List Qi} {s:List (List Qi)} {port:Int} {g:Qi} (h:¬ (1 ≤ port ∧ port ≤ z.length)):oA z s port g = 1:=by rw [oA,if_pos h]
theorem Zv {z:List Qi} {s:List (List Qi)} {port:Int} {g:Qi} (h:1 ≤ port ∧ port ≤ z.length) (h1:z.length = 1):oA z s port g = 4:=by rw [oA,if_neg (fun k=>k h),if_pos h1]
theorem Qw {z:List Qi} {s:List (List Qi)} {p:Nat} {g:Qi} (h:p < z.length) (h1:¬ z.length = 1):oA z s ((p:Int) + 1) g = if Qi.ofInt 1 - gm s p p * g = Qi.zero then 6 else 0:=by
 rw [oA,if_neg (fun k=>k zo),if_neg h1,Wy]
theorem Fe {s:List (List Qi)} {p L:Nat} {g:Qi} (hs:cF s L) (hg:aM g L) (hL:1 ≤ L) (hd:Qi.ofInt 1 - gm s p p * g ≠ Qi.zero):aM (iS s p g) (7 * L + 11):=by
 haveI f0:=qU
 haveI f1:=hs.get hL p p
 haveI f2:=hg
 have f3:aM (Qi.ofInt 1 - gm s p p * g) (1 + (L + L + 1) + 1):=@fitSub _ _ _ _ f0 inferInstance
 have:aM (iS s p g) (L + 3 * (1 + (L + L + 1) + 1) + 2):=⟨f2.fit.div f3.fit hd⟩
 exact this.le zo
end
section
open Go Go.RowKit
def xO:List Qi:=[r50,r50].map Rt.q
def zR:List (List Qi):=rq [[uL,uL],[uL,uL]]
def Bi:List Qi:=nI xO zR 2 (Qi.ofInt 1)
def Ky:List (List Qi):=nH xO zR 2 (Qi.ofInt 1)
theorem Oj:cA xO zR = 0:=by decide +kernel
theorem Ok:iF zR xO.length xO.length:=(mT Oj).2.2.1
theorem Yp:oA xO zR 2 (Qi.ofInt 1) = 0:=by decide +kernel
theorem Ol:Bi.length = 1:=by decide +kernel
theorem Wu:Ky = [[Qi.ofInt 1]]:=by decide +kernel
theorem Ym:Bl (pmM true (Ma xO.length) zR xO.length) xO.length ≠ 0:=by decide +kernel
theorem a0v:cH xO 2:=cH.rt
theorem Wt:cF zR 2:=cF.rt
theorem Wr:aM (Qi.ofInt 1) 2:=qU.le (by decide)
theorem Yn:∀ v V,(dM [dT (kX (cA xO zR) xO) (kX (cA xO zR) zR),aF .i64 (cA xO zR)]).p v V → (dM [dT xO zR,aF .i64 0]).p v V:=by rw [Oj]; exact fun _ _ h=>h
theorem Yo:∀ v V,(dM [dT (nI xO zR ((2:Nat):Int) (Qi.ofInt 1)) (nH xO zR ((2:Nat):Int) (Qi.ofInt 1)),aF .i64 (oA xO zR ((2:Nat):Int) (Qi.ofInt 1))]).p v V → (dM [dT Bi Ky,aF .i64 0]).p v V:=by
 rw [show oA xO zR ((2:Nat):Int) (Qi.ofInt 1) = 0 from Yp]; exact fun _ _ h=>h
theorem Yq:iF Ky Bi.length Bi.length:=by rw [Ol,Wu]; exact ⟨rfl,by simp⟩
theorem a0u:∀ v V,(dM [aD (Pw Bi.length Ky ((1:Nat):Int) ((1:Nat):Int)),aF .i64 (if (1 ≤ ((1:Nat):Int) ∧ ((1:Nat):Int) ≤ Bi.length) ∧ 1 ≤ ((1:Nat):Int) ∧ ((1:Nat):Int) ≤ Bi.length then 0 else 1)]).p v V → (dM [aD (Qi.ofInt 1),aF .i64 0]).p v V:=by
 rw [Ol,Wu,if_pos (by decide)]
 rw [show Pw 1 [[Qi.ofInt 1]] ((1:Nat):Int) ((1:Nat):Int) = Qi.ofInt 1 from rfl]
 exact fun _ _ h=>h
theorem a0M:Mc (Qi.ofInt 1) = [49]:=by decide +kernel
end
section
open Go Go.RowKit
theorem jE (x:Int) {b:Int} (h:0 < b):-b < x.tmod b ∧ x.tmod b < b:=by
 by_cases hx:0 ≤ x
 ·rw [Int.tmod_eq_emod_of_nonneg hx]
  have h1:=Int.emod_nonneg x (by omega:b ≠ 0)
  have h2:=Int.emod_lt_of_pos x h
  omega
 ·have e : x.tmod b = -((-x).tmod b) := by rw [Int.neg_tmod, Int.neg_neg]
  rw [e,Int.tmod_eq_emod_of_nonneg (by omega:0 ≤ -x)]
  have h1:=Int.emod_nonneg (-x) (by omega:b ≠ 0)
  have h2:=Int.emod_lt_of_pos (-x) h
  omega
def oD (x:Int):Int:=if x < 0 then -x else x
theorem pR {x:Int} {b:Int} (h:-b < x ∧ x < b):0 ≤ oD x ∧ oD x < b:=by unfold oD; split <;> omega
def tY (r:Rt):Rt where
 re:=r.re.tmod 9
 im:=r.im.tmod 9
 den:=oD (r.den.tmod 4) + 1
 h1:=by have:=jE r.re (b:=9) (by decide); omega
 h2:=by have:=jE r.re (b:=9) (by decide); omega
 h3:=by have:=jE r.im (b:=9) (by decide); omega
 h4:=by have:=jE r.im (b:=9) (by decide); omega
 h5:=by have:=pR (jE r.den (b:=4) (by decide)); omega
 h6:=by have:=pR (jE r.den (b:=4) (by decide)); omega
def Rh (r:Rt):Rt where
 re:=oD (tY r).re + 1
 im:=0
 den:=(tY r).den
 h1:=by have:=pR (jE r.re (b:=9) (by decide)); show _ ≤ oD (r.re.tmod 9) + 1; omega
 h2:=by have:=pR (jE r.re (b:=9) (by decide)); show oD (r.re.tmod 9) + 1 ≤ _; omega
 h3:=by decide
 h4:=by decide
 h5:=(tY r).h5
 h6:=(tY r).h6
def zC (l:List Rt) (i:Nat):Rt:=if l.length = 0 then default else l.getD (i % l.length) default
def kY (a:Nat):Nat:=a % 4 + 1
def pL (a:Nat) (zl:List Rt):List Rt:=tab (kY a) fun i=>Rh (zC zl i)
def sR (a:Nat) (sl:List Rt):List (List Rt):=tab (kY a) fun i=>tab (kY a) fun j=>tY (zC sl (kY a * i + j))
theorem Tk (r:Rt):kC (Rh r).q = true:=by
 have h1:=pR (jE r.re (b:=9) (by decide))
 have h2:=pR (jE r.den (b:=4) (by decide))
 have hd : (Rh r).d = oD (r.den.tmod 4) + 1 := by
  show (if oD (r.den.tmod 4) + 1 = 0 then 1 else oD (r.den.tmod 4) + 1) = _
  rw [if_neg zo]
 have hq:(Rh r).q = Qi.frac (oD (r.re.tmod 9) + 1) 0 (oD (r.den.tmod 4) + 1):=by rw [Rt.q,hd]; rfl
 have hb:(Rh r).q.b = 0:=Qi.b_zero.2 (by rw [hq]; show ((0:Int):Rat) / _ = 0; rw [Rat.div_def]; exact Rat.zero_mul _)
 have ha : 0 < (Rh r).q.a := by
  rw [Qi.a_pos,hq]
  show (0:Rat) < ((oD (r.re.tmod 9) + 1:Int):Rat) / ((oD (r.den.tmod 4) + 1:Int):Rat)
  rw [Rat.div_def]
  refine Rat.mul_pos (Rat.intCast_pos.2 zo) (Rat.inv_pos.2 (Rat.intCast_pos.2 zo))
 simp only [kC,hb,ha,and_self,decide_true]
theorem Bv (a:Nat) (zl sl:List Rt):cA ((pL a zl).map Rt.q) (rq (sR a sl)) = 0:=by
 have hz:((pL a zl).map Rt.q).length = kY a:=by rw [List.length_map,pL,aO]
 have hs:(rq (sR a sl)).length = kY a:=by rw [List.length_map,sR,aO]
 have hn:kY a ≤ 4:=by unfold kY; omega
 have hn1:1 ≤ kY a:=by unfold kY; omega
 rw [cA,if_neg,if_pos]
 ·rw [List.all_eq_true]
  intro x hx
  obtain ⟨r,hr,rfl⟩:=List.mem_map.1 hx
  obtain ⟨i,_,rfl⟩:=hJ.1 hr
  exact Tk _
 ·rw [hz, hs]
  rintro (h | h | h | h)
  ·omega
  ·omega
  ·exact h rfl
  ·obtain ⟨r, hr, h2⟩ := List.any_eq_true.1 h
   obtain ⟨y,hy,rfl⟩:=List.mem_map.1 hr
   obtain ⟨i,_,rfl⟩:=hJ.1 hy
   simp [aO] at h2
def tO (x : Qi) (l m : List Qi) : Nat → Qi
 | 0=>x
 | k + 1=>tO x l m k + gv l k * gv m k
def Lz (l a : List Qi) : Nat → Qi
 | 0=>Qi.ofInt 0
 | k + 1=>Lz l a k + gv l k * gv a k
theorem Iv (l:List Qi) (k:Nat):gv (l.drop 1) k = gv l (k + 1):=by simp [gv,List.getD,List.getElem?_drop,Nat.add_comm]
theorem Gn (l a : List Qi) : ∀ k, tO (gv l 0 * gv a 0) (l.drop 1) (a.drop 1) k = Lz l a (k + 1)
 | 0=>(Qi.zero_add' _).symm
 | k + 1=>by rw [tO,Gn l a k,Iv,Iv]; rfl
theorem Hq {l a : List Qi} {L : Nat} (hl : cH l L) (ha : cH a L) (hL : 1 ≤ L) : ∀ k, aM (Lz l a k) (1 + k * (2 * L + 2))
 | 0=>aM.zero zo
 | k + 1 => by
  haveI f1:=Hq hl ha hL k
  haveI f2:=hl.get hL k
  haveI f3:=ha.get hL k
  have:aM (Lz l a (k + 1)) (1 + k * (2 * L + 2) + (L + L + 1) + 1):=by unfold Lz; infer_instance
  exact this.le (by rw [Nat.add_mul]; omega)
theorem Dj {x : Qi} {l m : List Qi} {L M : Nat} (hx : aM x M) (hl : cH l L) (hm : cH m L) (hL : 1 ≤ L) : ∀ k, aM (tO x l m k) (M + k * (2 * L + 2))
 | 0=>hx.le zo
 | k + 1 => by
  haveI f1:=Dj hx hl hm hL k
  haveI f2:=hl.get hL k
  haveI f3:=hm.get hL k
  have:aM (tO x l m (k + 1)) (M + k * (2 * L + 2) + (L + L + 1) + 1):=by unfold tO; infer_instance
  exact this.le (by rw [Nat.add_mul]; omega)
def jZ (s:List (List Qi)) (a:List Qi) (n:Nat):List Qi:=tab n fun i=>Lz (s.getD i []) a n
def yZ (n m:Nat):Int:=if m = n then 0 else 4
theorem sG {l:List Qi} {L:Nat} (h:cH l L):cH (l.drop 1) L:=fun x hx=>h x (List.mem_of_mem_drop hx)
theorem Ny {s:List (List Qi)} {a:List Qi} {n L:Nat} (hs:cF s L) (ha:cH a L) (hL:1 ≤ L):cH (jZ s a n) (1 + n * (2 * L + 2)):=cH.tab fun i _=>Hq (hs.row i) ha hL n
end
section
open Go Go.RowKit
namespace Qi
def npow' (x : Qi) : Nat → Qi
 | 0=>Qi.ofInt 1
 | k + 1=>npow' x k * x
theorem one_mul2 (x:Qi):Qi.ofInt 1 * x = x:=ext' (by show ((1:Int):Rat) * x.re - 0 * x.im = x.re; grind) (by show ((1:Int):Rat) * x.im + 0 * x.re = x.im; grind)
theorem mul_one2 (x:Qi):x * Qi.ofInt 1 = x:=by rw [mul_comm',one_mul2]
end Qi
instance qiField:Lean.Grind.CommRing Qi where
 natCast:=⟨fun n=>Qi.ofInt n⟩
 ofNat n:=⟨Qi.ofInt n⟩
 nsmul:=⟨fun n x=>Qi.ofInt n * x⟩
 npow:=⟨Qi.npow'⟩
 add_zero:=Qi.add_zero'
 add_comm:=Qi.add_comm'
 add_assoc:=Qi.add_assoc'
 mul_assoc:=Qi.mul_assoc'
 mul_comm:=Qi.mul_comm'
 mul_one:=Qi.mul_one2
 one_mul:=Qi.one_mul2
 left_distrib:=Qi.mul_add'
 right_distrib:=Qi.add_mul'
 zero_mul:=Qi.zero_mul'
 mul_zero:=Qi.mul_zero'
 pow_zero _:=rfl
 pow_succ _ _:=rfl
 ofNat_succ n:=Qi.ext' (by show (((n + 1:Nat):Int):Rat) = ((n:Int):Rat) + ((1:Int):Rat); rw [Int.natCast_add,Rat.intCast_add]; rfl) (by show (0:Rat) = 0 + 0; grind)
 intCast:=⟨Qi.ofInt⟩
 zsmul:=⟨fun n x=>Qi.ofInt n * x⟩
 neg_add_cancel x:=Qi.ext' (by show -x.re + x.re = ((0:Int):Rat); grind) (by show -x.im + x.im = 0; grind)
 sub_eq_add_neg:=Qi.sub_def
 neg_zsmul i x:=Qi.ext' (by show ((-i:Int):Rat) * x.re - 0 * x.im = -((i:Rat) * x.re - 0 * x.im); rw [Rat.intCast_neg]; grind) (by show ((-i:Int):Rat) * x.im + 0 * x.re = -((i:Rat) * x.im + 0 * x.re); rw [Rat.intCast_neg]; grind)
 intCast_neg i:=Qi.ext' (Rat.intCast_neg i) (by show (0:Rat) = -0; grind)
theorem q0:Qi.zero = 0:=rfl
theorem q1:Qi.ofInt 1 = 1:=rfl
theorem qD {x:Qi} (h:x ≠ 0):x * Qi.inv x = 1:=by
 have hn:x.nrm ≠ 0:=fun e=>h (Qi.nrm_zero.1 e)
 have e:x.re * x.re + x.im * x.im = x.nrm:=rfl
 refine Qi.ext' ?_ ?_
 ·show x.re * (x.re / x.nrm) - x.im * (-x.im / x.nrm) = ((1 : Int) : Rat)
  grind
 ·show x.re * (-x.im / x.nrm) + x.im * (x.re / x.nrm) = 0
  grind
theorem tN {x y:Qi} (h:y ≠ 0):x / y * y = x:=by
 rw [Qi.div_def]
 have:=qD h
 grind
theorem Yl {x y z:Qi} (h:y ≠ 0) (e:x = z * y):x / y = z:=by
 have h1:=tN (x:=x) h
 have h2:=qD h
 grind
theorem uI {x y:Qi} (h:x * y = 0):x = 0 ∨ y = 0:=by
 by_cases e:x = 0
 ·exact .inl e
 ·right; have:=qD e; grind
end
section
open Go Go.RowKit
theorem Fc (m:Nat) (f:Qi) (a b:Nat → Qi):fP m (fun k=>a k - f * b k) = fP m a - f * fP m b:=by
 induction m with
 | zero=>simp only [fP,q0]; grind
 | succ m ih=>simp only [fP,ih]; grind
def Ker (M:List (List Qi)) (n m:Nat) (x:Nat → Qi):Prop:=∀ i,i < n → fP m (fun k=>gm M i k * x k) = 0
def uM (rr rc:List Qi) (c k:Nat):List Qi:=tab rr.length fun j=>if c ≤ j ∧ j < k then gv rr j - gv rr c / gv rc c * gv rc j else gv rr j
def redJ (M:List (List Qi)) (c r:Nat):List (List Qi):=tab M.length fun i=>if i ≠ c ∧ i < r then uM (dS M i) (dS M c) c (dS M i).length else dS M i
def Kz (M : List (List Qi)) : Nat → Option (List (List Qi))
 | 0=>some M
 | c + 1=>(Kz M c).bind fun A=>if pv A c M.length = M.length then none else some (redJ (swp [] A (pv A c M.length) c) c M.length)
theorem Qa (M:List (List Qi)) (c r:Nat):(redJ M c r).length = M.length:=aO _ _
theorem Ll (rr rc:List Qi) (c k:Nat):(uM rr rc c k).length = rr.length:=aO _ _
theorem Qb {M:List (List Qi)} {c r i:Nat} (hi:i < M.length):dS (redJ M c r) i = if i ≠ c ∧ i < r then uM (dS M i) (dS M c) c (dS M i).length else dS M i:=by
 simp only [dS,redJ,List.getD]; rw [cD hi]; rfl
theorem Qc {M:List (List Qi)} {n m c r:Nat} (h:iF M n m):iF (redJ M c r) n m:=by
 refine ⟨(Qa _ _ _).trans h.1,fun x hx=>?_⟩
 obtain ⟨i,hi,rfl⟩:=hJ.1 hx
 have hr:=h.row (i:=i) (by rw [← h.1]; exact hi)
 show (if i ≠ c ∧ i < r then uM (dS M i) (dS M c) c (dS M i).length else dS M i).length = m
 split
 ·rw [Ll]; exact hr
 ·exact hr
theorem wD {M:List (List Qi)} {n m c i j:Nat} (h:iF M n m) (hi:i < n) (hj:j < m):gm (redJ M c n) i j = if i ≠ c ∧ c ≤ j then gm M i j - gm M i c / gm M c c * gm M c j else gm M i j:=by
 have hr:(dS M i).length = m:=h.row hi
 show gv (dS (redJ M c n) i) j = _
 rw [Qb (by rw [h.1]; exact hi)]
 by_cases e:i = c
 ·rw [if_neg (fun k=>k.1 e),if_neg (fun k=>k.1 e)]
 ·rw [if_pos ⟨e, hi⟩, uM, rU zo]
  by_cases e2:c ≤ j
  ·rw [if_pos ⟨e2,by omega⟩,if_pos ⟨e,e2⟩]
  ·rw [if_neg (fun k=>e2 k.1),if_neg (fun k=>e2 k.2)]
theorem Hd {M:List (List Qi)} {p c i:Nat} (hp:p < M.length) (hc:c < M.length):dS (swp [] M p c) i = dS M (if i = c then p else if i = p then c else i):=by
 simp only [dS,swp,List.getD]
 by_cases e:i = c
 ·subst e; rw [List.getElem?_set_self (by simpa using hc),if_pos rfl]; rfl
 ·rw [List.getElem?_set_ne (Ne.symm e), if_neg e]
  by_cases e2:i = p
  ·subst e2; rw [List.getElem?_set_self hp,if_pos rfl]; rfl
  ·rw [List.getElem?_set_ne (Ne.symm e2),if_neg e2]
theorem Tp {M:List (List Qi)} {n m p c:Nat} {x:Nat → Qi} (hl:M.length = n) (hp:p < n) (hc:c < n):Ker (swp [] M p c) n m x ↔ Ker M n m x:=by
 have key : ∀ i, gm (swp [] M p c) i = gm M (if i = c then p else if i = p then c else i) := fun i => by
  funext j; exact congrArg (fun r=>gv r j) (Hd zo zo)
 constructor
 ·intro h i hi
  have h1:=h (if i = c then p else if i = p then c else i) (by split <;> (try split) <;> omega)
  rw [key] at h1
  have e : (if (if i = c then p else if i = p then c else i) = c then p else if (if i = c then p else if i = p then c else i) = p then c else (if i = c then p else if i = p then c else i)) = i := by
   by_cases e1:i = c
   ·subst e1; rw [if_pos rfl]
    by_cases e2:p = i
    ·rw [if_pos e2]; exact e2
    ·rw [if_neg e2,if_pos rfl]
   ·rw [if_neg e1]
    by_cases e2:i = p
    ·subst e2; rw [if_pos rfl,if_pos rfl]
    ·rw [if_neg e2,if_neg e1,if_neg e2]
  rw [e] at h1; exact h1
 ·intro h i hi
  rw [key]; exact h _ (by split <;> (try split) <;> omega)
theorem To {M:List (List Qi)} {n m c:Nat} {x:Nat → Qi} (hs:iF M n m) (hc:c < n) (hz:∀ j,j < c → gm M c j = 0):Ker (redJ M c n) n m x ↔ Ker M n m x:=by
 have key : ∀ i, i < n → i ≠ c → fP m (fun k => gm (redJ M c n) i k * x k) = fP m (fun k => gm M i k * x k) - gm M i c / gm M c c * fP m (fun k => gm M c k * x k) := fun i hi e => by
  rw [← Fc]
  refine gL fun k hk=>?_
  rw [wD hs hi hk]
  by_cases e2:c ≤ k
  ·rw [if_pos ⟨e,e2⟩]; grind
  ·rw [if_neg (fun h=>e2 h.2),hz k zo]; grind
 have keyc:fP m (fun k=>gm (redJ M c n) c k * x k) = fP m (fun k=>gm M c k * x k):=gL fun k hk=>by rw [wD hs hc hk,if_neg (fun h=>h.1 rfl)]
 constructor
 ·intro h i hi
  have h0:=h c hc
  rw [keyc] at h0
  by_cases e:i = c
  ·rw [e]; exact h0
  ·have h1 := h i hi
   rw [key i hi e,h0] at h1
   grind
 ·intro h i hi
  have h0:=h c hc
  by_cases e:i = c
  ·rw [e,keyc]; exact h0
  ·rw [key i hi e,h0,h i hi]; grind
structure GJ (M A:List (List Qi)) (n m c:Nat):Prop where
 sh:iF A n m
 ker:∀ x,Ker A n m x ↔ Ker M n m x
 off:∀ j,j < c → ∀ i,i < n → i ≠ j → gm A i j = 0
 dg:∀ j,j < c → gm A j j ≠ 0
theorem GJ.next {M A:List (List Qi)} {n m c p:Nat} (h:GJ M A n m c) (hc:c < n) (hnm:n ≤ m) (hcp:c ≤ p) (hp:p < n) (hz:gm A p c ≠ 0):GJ M (redJ (swp [] A p c) c n) n m (c + 1):=by
 have hs:iF (swp [] A p c) n m:=wI h.sh hp hc
 have hl:=h.sh.1
 have key : ∀ i, gm (swp [] A p c) i = gm A (if i = c then p else if i = p then c else i) := fun i => by
  funext j; exact congrArg (fun r=>gv r j) (Hd zo zo)
 have hcc:gm (swp [] A p c) c c ≠ 0:=by rw [key,if_pos rfl]; exact hz
 have hoff : ∀ j, j < c → ∀ i, i < n → i ≠ j → gm (swp [] A p c) i j = 0 := fun j hj i hi hij => by
  rw [key]
  by_cases e1:i = c
  ·rw [if_pos e1]; exact h.off j hj p hp zo
  ·rw [if_neg e1]
   by_cases e2:i = p
   ·rw [if_pos e2]; exact h.off j hj c hc zo
   ·rw [if_neg e2]; exact h.off j hj i hi hij
 refine ⟨Qc hs,fun x=>(To hs hc (fun j hj=>hoff j hj c hc zo)).trans ((Tp hl hp hc).trans (h.ker x)),fun j hj i hi hij=>?_,fun j hj=>?_⟩
 ·rw [wD hs hi zo]
  by_cases e:j = c
  ·subst e
   rw [if_pos ⟨hij,Nat.le_refl _⟩]
   have:=tN (x:=gm (swp [] A p j) i j) hcc
   grind
  ·rw [if_neg (fun k=>by omega)]; exact hoff j zo i hi hij
 ·rw [wD hs zo zo]
  by_cases e:j = c
  ·subst e; rw [if_neg (fun k=>k.1 rfl)]; exact hcc
  ·rw [if_neg (fun k=>by omega),key,if_neg zo,if_neg zo]; exact h.dg j zo
theorem Oo {M : List (List Qi)} {n m : Nat} (hs : iF M n m) (hnm : n ≤ m) : ∀ {c : Nat} {A : List (List Qi)}, c ≤ n → Kz M c = some A → GJ M A n m c
 | 0, A, _, h => by
  obtain rfl:=Option.some.inj h
  exact ⟨hs,fun _=>Iff.rfl,fun j hj=>by omega,fun j hj=>by omega⟩
 | c + 1, A, hc, h => by
  simp only [Kz] at h
  obtain ⟨B,h1,h2⟩:=Option.bind_eq_some_iff.1 h
  split at h2
  ·cases h2
  ·rename_i e
   obtain rfl:=Option.some.inj h2
   have ih:=Oo hs hnm (c:=c) zo h1
   rw [hs.1] at e ⊢
   obtain ⟨_,i2,i3,i4⟩:=pH (M:=B) (c:=c) (n:=n) zo
   exact ih.next zo hnm i2 zo (i4 zo)
theorem Lk {rr rc : List Qi} {L c k : Nat} (h1 : cH rr L) (h2 : cH rc L) (hL : 1 ≤ L) (hp : gv rc c ≠ Qi.zero) : cH (uM rr rc c k) (6 * L + 4) := cH.tab fun j _ => by
 split
 ·exact Iq h1 h2 hL hp
 ·exact (h1.get hL j).le zo
theorem Pz {M : List (List Qi)} {L c r : Nat} (h : cF M L) (hL : 1 ≤ L) (hp : gm M c c ≠ Qi.zero) : cF (redJ M c r) (6 * L + 4) := fun x hx => by
 obtain ⟨i,hi,rfl⟩:=hJ.1 hx
 show cH (if i ≠ c ∧ i < r then uM (dS M i) (dS M c) c (dS M i).length else dS M i) _
 split
 ·exact Lk (h.row i) (h.row c) hL hp
 ·exact (h.row i).le zo
theorem On {M : List (List Qi)} {n m L : Nat} (hs : iF M n m) (hnm : n ≤ m) (h : cF M L) (hL : 1 ≤ L) : ∀ {c : Nat} {A : List (List Qi)}, c ≤ n → Kz M c = some A → cF A (nB L c)
 | 0,A,_,e=>by obtain rfl:=Option.some.inj e; exact h
 | c + 1, A, hc, e => by
  simp only [Kz] at e
  obtain ⟨B,h1,h2⟩:=Option.bind_eq_some_iff.1 e
  split at h2
  ·cases h2
  ·rename_i e3
   obtain rfl:=Option.some.inj h2
   have ih:=On hs hnm h hL (c:=c) zo h1
   have hsB:=(Oo hs hnm (c:=c) zo h1).sh
   rw [hs.1] at e3 ⊢
   obtain ⟨_,i2,i3,i4⟩:=pH (M:=B) (c:=c) (n:=n) zo
   refine Pz (Cd ih) (Nat.le_trans hL (sL L c)) ?_
   show gv (dS (swp [] _ _ c) c) c ≠ _
   rw [yI (by rw [hsB.1]; omega)]
   exact i4 zo
end
section
open Go Go.RowKit
abbrev pA (ps:List (Nat × Nat)) (k:Nat):Nat:=(ps.getD k (0,0)).1
abbrev pB (ps:List (Nat × Nat)) (k:Nat):Nat:=(ps.getD k (0,0)).2
end
section
open Go Go.RowKit
theorem Gq {l:List Qi} {t k:Nat} {v:Qi} (ht:t < l.length):gv (l.set t v) k = if k = t then v else gv l k:=by
 simp only [gv,List.getD]
 by_cases e:k = t
 ·subst e; rw [if_pos rfl,List.getElem?_set_self ht]; rfl
 ·rw [if_neg e,List.getElem?_set_ne (Ne.symm e)]
end
section
open Go Go.RowKit
def Yf (A:List (List Qi)) (c i j:Nat):Qi:=if j < c ∧ j < i then 0 else gm A i j
def yT (F:Nat → Nat → Qi) (n m:Nat) (x:Nat → Qi):Prop:=∀ i,i < n → fP m (fun k=>F i k * x k) = 0
theorem Gr {F G:Nat → Nat → Qi} {n m:Nat} {x:Nat → Qi} (h:∀ i,i < n → ∀ j,j < m → F i j = G i j):yT F n m x ↔ yT G n m x:=by
 have e:∀ i,i < n → fP m (fun k=>F i k * x k) = fP m (fun k=>G i k * x k):=fun i hi=>gL fun k hk=>by rw [h i hi k hk]
 exact ⟨fun k i hi=>by rw [← e i hi]; exact k i hi,fun k i hi=>by rw [e i hi]; exact k i hi⟩
def Qs (p c i:Nat):Nat:=if i = c then p else if i = p then c else i
theorem Qt {p c i n:Nat} (hp:p < n) (hc:c < n) (hi:i < n):Qs p c i < n:=by unfold Qs; split <;> (try split) <;> omega
theorem Vp (p c i:Nat):Qs p c (Qs p c i) = i:=by
 unfold Qs
 by_cases e1:i = c
 ·subst e1
  rw [if_pos rfl]
  by_cases e2:p = i
  ·rw [if_pos e2]; exact e2
  ·rw [if_neg e2,if_pos rfl]
 ·rw [if_neg e1]
  by_cases e2:i = p
  ·subst e2; rw [if_pos rfl,if_pos rfl]
  ·rw [if_neg e2,if_neg e1,if_neg e2]
theorem Pb {F : Nat → Nat → Qi} {n m p c : Nat} {x : Nat → Qi} (hp : p < n) (hc : c < n) : yT (fun i => F (Qs p c i)) n m x ↔ yT F n m x :=
 ⟨fun h i hi=>by have:=h _ (Qt hp hc hi); simp only [Vp] at this; exact this,fun h i hi=>h _ (Qt hp hc hi)⟩
theorem Pa {F G:Nat → Nat → Qi} {n m c:Nat} {x f:Nat → Qi} (hc:c < n) (hG:∀ i,i < n → ∀ j,j < m → G i j = if c < i then F i j - f i * F c j else F i j):yT G n m x ↔ yT F n m x:=by
 have key : ∀ i, i < n → fP m (fun k => G i k * x k) = if c < i then fP m (fun k => F i k * x k) - f i * fP m (fun k => F c k * x k) else fP m (fun k => F i k * x k) := fun i hi => by
  by_cases e:c < i
  ·rw [if_pos e, ← Fc]
   exact gL fun k hk=>by rw [hG i hi k hk,if_pos e]; grind
  ·rw [if_neg e]
   exact gL fun k hk=>by rw [hG i hi k hk,if_neg e]
 have kc:=key c hc
 rw [if_neg zo] at kc
 constructor
 ·intro h i hi
  have h0:=h c hc
  rw [kc] at h0
  have h1:=h i hi
  rw [key i hi] at h1
  by_cases e:c < i
  ·rw [if_pos e,h0] at h1; grind
  ·rw [if_neg e] at h1; exact h1
 ·intro h i hi
  rw [key i hi]
  by_cases e:c < i
  ·rw [if_pos e,h i hi,h c hc]; grind
  ·rw [if_neg e]; exact h i hi
theorem Vc {M:List (List Qi)} {n m c i j:Nat} (h:iF M n m) (hi:i < n) (hj:j < m):gm (redM M c n) i j = if c < i ∧ c < j then gm M i j - gm M i c / gm M c c * gm M c j else gm M i j:=by
 have hr:(dS M i).length = m:=h.row hi
 have e0 : dS (redM M c n) i = if c < i ∧ i < n then kD (dS M i) (dS M c) c (dS M i).length else dS M i := by
  simp only [dS,redM,List.getD]; rw [cD (by rw [h.1]; exact hi)]; rfl
 show gv (dS (redM M c n) i) j = _
 rw [e0]
 by_cases e:c < i
 ·rw [if_pos ⟨e, hi⟩, kD, rU zo]
  by_cases e2:c < j
  ·rw [if_pos ⟨e2,by omega⟩,if_pos ⟨e,e2⟩]
  ·rw [if_neg (fun k=>e2 k.1),if_neg (fun k=>e2 k.2)]
 ·rw [if_neg (fun k=>e k.1),if_neg (fun k=>e k.1)]
theorem Ss {A:List (List Qi)} {p c i j:Nat} (hc:c < A.length) (hp:p < A.length) (hcp:c ≤ p):Yf (swp [] A p c) c i j = Yf A c (Qs p c i) j:=by
 have key:gm (swp [] A p c) i j = gm A (Qs p c i) j:=congrArg (fun r=>gv r j) (Hd zo zo)
 unfold Yf
 rw [key]
 have e:(j < c ∧ j < i) ↔ (j < c ∧ j < Qs p c i):=by unfold Qs; split <;> (try split) <;> omega
 by_cases h:j < c ∧ j < i
 ·rw [if_pos h,if_pos (e.1 h)]
 ·rw [if_neg h,if_neg (fun k=>h (e.2 k))]
structure EL (M A:List (List Qi)) (n m c:Nat):Prop where
 sh:iF A n m
 ker:∀ x,yT (Yf A c) n m x ↔ yT (gm M) n m x
theorem EL.next {M A:List (List Qi)} {n m c p:Nat} (h:EL M A n m c) (hc:c < n) (hcm:c < m) (hcp:c ≤ p) (hp:p < n) (hz:gm A p c ≠ 0):EL M (redM (if p = c then A else swp [] A p c) c n) n m (c + 1):=by
 have hl:=h.sh.1
 obtain ⟨B,hB⟩:∃ B,B = if p = c then A else swp [] A p c:=⟨_,rfl⟩
 have hs : iF B n m := by
  rw [hB]; split
  ·exact h.sh
  ·exact wI h.sh hp hc
 have hBk : ∀ x, yT (Yf B c) n m x ↔ yT (gm M) n m x := fun x => by
  rw [hB]; split
  ·exact h.ker x
  ·exact (Gr (G:=fun i=>Yf A c (Qs p c i)) fun i hi j hj=>Ss zo zo hcp).trans ((Pb hp hc).trans (h.ker x))
 have hBz : gm B c c ≠ 0 := by
  rw [hB]; split
  ·rename_i e; rw [← e] at hz ⊢; exact hz
  ·show gv (dS (swp [] A p c) c) c ≠ 0
   rw [yI zo]; exact hz
 rw [← hB]
 refine ⟨En hs,fun x=>(Pa (f:=fun i=>gm B i c / gm B c c) hc fun i hi j hj=>?_).trans (hBk x)⟩
 have hd:=tN (x:=gm B i c) hBz
 unfold Yf
 rw [Vc hs hi hj]
 by_cases e:c < i
 ·rw [if_pos e]
  by_cases e1:j < c
  ·rw [if_pos zo,if_pos zo,if_pos zo]; grind
  ·by_cases e2 : j = c
   ·subst e2
    rw [if_pos zo,if_neg zo,if_neg zo]; grind
   ·rw [if_neg zo,if_pos zo,if_neg zo,if_neg zo]
 ·rw [if_neg e, if_neg (show ¬ (c < i ∧ c < j) from fun k => e k.1)]
  by_cases e1:j < i
  ·rw [if_pos (show j < c + 1 ∧ j < i by omega),if_pos (show j < c ∧ j < i by omega)]
  ·rw [if_neg (show ¬ (j < c + 1 ∧ j < i) by omega),if_neg (show ¬ (j < c ∧ j < i) by omega)]
end
section
open Go Go.RowKit
abbrev gnI (G:List Nat):List Int:=G.map fun (q:Nat)=>(q:Int) + 1
def pN (G : List Nat) : Nat → List Nat
 | 0=>[]
 | k + 1=>pN G k ++ (if k ∈ G then [] else [k])
theorem Ja (G : List Nat) : ∀ k, (pN G k).length ≤ k
 | 0=>Nat.le_refl _
 | k + 1 => by
  have:=Ja G k
  simp only [pN,List.length_append]
  split
  ·simp; omega
  ·simp; omega
theorem Pc {G : List Nat} : ∀ {k x : Nat}, x ∈ pN G k → x < k
 | 0,x,h=>by cases h
 | k + 1, x, h => by
  rcases List.mem_append.1 h with h1 | h1
  ·have:=Pc h1; omega
  ·split at h1
   ·cases h1
   ·have:=List.mem_singleton.1 h1; omega
theorem Jb {p : Nat} : ∀ {k : Nat}, pN [p] k = tab (Kp p k) (iE p)
 | 0=>by rw [pN,show Kp p 0 = 0 by unfold Kp; split <;> omega]; rfl
 | k + 1 => by
  rw [pN,Jb]
  by_cases c:k = p
  ·subst c
   rw [if_pos (by simp),List.append_nil,show Kp k (k + 1) = Kp k k by unfold Kp; split <;> split <;> omega]
  ·rw [if_neg (by simpa using c)]
   have e1:iE p (Kp p k) = k:=by unfold iE Kp; split <;> split <;> omega
   have e2:Kp p (k + 1) = Kp p k + 1:=by unfold Kp; split <;> split <;> omega
   rw [e2,sY,e1]
theorem Tt {p n:Nat} (h:p < n):(pN [p] n).map Nat.succ = xR p (n - 1):=by rw [Jb,Sx h,mO]; rfl
theorem Ot {G:List Nat} {i:Nat}:((gnI G).any fun x=>decide (((i + 1:Nat):Int) = x)) = decide (i ∈ G):=by
 rw [Bool.eq_iff_iff]
 simp only [gnI,List.any_map,List.any_eq_true,Function.comp,decide_eq_true_eq]
 constructor
 ·rintro ⟨q, h1, h2⟩
  obtain rfl:i = q:=by omega
  exact h1
 ·intro h; exact ⟨i,h,by omega⟩
abbrev nM (Q:List Nat) (i:Nat):Nat:=Q.getD i 0
def yH (z:List Qi) (Q:List Nat):List Qi:=tab Q.length fun i=>gv z (nM Q i)
def Cb (s:List (List Qi)) (Q:List Nat):List (List Qi):=tab Q.length fun i=>tab Q.length fun j=>gm s (nM Q i) (nM Q j)
theorem Bw {Q:List Nat} {n i:Nat} (h:∀ x,x ∈ Q → x < n) (hi:i < Q.length):nM Q i < n:=h _ (by rw [show nM Q i = Q[i] by simp [nM,List.getD,hi]]; exact List.getElem_mem hi)
theorem wH {Q:List Nat} {i:Nat} (h:i < Q.length):(Q.map Nat.succ)[i]? = some (nM Q i + 1):=by simp [nM,List.getD,h]
theorem yJ {m i:Nat} {p:Nat} (h:i < m):nM (tab m (iE p)) i = iE p i:=yK h
theorem Qo (z:List Qi) (p m:Nat):yH z (tab m (iE p)) = xX z p m:=by
 rw [yH,aO]; exact eB fun i hi=>by rw [yJ hi]
theorem Qn (s:List (List Qi)) (p m:Nat):Cb s (tab m (iE p)) = a0D s p m:=by
 rw [Cb,aO]; exact eB fun i hi=>eB fun j hj=>by rw [yJ hi,yJ hj]
theorem Vm {p m n : Nat} (hp : p < n) (hm : m = n - 1) : ∀ x, x ∈ tab m (iE p) → x < n := fun x hx => by
 obtain ⟨i,hi,rfl⟩:=hJ.1 hx; exact Bz zo hp
theorem Tu (p m:Nat):(tab m (iE p)).map Nat.succ = xR p m:=by rw [mO]; rfl
end
section
open Go Go.RowKit
def gq (ps:List (Nat × Nat)) (x:Nat):Nat:=if x % 2 = 0 then pA ps (x / 2) else pB ps (x / 2)
structure Jn (ps:List (Nat × Nat)) (n K:Nat):Prop where
 lt:∀ x,x < 2 * K → gq ps x < n
 inj:∀ x y,x < 2 * K → y < 2 * K → gq ps x = gq ps y → x = y
theorem Jn.le {ps:List (Nat × Nat)} {n K k:Nat} (h:Jn ps n K) (hk:k ≤ K):Jn ps n k:=⟨fun x hx=>h.lt x zo,fun x y hx hy=>h.inj x y zo zo⟩
end
section
open Go Go.RowKit
theorem pig : ∀ {n m : Nat} {f : Nat → Nat}, (∀ x, x < m → f x < n) → (∀ x y, x < m → y < m → f x = f y → x = y) → m ≤ n
 | 0, m, f, h, _ => by
  cases m with
  | zero=>exact Nat.le_refl 0
  | succ m=>exact absurd (h 0 zo) zo
 | n + 1,0,_,_,_=>by omega
 | n + 1, k + 1, f, h, i => by
  have := pig (n := n) (m := k) (f := fun x => if f x = n then f k else f x) (fun x hx => by
   have h1:=h x zo
   have h2:=h k zo
   by_cases c:f x = n
   ·simp only [if_pos c]
    have:f k ≠ n:=fun e=>by have:=i x k zo zo (by rw [c,e]); omega
    omega
   ·simp only [if_neg c]; omega) (fun x y hx hy e=>by
   by_cases c:f x = n <;> by_cases d:f y = n
   ·exact i x y zo zo (by rw [c,d])
   ·simp only [if_pos c, if_neg d] at e
    have:=i k y zo zo e; omega
   ·simp only [if_neg c, if_pos d] at e
    have:=i x k zo zo e; omega
   ·simp only [if_neg c, if_neg d] at e
    exact i x y zo zo e)
  omega
end
section
open Go Go.RowKit
theorem sI {x y:Qi} {L M:Nat} (hx:aM x L) (hy:aM y M) (h:y ≠ 0):aM (x / y) (L + 3 * M + 2):=⟨hx.fit.div hy.fit h⟩
end
section
open Go Go.RowKit
section
variable {φ:Qi → Qi → Bool} {z:List Qi} {js:List (Int × Int)}
end
section
variable {js:List (Int × Int)} {n:Nat}
end
theorem Bm : ∀ n, pN [] n = tab n fun i => i
 | 0=>rfl
 | n + 1=>by rw [pN,Bm n,sY]; rfl
theorem Hn (n:Nat):(pN [] n).length = n:=by rw [Bm,aO]
theorem Rr {z:List Qi}:yH z (pN [] z.length) = z:=by
 rw [yH,Hn,Bm]
 apply List.ext_getElem?
 intro i
 by_cases hi:i < z.length
 ·rw [cD hi,nM,yK hi]; simp [gv,List.getD,hi]
 ·rw [List.getElem?_eq_none (by rw [aO]; omega),List.getElem?_eq_none zo]
end
section
open Go Go.RowKit
structure zE (O:List Nat) (n:Nat):Prop where
 nd:O.Nodup
 all:∀ x,x ∈ O ↔ 1 ≤ x ∧ x ≤ n
theorem zE.len {O:List Nat} {n:Nat} (h:zE O n):O.length = n:=by
 refine Nat.le_antisymm ?_ ?_
 ·refine pig (n := n) (f := fun i => O.getD i 0 - 1) (fun x hx => ?_) (fun x y hx hy e => ?_)
  ·have := (h.all (O.getD x 0)).1 (by rw [show O.getD x 0 = O[x] by simp [List.getD, hx]]; exact List.getElem_mem hx)
   show O.getD x 0 - 1 < n; omega
  ·have a := (h.all (O.getD x 0)).1 (by rw [show O.getD x 0 = O[x] by simp [List.getD, hx]]; exact List.getElem_mem hx)
   have b:=(h.all (O.getD y 0)).1 (by rw [show O.getD y 0 = O[y] by simp [List.getD,hy]]; exact List.getElem_mem hy)
   have e2:O.getD x 0 = O.getD y 0:=by have:O.getD x 0 - 1 = O.getD y 0 - 1:=e; omega
   rw [show O.getD x 0 = O[x] by simp [List.getD,hx],show O.getD y 0 = O[y] by simp [List.getD,hy]] at e2
   exact (List.getElem_inj h.nd).1 e2
 ·have key : ∀ j, j < n → ∃ i, i < O.length ∧ O.getD i 0 = j + 1 := fun j hj => by
   obtain ⟨i,hi,e⟩:=List.getElem_of_mem ((h.all (j + 1)).2 ⟨by omega,by omega⟩)
   exact ⟨i,hi,by simp [List.getD,hi,e]⟩
  refine pig (n:=O.length) (f:=fun j=>if hj:j < n then Classical.choose (key j hj) else 0) (fun x hx=>by simp only [dif_pos hx]; exact (Classical.choose_spec (key x hx)).1) (fun x y hx hy e=>?_)
  simp only [dif_pos hx,dif_pos hy] at e
  have a:=(Classical.choose_spec (key x hx)).2
  have b:=(Classical.choose_spec (key y hy)).2
  rw [e] at a; omega
section
variable {O:List Nat} {n:Nat}
theorem zE.at (h:zE O n) {i:Nat} (hi:i < n):1 ≤ O.getD i 0 ∧ O.getD i 0 ≤ n:=by
 have hl:=h.len
 exact (h.all _).1 (by rw [show O.getD i 0 = O[i] by simp [List.getD,show i < O.length by omega]]; exact List.getElem_mem _)
theorem zE.inj (h:zE O n) {i j:Nat} (hi:i < n) (hj:j < n) (e:O.getD i 0 = O.getD j 0):i = j:=by
 have hl:=h.len
 rw [show O.getD i 0 = O[i] by simp [List.getD,show i < O.length by omega],show O.getD j 0 = O[j] by simp [List.getD,show j < O.length by omega]] at e
 exact (List.getElem_inj h.nd).1 e
end
end
section
open Go Go.RowKit
section
variable {S:List (List Qi)} {p q r t a b:Nat}
theorem Vo {x y:Qi} (h:x - y = 0):x = y:=by grind
end
section
variable {S:Nat → Nat → Qi} {p q r t a b:Nat}
def S1 (S:Nat → Nat → Qi) (p q:Nat) (V:Nat → Qi × Qi) (a b:Nat):Qi:=S a b + (S a p * (V b).1 + S a q * (V b).2)
variable {V:Nat → Qi × Qi}
end
end
section
open Go Go.RowKit
def low (c a b:Nat):Nat:=c - (if a < c then 1 else 0) - (if b < c then 1 else 0)
def okP (N p q r t : Nat) : Bool :=
 decide ((pN [p,q] N).length = N - 2) && decide (low r p q < N - 2) && decide (low t p q < N - 2) && decide (low r p q ≠ low t p q) && decide (nM (pN [p,q] N) (low r p q) = r) && decide (nM (pN [p,q] N) (low t p q) = t)
 && decide ((pN [low r p q,low t p q] (N - 2)).map (nM (pN [p,q] N)) = pN [p,q,r,t] N) && decide ((pN [p,q,r,t] N).length = N - 4) && decide (pN [t,r,p,q] N = pN [p,q,r,t] N) && decide (pN [r,t,p,q] N = pN [p,q,r,t] N)
section
variable {z:List Qi} {S:List (List Qi)} {N p q r t:Nat} {ζ:Qi}
end
end
section
open Go Go.RowKit
abbrev oB (s f:List (List Qi)) (p:Nat):Qi:=Qi.ofInt 1 - gm f 1 1 * gm s p p
def nW (s f : List (List Qi)) (p i j : Nat) : Qi :=
 if i = p ∧ j = p then gm f 0 0 + gm f 0 1 * (gm f 1 0 * (gm s p p / oB s f p))
 else if j = p then gm s i p / oB s f p * gm f 1 0
 else if i = p then gm f 0 1 * (gm s p j / oB s f p)
 else gm s i j + gm s i p / oB s f p * (gm f 1 1 * gm s p j)
def Gp (s f:List (List Qi)) (p n:Nat):List (List Qi):=tab n fun i=>tab n fun j=>nW s f p i j
def yS (z fz:List Qi) (port:Int) (x:Nat):Int:=if fz.length ≠ 2 then 4 else if ¬ (1 ≤ port ∧ port ≤ z.length) then 1 else if gv fz (x - 1) = gv z (port - 1).toNat then 0 else 40
theorem a0w {z fz:List Qi} {port:Int} {x:Nat} (h:yS z fz port x = 0):fz.length = 2 ∧ (1 ≤ port ∧ port ≤ z.length) ∧ gv fz (x - 1) = gv z (port - 1).toNat:=by
 unfold yS at h
 by_cases c1:fz.length = 2
 ·rw [if_neg (fun k => k c1)] at h
  by_cases c2:1 ≤ port ∧ port ≤ z.length
  ·rw [if_neg (fun k => k c2)] at h
   by_cases c3:gv fz (x - 1) = gv z (port - 1).toNat
   ·exact ⟨c1,c2,c3⟩
   ·rw [if_neg c3] at h; omega
  ·rw [if_pos c2] at h; omega
 ·rw [if_pos c1] at h; omega
def zP (z:List Qi) (s:List (List Qi)) (fz:List Qi) (f:List (List Qi)) (port:Int):Int:=if yS z fz port 2 ≠ 0 then yS z fz port 2 else if oB s f (port - 1).toNat = Qi.zero then 6 else 0
theorem Wp {z fz:List Qi} {s f:List (List Qi)} {port:Int} (h:yS z fz port 2 ≠ 0):zP z s fz f port = yS z fz port 2:=if_pos h
theorem Wq {z fz:List Qi} {s f:List (List Qi)} {port:Int} (h:yS z fz port 2 = 0) (h2:oB s f (port - 1).toNat = Qi.zero):zP z s fz f port = 6:=by rw [zP,if_neg (fun k=>k h),if_pos h2]
theorem Oa {z fz:List Qi} {s f:List (List Qi)} {port:Int} (h:yS z fz port 2 = 0) (h2:oB s f (port - 1).toNat ≠ Qi.zero):zP z s fz f port = 0:=by rw [zP,if_neg (fun k=>k h),if_neg h2]
def Rf (z:List Qi) (s:List (List Qi)) (fz:List Qi) (f:List (List Qi)) (port:Int):List Qi:=kX (zP z s fz f port) (z.set (port - 1).toNat (gv fz 0))
def Re (z:List Qi) (s:List (List Qi)) (fz:List Qi) (f:List (List Qi)) (port:Int):List (List Qi):=kX (zP z s fz f port) (Gp s f (port - 1).toNat z.length)
end
section
open Go Go.RowKit
def Gb (x:Qi) (N:Nat):Prop:=∃ p q:Int,x = Qi.mk (p:Rat) (q:Rat) ∧ p.natAbs ≤ N ∧ q.natAbs ≤ N
theorem Gb.le {x:Qi} {N M:Nat} (h:Gb x N) (k:N ≤ M):Gb x M:=by
 obtain ⟨p,q,e,h1,h2⟩:=h; exact ⟨p,q,e,by omega,by omega⟩
theorem Gb.add {x y:Qi} {N M:Nat} (h:Gb x N) (k:Gb y M):Gb (x + y) (N + M):=by
 obtain ⟨p,q,rfl,h1,h2⟩:=h; obtain ⟨r,s,rfl,k1,k2⟩:=k
 refine ⟨p + r,q + s,Qi.ext' ?_ ?_,by omega,by omega⟩
 ·show (p:Rat) + (r:Rat) = ((p + r:Int):Rat); push_cast; rfl
 ·show (q:Rat) + (s:Rat) = ((q + s:Int):Rat); push_cast; rfl
theorem Gb.neg {x:Qi} {N:Nat} (h:Gb x N):Gb (-x) N:=by
 obtain ⟨p,q,rfl,h1,h2⟩:=h
 refine ⟨-p,-q,Qi.ext' ?_ ?_,by omega,by omega⟩
 ·show -(p:Rat) = ((-p:Int):Rat); push_cast; rfl
 ·show -(q:Rat) = ((-q:Int):Rat); push_cast; rfl
theorem Gb.sub {x y:Qi} {N M:Nat} (h:Gb x N) (k:Gb y M):Gb (x - y) (N + M):=by rw [Qi.sub_def]; exact h.add k.neg
theorem wB {p q:Int} {N M:Nat} (h:p.natAbs ≤ N) (k:q.natAbs ≤ M):(p * q).natAbs ≤ N * M:=by rw [Int.natAbs_mul]; exact Nat.mul_le_mul h k
theorem Gb.mul {x y:Qi} {N M:Nat} (h:Gb x N) (k:Gb y M):Gb (x * y) (2 * N * M):=by
 obtain ⟨p,q,rfl,h1,h2⟩:=h; obtain ⟨r,s,rfl,k1,k2⟩:=k
 have a1:=wB h1 k1; have a2:=wB h2 k2; have a3:=wB h1 k2; have a4:=wB h2 k1
 have e:2 * N * M = N * M + N * M:=by rw [Nat.mul_assoc,Nat.two_mul]
 refine ⟨p * r - q * s,p * s + q * r,Qi.ext' ?_ ?_,by omega,by omega⟩
 ·rw [Qi.mul_re]; show (p:Rat) * (r:Rat) - (q:Rat) * (s:Rat) = ((p * r - q * s:Int):Rat); push_cast; rfl
 ·rw [Qi.mul_im]; show (p:Rat) * (s:Rat) + (q:Rat) * (r:Rat) = ((p * s + q * r:Int):Rat); push_cast; rfl
theorem Gb.sum {f : Nat → Qi} {N : Nat} : ∀ {n : Nat}, (∀ k, k < n → Gb (f k) N) → Gb (fP n f) (n * N)
 | 0,_=>⟨0,0,Qi.ext' rfl rfl,by simp,by simp⟩
 | n + 1, h => by
  rw [fP,Nat.succ_mul]
  exact (Gb.sum fun k hk=>h k zo).add (h n zo)
theorem Gb.fit {x:Qi} {N L:Nat} (h:Gb x N) (hN:N < BB ^ L) (hL:1 ≤ L):aM x L:=by
 obtain ⟨p,q,rfl,h1,h2⟩:=h
 have e:Qi.mk (p:Rat) (q:Rat) = Qi.mk' p q 1:=Qi.ext' (by rw [Qi.mk_re]; show (p:Rat) = p / ((1:Nat):Rat); grind) (by rw [Qi.mk_im]; show (q:Rat) = q / ((1:Nat):Rat); grind)
 rw [e]
 exact ⟨Qi.Fit.mk (by decide) zo zo (Qi.one_lt hL)⟩
end
section
open Go Go.RowKit
section
variable {z:List Qi} {s c:List (List Qi)} {g t:Qi} {p:Nat}
theorem tZ (n:Nat) (f:Nat → Qi):fP (n + 1) f = fP n f + f n:=rfl
end
end
section
open Go Go.RowKit
section
variable {a b:Qi} {A B C:List (List Qi)} {d e:Nat → Qi} {n:Nat}
end
theorem q2:Qi.ofInt 2 = 2:=rfl
section
variable {z:List Qi} {s:List (List Qi)}
end
end
section
open Go Go.RowKit
def tF (r:List Qi) (w:Nat):Prop:=∃ d:Qi,d ≠ 0 ∧ Gb d (BB ^ w) ∧ ∀ j,Gb (d * gv r j) (BB ^ w)
theorem tF.le {r:List Qi} {w v:Nat} (h:tF r w) (k:w ≤ v):tF r v:=by
 obtain ⟨d,d0,dg,dj⟩:=h
 have hp:BB ^ w ≤ BB ^ v:=Nat.pow_le_pow_right eP k
 exact ⟨d,d0,dg.le hp,fun j=>(dj j).le hp⟩
theorem Hh (w:Nat):2 * BB ^ w * BB ^ w + 2 * BB ^ w * BB ^ w ≤ BB ^ (2 * w + 1):=by
 have e:BB ^ (2 * w + 1) = BB ^ w * BB ^ w * BB:=by rw [Nat.pow_succ,Nat.two_mul,Nat.pow_add]
 rw [e,Nat.mul_assoc 2,← Nat.two_mul,← Nat.mul_assoc 2 2,Nat.mul_comm (2 * 2)]
 exact Nat.mul_le_mul_left _ (by decide)
theorem Ys {l:List Qi} {j:Nat} (h:l.length ≤ j):gv l j = 0:=by simp [gv,List.getD,List.getElem?_eq_none h]; rfl
theorem Ti (N:Nat):Gb 0 N:=⟨0,0,Qi.ext' rfl rfl,by simp,by simp⟩
theorem tF.red {rr rc:List Qi} {c w:Nat} {P:Nat → Prop} [DecidablePred P] (h1:tF rr w) (h2:tF rc w) (hp:gv rc c ≠ 0):tF (tab rr.length fun j=>if P j then gv rr j - gv rr c / gv rc c * gv rc j else gv rr j) (2 * w + 1):=by
 obtain ⟨d,d0,dg,dj⟩:=h1
 obtain ⟨e,e0,eg,ej⟩:=h2
 have t:=Hh w
 refine ⟨d * (e * gv rc c),fun k=>?_,(dg.mul (ej c)).le zo,fun j=>?_⟩
 ·rcases uI k with k | k
  ·exact d0 k
  ·rcases uI k with k | k
   ·exact e0 k
   ·exact hp k
 ·by_cases hj : j < rr.length
  ·rw [rU hj]
   by_cases hP:P j
   ·rw [if_pos hP]
    have hd:=tN (x:=gv rr c) hp
    have ee : d * (e * gv rc c) * (gv rr j - gv rr c / gv rc c * gv rc j) = d * gv rr j * (e * gv rc c) - d * gv rr c * (e * gv rc j) := by
     have e2:d * (e * gv rc c) * (gv rr c / gv rc c * gv rc j) = d * (gv rr c / gv rc c * gv rc c) * (e * gv rc j):=by grind
     rw [hd] at e2
     grind
    rw [ee]
    exact (((dj j).mul (ej c)).sub ((dj c).mul (ej j))).le t
   ·rw [if_neg hP]
    have ee:d * (e * gv rc c) * gv rr j = d * gv rr j * (e * gv rc c):=by grind
    rw [ee]
    exact ((dj j).mul (ej c)).le zo
  ·rw [Ys (l := tab rr.length fun j => if P j then gv rr j - gv rr c / gv rc c * gv rc j else gv rr j) (by rw [aO]; omega)]
   have ee:d * (e * gv rc c) * 0 = 0:=by grind
   rw [ee]; exact Ti _
theorem tF.fit {r : List Qi} {w : Nat} (h : tF r w) : cH r (4 * (w + 1) + 2) := fun x hx => by
 obtain ⟨d,d0,dg,dj⟩:=h
 obtain ⟨j,hj,e⟩:=List.getElem_of_mem hx
 have e2:gv r j = x:=by simp [gv,List.getD,hj,e]
 have hlt:BB ^ w < BB ^ (w + 1):=Nat.pow_lt_pow_right (by decide) zo
 have f1:aM (d * gv r j) (w + 1):=(dj j).fit hlt zo
 have f2:aM d (w + 1):=dg.fit hlt zo
 have f3:aM (d * gv r j / d) (w + 1 + 3 * (w + 1) + 2):=sI f1 f2 d0
 rw [Yl (z:=x) d0 (by rw [e2]; grind)] at f3
 exact f3.le zo
abbrev pP (M:List (List Qi)) (w:Nat):Prop:=∀ r,r ∈ M → tF r w
theorem pP.row {M : List (List Qi)} {w i : Nat} (h : pP M w) (hi : i < M.length) : tF (dS M i) w := h _ (by
 rw [show dS M i = M[i] by simp [dS,List.getD,hi]]; exact List.getElem_mem hi)
theorem pP.swp {M : List (List Qi)} {w p c : Nat} (h : pP M w) (hp : p < M.length) (hc : c < M.length) : pP (swp [] M p c) w := fun x hx => by
 unfold Go.Proofs.YtdlciihkiefckaaGreat.swp at hx
 rcases List.mem_or_eq_of_mem_set hx with h1 | h1
 ·rcases List.mem_or_eq_of_mem_set h1 with h2 | h2
  ·exact h x h2
  ·rw [h2]; exact h.row hc
 ·rw [h1]; exact h.row hp
theorem pP.redM {M : List (List Qi)} {w c r : Nat} (h : pP M w) (hc : c < M.length) (hp : gm M c c ≠ Qi.zero) : pP (redM M c r) (2 * w + 1) := fun x hx => by
 obtain ⟨i,hi,rfl⟩:=hJ.1 hx
 show tF (if c < i ∧ i < r then kD (dS M i) (dS M c) c (dS M i).length else dS M i) _
 split
 ·exact (h.row hi).red (h.row hc) hp
 ·exact (h.row hi).le zo
theorem pP.redJ {M : List (List Qi)} {w c r : Nat} (h : pP M w) (hc : c < M.length) (hp : gm M c c ≠ Qi.zero) : pP (redJ M c r) (2 * w + 1) := fun x hx => by
 obtain ⟨i,hi,rfl⟩:=hJ.1 hx
 show tF (if i ≠ c ∧ i < r then uM (dS M i) (dS M c) c (dS M i).length else dS M i) _
 split
 ·exact (h.row hi).red (h.row hc) hp
 ·exact (h.row hi).le zo
structure SzS (M:List (List Qi)) (b:List Qi) (n G X:Nat):Prop where
 st:∀ c,c ≤ n → cF (dH (oE M [b] n) c).1 G
 bk:rF M b n = 0 → ∀ j,j ≤ n → cH (uF (yF M b n).1 n j) X
 g1:1 ≤ G
 x1:1 ≤ X
 g:6 * G + 4 ≤ 17592186044415
 x:n * (X + G + 2) + 4 * G + 2 ≤ 17592186044415
theorem SzS.old {M:List (List Qi)} {b:List Qi} {n L:Nat} (hM:iF M n n) (hf:cF M L) (hfb:cH b L) (hL:1 ≤ L) (hg:6 * nB L n + 4 ≤ 17592186044415) (hx:Fh (nB L n) (n + 1) ≤ 17592186044415):SzS M b n (nB L n) (Fh (nB L n) n):=by
 have hcs:iF (oE M [b] n) n (n + 1):=oF hM
 have hcf:cF (oE M [b] n) L:=tM hf (fun r hr=>by simp at hr; subst hr; exact hfb) hL
 have hG1:1 ≤ nB L n:=Nat.le_trans hL (sL L n)
 refine ⟨fun c hc=>(xJ hcs hcf hL hc).le (qW L hc),fun hE j hj=>?_,hG1,Nat.le_trans hG1 (Hi _ _),hg,hx⟩
 have hst:¬ 0 ≤ (yF M b n).2.2:=fun h=>by rw [rF,if_pos h] at hE; omega
 have hf2:=Mt (Qh hM hf hfb hL) hG1 (tQ hcs (Nat.le_refl n) (Jt hst)) j hj
 exact fun y hy=>(hf2 y hy).le (Fi _ hj)
structure SzJ (M:List (List Qi)) (b:List Qi) (n G:Nat):Prop where
 st:∀ c A,c ≤ n → Kz (oE M [b] n) c = some A → cF A G
 g1:1 ≤ G
 g:6 * G + 4 ≤ 17592186044415
theorem SzJ.old {M : List (List Qi)} {b : List Qi} {n L : Nat} (hM : iF M n n) (hf : cF M L) (hfb : cH b L) (hL : 1 ≤ L) (hg : 6 * nB L n + 4 ≤ 17592186044415) : SzJ M b n (nB L n) :=
 ⟨fun _ _ hc hA=>(On (show iF (oE M [b] n) n (n + 1) from oF hM) (Nat.le_succ n) (tM hf (fun r hr=>by simp at hr; subst hr; exact hfb) hL) hL hc hA).le (qW L hc),Nat.le_trans hL (sL L n),hg⟩
end
section
open Go Go.RowKit
theorem a0f {n:Nat} (hn:n ≤ 32):gP Tryz.prog 144 [NT .i64 n] [] (Nat) (fun B=>Is (.slice (some ⟨B,0,none⟩) n n)) (fun B=>[rE oX B 25 60 5 (dN aD (Ma n))]) (fun _=>True):=by
 refine gP.intro Tryz.func144 rfl Tryz.ntmps144 rfl (fun cx Z=>(ts (ro rfl (cQ cV) (eX (ts (rn rfl (eG (Ts:=[Is (.bool false),Is (.slice none 0 0),Is (.bool false),Is (.slice none 0 0),Is (.slice none 0 0)]) O_60 rfl (fun V=>aW zd (aW zd (aW zd (aW zd (aW zd (aG))))))) fun B3=>(eX (ts (rm rfl (ro rfl (aE.nat (Uo (Ht rfl) (cJ 0)) (show max n 0 = n by omega)) (ro rfl (aE.nat (Jk (Ht rfl) (cJ 32)) (show min n 32 = n by omega)) ?_)))))))))))
 refine rn rfl (fM (T:=Is (.slice none 0 0)) (i:=Tryz.t25) V_26 sN rfl rfl (Ht rfl) rfl (fun _=>rfl) trivial (by show 24 * _ ≤ _; omega) zo) fun B9=>ra rfl (eX (cK (ts (rm rfl (ro rfl (jU U_26 (Ht rfl)) (ro rfl (cX (cJ 0)) (eX (eK (lI 2 rfl (Dx oX ⟨none,0,rfl⟩ (e:=60) (s:=5)) ?_)))))))))
 refine dB (fun (k : Nat) => k ≤ n) (fun (k : Nat) => n - k) (fun (k : Nat) => [(3, cE B3 0), (4, Is (.slice (some ⟨B9, 0, none⟩) n n)), (11, NT .i64 n), (12, NT .i64 k)]) (fun (k : Nat) => [Z, box B3 60 [Is (.bool false), Is (.slice none 0 0), Is (.bool false), Is (.slice none 0 0), Is (.slice none 0 0)], rE oX B9 25 60 5 (dN aD (kA (Ag n) [] n k))]) 0 (Nat.zero_le _)
  (zS rfl) (aU (fun _ _ _ h=>h) (aU (fun _ _ _ h=>h) (aU (gC (by rw [← iN,rC]; exact sW aD n)) aY))) (fun k hk=>?_)
 refine ts (ro rfl (gW (Ht rfl) (Ht rfl)) (eX (cK (dQ (Ht rfl) (fun hd=>?_) (fun hd=>?_)))))
 ·simp only [decide_eq_true_eq] at hd
  refine Mk 2 (k) rfl (xN hd) (fun v hv=>(cU (cK (eK (ts (rm rfl (ra rfl (eX (cK (fW (m:=10) (dp 4 rfl (cX (Ht rfl)) (dp 5 rfl (cX (Ht rfl)) (dp 3 rfl (eW A_60 Z_60 (Ht rfl) (i:=1) rfl rfl rfl) (dq 17 2 rfl (bH bR (Ht rfl)) (d0 rfl (cZ Tryz.call52 (Hz (n:=0) (by decide) (by decide)) ⟨(cJ 0),trivial⟩) (dP 18 3 19 4 rfl (bD rV Tryz.call304 Na (Ht rfl) ⟨(Ht rfl),trivial⟩) (dq 20 5 rfl (eM (xs:=[.tmp 20]) U_25 Z_60 O_60 (cW (Ht rfl) cG) rfl rfl rfl) ?_)))))))))))))))))
  refine dp 4 rfl (cX (Ht rfl)) (dq 22 7 rfl (jU U_26 (Ht rfl)) (C.D_new (Ei:=[(21,_),(23,_)]) rfl rfl rfl (bV (bG 6 rfl rfl) (bV (bG 8 rfl rfl) bW)) (zW Tryz.call229 (Xv (m:=n) zo zo) ⟨(Ht rfl),(Ht rfl),trivial⟩) (fK bC rfl (by kernel_rfl) (zF (zF (aJ (C.F_new (fun B24=>aV (ro rfl (gJ U_26 Z_25 (Ht rfl) (Ht rfl) rfl zo (by rw [Nat.mul_one,Nat.zero_add])) ?_)))))))))
  refine zG Z_25 (Ht rfl) (Ht rfl) (by simp only [dN,List.length_map,cR]; omega) (j:=2) (l:=4) rfl rfl rfl ?_
  refine eX ?_
  have hB24:=B24.1.2
  refine fW (m:=9) (dp 4 rfl (cX (Ht rfl)) (dp 5 rfl (cX (Ht rfl)) (dP 26 0 27 1 rfl (gJ U_26 Z_25 (Ht rfl) (Ht rfl) rfl zo (by rw [Nat.mul_one,Nat.zero_add])) ?_)))
  refine dq 28 2 rfl (nY A_25 Z_25 (Ht rfl) (j:=2) rfl) (dp 5 rfl (cX (Ht rfl)) (dp 3 rfl (eW A_60 Z_60 (Ht rfl) (i:=1) rfl rfl rfl) (dq 31 5 rfl (bH bR (Ht rfl)) (d0 rfl (cZ Tryz.call52 (Hz (n:=1) (by decide) (by decide)) ⟨(cJ 1),trivial⟩) (dP 32 6 33 7 rfl (bD rV Tryz.call304 Na (Ht rfl) ⟨(Ht rfl),trivial⟩) (fK bC rfl (by kernel_rfl) (zF (zF (aJ (aV (ro rfl (cC U_25 Z_60 (Ht rfl) (Ht rfl) rfl (i:=4) rfl (by simp only [List.length_map,aO]; omega) rfl) ?_)))))))))))
  refine jY Z_60 (Ht rfl) (Ht rfl) (El.ag rfl) (i:=4) rfl rfl (by simp only [List.length_map,aO]; omega) rfl ?_
  refine eX (bI (lJ 2 4 rfl rfl (by decide) (by simp only [dN,List.length_map,cR]; omega) ?_))
  refine cY (ro rfl (dV (Ht rfl) (cJ 1) z6) (rm rfl (eX (bO [0,1,2] rfl (by decide) (gZ (k + 1) hd zo (zS rfl) (aU (fun _ _ _ h=>h) (aU (fun _ _ _ h=>h) (aU (gC (by rw [← jJ (f:=Ag n),← mD,Ag,← fB])) aY))))))))
 ·simp only [decide_eq_false_iff_not] at hd
  obtain rfl:n = k:=Nat.le_antisymm zo hk
  refine gU rfl (ts (rm rfl (ra rfl (eX ?_))))
  exact kO B9 trivial [0,2] ⟨⟨_,rfl,fun _ _ _ h=>h⟩,⟨_,rfl,(gC (by rw [jI]; rfl))⟩,trivial⟩ (by decide) (yB rfl (eY rfl))
theorem a0e {n:Nat} (hn:n ≤ 32):bB Tryz.prog 144 [NT .i64 n] (eE (Ma n)):=(a0f hn).fun fun B _ v S V h1 h2=>sK (s:=5) (M:=Ma n) (sM n).1.symm v S V h1 h2
theorem Ng {M:List (List Qi)} {b:List Qi} {n G X:Nat} (hM:iF M n n) (hb:b.length = n) (hz:SzS M b n G X) (h1:1 ≤ n) (hn:n ≤ 32):bB Tryz.prog 126 [eE M,bL b] (dM [bL (kX (rF M b n) (yG M b n)),aF .i64 (rF M b n)]):=by
 have hMl:=hM.1
 have hcs:iF (oE M [b] n) n (n + 1):=oF hM
 have hg:=hz.g
 have hx:n * (G + X + 2) + 4 * G + 2 ≤ 17592186044415:=by rw [Nat.add_comm G X]; exact hz.x
 obtain ⟨U,hU⟩:∃ U,U = (yF M b n).1:=⟨_,rfl⟩
 have hUs:iF U n (n + 1):=by rw [hU]; exact Qj hM
 have hUl:=hUs.1
 have hUf:cF U G:=by rw [hU]; exact hz.st n (Nat.le_refl n)
 have hG1:=hz.g1
 have hX1:=hz.x1
 refine bB.intro Tryz.func126 rfl Tryz.ntmps126 rfl (fun cx=>(ts (ro rfl (cQ cV) (ro rfl (cQ (cJ 0)) (eX (cK (ts (rm rfl (ro rfl (cZ Tryz.call172 (Da hM h1 hn) ⟨(Ht rfl),trivial⟩) (ro rfl (fO (Ht rfl)) (rm rfl (fJ rfl rfl (eU rfl rfl (Ht rfl) (fun h=>cX (Ht rfl))) (fJ rfl rfl (eU rfl rfl (Ht rfl) (fun h=>dG U_25 (fG rfl h) aA)) (fJ rfl rfl (eU rfl rfl (Ht rfl) (fun h=>cX (Ht rfl))) (fJ rfl rfl (eU rfl rfl (Ht rfl) (fun h=>dG U_26 (fG rfl h) aA)) ?_)))))))))))))))
 refine fJ rfl rfl (eU rfl rfl (Ht rfl) (fun h=>gD (fG rfl h) (fG rfl h))) (ro rfl (kH (Ht rfl) (fun h=>(fG rfl h))) (eX (fR (Ht rfl) (by simp [hMl,hb]) ?_)))
 refine cU (ts (rm rfl (ro rfl (dG U_26 (Ht rfl) (by rw [List.length_map,hMl])) ?_)))
 refine ra rfl (eX (ts (rm rfl (rm rfl (ro rfl (eM (xs:=[.tmp 26]) U_26 Z_25 O_25 (cW (Ht rfl) cG) rfl rfl rfl) (oR Tryz.call195 (zI (M:=M) (bs:=[b]) (n:=n) (m:=n) hM (fun r hr=>by simp at hr; subst hr; omega) zo zo (by simp)) ⟨(Ht rfl),(Ht rfl),trivial⟩ rfl (fun B28 _=>?_)))))))
 refine ra rfl (eX (cK (ts (rm rfl (Aj Tryz.call221 (Sg (n:=n) (m:=n + 1) (G:=G) hcs hz.st hG1 hg zo zo) (i:=0) rfl ⟨(Ht rfl),trivial⟩ rfl (fun uu _=>(rm rfl (ro rfl (dK (Ht rfl) rfl) (ro rfl (dK (Ht rfl) rfl) (ra rfl (ra rfl (eX (ts (rm rfl (ro rfl (lB (Ht rfl) cV) (eX (dQ (Ht rfl) (fun hs=>?_) (fun hs=>?_))))))))))))))))))
 ·have he : rF M b n = 6 := by rw [rF, if_pos (show 0 ≤ (yF M b n).2.2 from of_decide_eq_true hs)]
  refine ts (ro rfl (cQ cV) (ro rfl (cQ (cJ 6)) (eX (bN rfl (fV (eY rfl) ?_) (fV (eY rfl) ?_)))))
  ·exact (fun v V k=>by rw [he]; exact iO v V k)
  ·exact (aT he.symm)
 ·have hst : ¬ 0 ≤ (yF M b n).2.2 := of_decide_eq_false hs
  have he:rF M b n = 0:=by rw [rF,if_neg hst]
  have hdz:∀ i,i < n → gm U i i ≠ Qi.zero:=by rw [hU]; exact tQ hcs (Nat.le_refl n) (Jt hst)
  refine cU (ts (rm rfl (rn rfl (iJ (T:=aD Qi.zero) (i:=Tryz.t60) jP iM rfl rfl (Ht rfl) rfl gH (El.ag rfl) (by show 88 * _ ≤ _; omega) zo) fun B37=>(ra rfl (eX (cK (ts (rm rfl (ro rfl (dW (Ht rfl) (cJ 1) zo z6) (ra rfl (eX (eK (lI 0 rfl (gC (show dN aD (dH (oE M [b] n) n).1 = dN aD U by rw [hU]; rfl)) (Hm 0 rfl (fun vs hvs=>?_)))))))))))))))
  have hvl:vs.length = n:=by have h:=hvs.len; rw [List.length_map,hUl] at h; exact h
  refine dB (fun (j : Nat) => j ≤ n) (fun (j : Nat) => n - j) (fun (j : Nat) => [(0, Is (.slice (some ⟨B28, 0, none⟩) n n)), (6, NT .i64 n), (9, Is B37), (10, aF .i64 ((n : Int) - 1 - (j : Int)))]) (fun (j : Nat) => [jF B28 25 60 5 vs vs (dN aD U), bE 60 5 B37 ((uF U n j).map aD)]) 0 (Nat.zero_le _)
   (aQ rfl (aQ rfl (aQ rfl (aZ rfl (aT zo) aX)))) (aU (fun _ _ _ h=>h) (aU (bA (by rw [uF]; exact nT aD n)) aY)) (fun j hj=>?_)
  refine cK (ts (rm rfl (ro rfl (lB (Ht rfl) cV) (eX (dQ (Ht rfl) (fun hc=>?_) (fun hc=>?_))))))
  ·have hjn : j < n := a0b (of_decide_eq_true hc)
   obtain ⟨q,hq⟩:∃ q,q = n - (j + 1):=⟨_,rfl⟩
   have hqi:(n:Int) - 1 - (j:Int) = (q:Int):=by omega
   have hqr:(U.getD q []).length = n + 1:=hUs.row zo
   have hXf:cH (uF U n j) X:=by rw [hU]; exact hz.bk he j hj
   have hXl:=Ao U n j
   refine cU (cK (eK (ts (rm rfl (rm rfl (ro rfl (gJ U_26 Z_25 (Ht rfl) (Ht rfl) hqi zo (by rw [Nat.mul_one,Nat.zero_add])) ?_))))))
   refine ro rfl (kK A_25 Z_25 (Ht rfl) (j:=0) rfl zo) (rm rfl (ro rfl (mN U_25 Z_60 (Ht rfl) (Ht rfl) rfl (j:=0) rfl zo zo zo) (ro rfl (qE A_60 Z_60 (Ht rfl) (j:=0) rfl zo zo zo) (rn rfl (eG (Ts:=[Is (.bool false),Is (.slice none 0 0),Is (.bool false),Is (.slice none 0 0),Is (.slice none 0 0)]) O_60 rfl (fun V=>aW zd (aW zd (aW zd (aW zd (aW zd (aG))))))) fun B11=>?_))))
   refine gV Z_60 (Ht rfl) (Ht rfl) rfl (i:=2) rfl (aK rfl) rfl rfl (eX (cK (ts (rm rfl (ro rfl (xV (Ht rfl) cV (r:=((q + 1:Nat):Int)) ((tB (z:=(n:Int) - 1 - (j:Int) + 1) zo).trans zo)) ?_)))))
   refine ra rfl (eX (eK ?_))
   refine dB (fun (k : Nat) => k ≤ j) (fun (k : Nat) => j - k) (fun (k : Nat) => [(0, Is (.slice (some ⟨B28, 0, none⟩) n n)), (6, NT .i64 n), (9, Is B37), (10, aF .i64 ((n : Int) - 1 - (j : Int))), (11, cE B11 0), (12, NT .i64 (q + 1 + k))]) (fun (k : Nat) => [jF B28 25 60 5 vs vs (dN aD U), bE 60 5 B37 ((uF U n j).map aD), box B11 60 [aC (decide ((qL U (uF U n j) n q k).a < 0)), aL (qL U (uF U n j) n q k).a.natAbs, aC (decide ((qL U (uF U n j) n q k).b < 0)), aL (qL U (uF U n j) n q k).b.natAbs, aL (du (qL U (uF U n j) n q k))]]) 0 (Nat.zero_le _)
    (zS rfl) (aU (fun _ _ _ h=>h) (aU (fun _ _ _ h=>h) (aU (aB rfl) aY))) (fun k hk=>?_)
   refine cK (ts (rm rfl (rm rfl (ro rfl (gW (Ht rfl) (Ht rfl)) (eX (dQ (Ht rfl) (fun hf=>?_) (fun hf=>?_)))))))
   ·have hkj : k < j := by simp only [decide_eq_true_eq] at hf; omega
    haveI f1:aM (qL U (uF U n j) n q k) (G + k * (G + X + 2)):=wG hUf hXf hG1 hX1 k
    haveI f2:aM (gm U q (q + 1 + k)) G:=hUf.get hG1 _ _
    haveI f3:aM (gv (uF U n j) (q + 1 + k)) X:=hXf.get hX1 _
    have hb1:k * (G + X + 2) + (G + X + 2) ≤ n * (G + X + 2):=by rw [← Nat.succ_mul]; exact Nat.mul_le_mul_right _ zo
    refine cU (cK (eK (fW (m:=15) (dp 11 rfl (eW A_60 Z_60 (Ht rfl) (i:=2) rfl rfl rfl) (dq 58 0 rfl (bH bR (Ht rfl)) (dp 0 rfl (cX (Ht rfl)) (dp 10 rfl (cX (Ht rfl)) (dP 60 2 61 3 rfl (gJ U_26 Z_25 (Ht rfl) (Ht rfl) hqi zo (by rw [Nat.mul_one,Nat.zero_add])) ?_))))))))
    refine dq 62 4 rfl (kK A_25 Z_25 (Ht rfl) (j:=0) rfl zo) (dp 12 rfl (cX (Ht rfl)) (dP 63 5 64 6 rfl (mN U_25 Z_60 (Ht rfl) (Ht rfl) rfl (j:=0) rfl zo zo zo) (dq 65 7 rfl (qE A_60 Z_60 (Ht rfl) (j:=0) rfl zo zo zo) (dq 66 8 rfl (bH bR (Ht rfl)) (dp 9 rfl (cX (Ht rfl)) (dp 12 rfl (cX (Ht rfl)) (dP 68 10 69 11 rfl (cC U_25 Z_60 (Ht rfl) (Ht rfl) rfl (i:=1) rfl (by rw [List.length_map]; omega) rfl) ?_)))))))
    refine dq 70 12 rfl (nD A_60 Z_60 (Ht rfl) (i:=1) rfl rfl (dY (dU (d:=Qi.zero) zo))) (dP 67 9 71 13 rfl (bD dC K_70 (kQ (x:=gm U q (q + 1 + k)) (y:=gv (uF U n j) (q + 1 + k)) (L:=G) (M:=X) zo) (Ht rfl) ⟨(Ht rfl),trivial⟩) (fK bC rfl (by kernel_rfl) (zF (zF (zF (aJ (aJ (aJ (aV (ro rfl (bD kS K_69 (wY (x:=(qL U (uF U n j) n q k)) (y:=gm U q (q + 1 + k) * gv (uF U n j) (q + 1 + k)) (L:=G + k * (G + X + 2)) (M:=G + X + 1) zo) (Ht rfl) ⟨(Ht rfl),trivial⟩) ?_))))))))))
    refine gV Z_60 (Ht rfl) (Ht rfl) rfl (i:=2) rfl (aK rfl) rfl rfl (eX (bI (cY (rm rfl (ro rfl (dV (Ht rfl) (cJ 1) z6) (ra rfl (eX (gZ (k + 1) hkj zo (zS rfl) (aU (fun _ _ _ h=>h) (aU (fun _ _ _ h=>h) (aU (aB rfl) aY)))))))))))
   ·obtain rfl : k = j := Nat.le_antisymm hk (by simp only [decide_eq_false_iff_not] at hf; omega)
    haveI f1:aM (qL U (uF U n k) n q k) (G + k * (G + X + 2)):=wG hUf hXf hG1 hX1 k
    haveI f2:aM (gm U q q) G:=hUf.get hG1 _ _
    have hb3:k * (G + X + 2) ≤ n * (G + X + 2):=Nat.mul_le_mul_right _ zo
    refine gU rfl (Y.D_start (m:=17) [(16,1,bE 60 5 B37 (((uF U n k).map aD).set q (aD ((qL U (uF U n k) n q k) / gm U q q))))] (Y.D_step (Ei:=[(9,_)]) rfl rfl (bQ (bJ rfl rfl) bX) rfl rfl (by kernel_rfl) (dX rfl (cX (Ht rfl))) (Y.D_step (Ei:=[(10,_)]) rfl rfl (bQ (bJ rfl rfl) bX) rfl rfl (by kernel_rfl) (dX rfl (cX (Ht rfl))) (Y.D_step (Ei:=[(11,_)]) rfl rfl (bQ (bJ rfl rfl) bX) rfl rfl (by kernel_rfl) (dX rfl (eW A_60 Z_60 (Ht rfl) (i:=2) rfl rfl rfl)) ?_))))
    refine Y.D_step (Ei:=[(77,_)]) rfl rfl (bQ (bZ 2 rfl rfl) bX) rfl rfl (by kernel_rfl) (dX rfl (bH bR (Ht rfl))) (Y.D_step (Ei:=[(0,_)]) rfl rfl (bQ (bJ rfl rfl) bX) rfl rfl (by kernel_rfl) (dX rfl (cX (Ht rfl))) (Y.D_step (Ei:=[(10,_)]) rfl rfl (bQ (bJ rfl rfl) bX) rfl rfl (by kernel_rfl) (dX rfl (cX (Ht rfl))) (Y.D_step (Ei:=[(79,_),(80,_)]) rfl rfl (bQ (bZ 4 rfl rfl) (bQ (bZ 5 rfl rfl) bX)) rfl rfl (by kernel_rfl) (dX rfl (gJ U_26 Z_25 (Ht rfl) (Ht rfl) hqi zo (by rw [Nat.mul_one,Nat.zero_add]))) ?_)))
    refine Y.D_step (Ei:=[(81,_)]) rfl rfl (bQ (bZ 6 rfl rfl) bX) rfl rfl (by kernel_rfl) (dX rfl (kK A_25 Z_25 (Ht rfl) (j:=0) rfl zo)) (Y.D_step (Ei:=[(10,_)]) rfl rfl (bQ (bJ rfl rfl) bX) rfl rfl (by kernel_rfl) (dX rfl (cX (Ht rfl))) (Y.D_step (Ei:=[(82,_),(83,_)]) rfl rfl (bQ (bZ 7 rfl rfl) (bQ (bZ 8 rfl rfl) bX)) rfl rfl (by kernel_rfl) (dX rfl (mN U_25 Z_60 (Ht rfl) (Ht rfl) hqi (j:=0) rfl zo zo zo)) ?_))
    refine Y.D_step (Ei:=[(84,_)]) rfl rfl (bQ (bZ 9 rfl rfl) bX) rfl rfl (by kernel_rfl) (dX rfl (qE A_60 Z_60 (Ht rfl) (j:=0) rfl zo zo zo)) (Y.D_step (Ei:=[(78,_),(85,_)]) rfl rfl (bQ (bZ 3 rfl rfl) (bQ (bZ 10 rfl rfl) bX)) rfl rfl (by kernel_rfl) (dX rfl (bD jN K_64 (sC (x:=(qL U (uF U n k) n q k)) (y:=gm U q q) (L:=G + k * (G + X + 2)) (M:=G) zo) (Ht rfl) ⟨(Ht rfl),trivial⟩)) (Y.D_step (Ei:=[(86,_)]) rfl rfl (bQ (bZ 11 rfl rfl) bX) rfl rfl (by kernel_rfl) (dX rfl (cX (Ht rfl))) ?_))
    refine Y.D_step (Ei:=[(74,_)]) rfl rfl (bQ (bZ 12 rfl rfl) bX) rfl rfl (by kernel_rfl) (dX rfl (dK (Ht rfl) rfl)) (bY (Ei:=[(74,_)]) rfl rfl (bQ (bZ 12 rfl rfl) bX) rfl rfl (dX rfl (dK (Ht rfl) rfl)) (Y.D_step (Ei:=[(75,_),(76,_)]) rfl rfl (bQ (bZ 0 rfl rfl) (bQ (bZ 1 rfl rfl) bX)) rfl rfl (by kernel_rfl) (dX rfl (cC U_25 Z_60 (Ht rfl) (Ht rfl) hqi (i:=1) rfl (by rw [List.length_map]; omega) rfl)) ?_))
    refine Y.D_putI (Ei:=[(89,_),(87,_)]) 1 rfl rfl rfl (bQ (bZ 15 rfl rfl) (bQ (bZ 13 rfl rfl) bX)) (.head _) rfl (Cm Z_60 (Ht rfl) (Ht rfl) (El.ag rfl) (i:=0) rfl rfl (by rw [List.length_map]; omega)) ?_
    refine Y.D_done bC rfl (by kernel_rfl) rfl (by simp [Y.okP]) rfl rfl (bU (bU (bU (bU (bU (bU (bU (bU (bU (bU (bU (bU (bU (bU (bU (bU (Y.F_putI (Y.F_nil ?_))))))))))))))))))
    refine eX (bI (cY (rm rfl (ro rfl (gI (Ht rfl) cV (tB zo)) (ra rfl (eX (bO [0,1] rfl (by decide) (gZ (k + 1) hjn zo (aQ rfl (aQ rfl (aQ rfl (aZ rfl (aT zo) aX)))) (aU (fun _ _ _ h=>h) (aU (bA (by rw [fB,uF,← hq])) aY))))))))))
  ·obtain rfl : j = n := Nat.le_antisymm hj (a0c (by have h := of_decide_eq_false hc; omega))
   refine gK (i:=1) (tt:=9) rfl rfl eN (gU rfl (ts (rm rfl (ra rfl (ro rfl (cQ (cJ 0)) (eX (bN rfl (fV (eY rfl) ?_) (fV (eY rfl) ?_))))))))
   ·exact (iQ (by rw [he,yG,← hU]; rfl))
   ·exact (aT he.symm)
end
section
open Go Go.RowKit
theorem Kf {M:List (List Qi)} {n m:Nat} (hM:iF M n m) (hn:n ≤ 1000) (hm:m ≤ 1000):gP Tryz.prog 195 [eE M,Is (.slice none 0 0)] [] Nat (fun B=>Is (.slice (some ⟨B,0,none⟩) n n)) (fun B=>[pD B 25 60 5 (dN aD M)]) (fun _=>True):=by
 have h:=zI (M:=M) (bs:=[]) hM (fun b hb=>by cases hb) hn hm (by simp)
 rw [Kq hM] at h
 exact h.arg Mp
theorem Xt {M:List (List Qi)} {n G X:Nat} (hM:iF M n n) (hz:∀ i,i < n → SzS M (ek n i) n G X) (hn:n ≤ 32):bB Tryz.prog 224 [eE M] (dM [eE (kX (Bl M n) (Yu M n)),aF .i64 (Bl M n)]):=by
 have hMl:=hM.1
 refine bB.intro Tryz.func224 rfl Tryz.ntmps224 rfl (fun cx=>(ts (ro rfl (cQ cV) (ro rfl (cQ (cJ 0)) (eX (cK (ts (rm rfl (ro rfl (cZ Tryz.call172 (Kl hM hn) ⟨(Ht rfl),trivial⟩) (ro rfl (fO (Ht rfl)) (eX (fR (Ht rfl) (by rfl) ?_))))))))))))
 refine cU (ts (rm rfl (oR Tryz.call195 (Kf hM zo zo) ⟨(Ht rfl),cV,trivial⟩ rfl (fun B14 _=>(ra rfl (eX (cK (ts (rm rfl (ro rfl (dG U_26 (Ht rfl) (by rw [List.length_map,hMl])) ?_))))))))))
 refine ro rfl (cZ Tryz.call144 (a0e (n:=n) hn) ⟨(Ht rfl),trivial⟩) (ro rfl (dG U_26 (Ht rfl) aA) (ro rfl (cX (cJ 0)) (eX (eK ?_))))
 refine dB (fun (k : Nat) => k ≤ n ∧ ∀ i, i < k → rF M (ek n i) n = 0) (fun (k : Nat) => n - k) (fun (k : Nat) => [(0, eE M), (4, Is (.slice (some ⟨B14, 0, none⟩) n n)), (17, eE (Ma n)), (18, NT .i64 n), (19, NT .i64 k)]) (fun (k : Nat) => [pD B14 25 60 5 (dN aD (pZ M n k 0))]) 0 ⟨Nat.zero_le _, fun i h => by omega⟩
  (aQ rfl (aQ rfl (aQ rfl (aZ rfl (kT (sM n).1) (zS rfl))))) (aU (gC (congrArg _ (Ld hM))) aY) (fun k ⟨hk,h0⟩=>?_)
 refine ts (ro rfl (gW (Ht rfl) (Ht rfl)) (eX (cK (dQ (Ht rfl) (fun hd0=>?_) (fun hd0=>?_)))))
 ·simp only [decide_eq_true_eq] at hd0
  have hel:=Yk hd0
  refine cU (cK (eK (ts (rm rfl (ro rfl (dZ U_26 Z_25 (Ht rfl) (Ht rfl) rfl (dY (dU (d:=[]) (by rw [(sM n).1]; exact hd0)))) ?_)))))
  refine ro rfl (dJ A_25 Z_25 (Ht rfl)) (ra rfl (ra rfl (eX (ts (rm rfl (rm rfl (ro rfl (cZ Tryz.call126 (Ng (M:=M) (b:=ek n k) (n:=n) (G:=G) (X:=X) hM hel (hz k hd0) zo hn) ⟨(Ht rfl),(Ht rfl),trivial⟩) (rm rfl (ro rfl (dK (Ht rfl) rfl) (ro rfl (dK (Ht rfl) rfl) (ra rfl (ra rfl (eX (cK (ts (rm rfl (ro rfl (gY (Ht rfl) cV) (eX (dQ (Ht rfl) (fun he=>?_) (fun he=>?_))))))))))))))))))))
  ·have he2 : ¬ rF M (ek n k) n = 0 := by simpa using he
   have hi:=Tn h0 hd0 he2
   refine ts (rm rfl (ro rfl (cQ cV) (ra rfl (eX (bN rfl (fV (eY rfl) ?_) (fV (eY rfl) ?_))))))
   ·exact (fun v V h=>by rw [hi,kX,if_neg he2]; exact iO v V h)
   ·exact (aT hi.symm)
  ·have he2 : rF M (ek n k) n = 0 := by simpa using he
   have hxl:(yG M (ek n k) n).length = n:=Ao _ _ _
   refine wT (E':=[(0,_),(4,_),(5,_),(7,_),(17,_),(18,_),(19,_)]) (aQ rfl (aQ rfl (aQ rfl (aZ rfl (iQ (Us:=(yG M (ek n k) n).map aD) (by rw [he2]; rfl)) (zS rfl))))) ?_
   refine cU (ts (rm rfl (ro rfl (dG U_25 (Ht rfl) aA) (ro rfl (cX (cJ 0)) (eX (eK ?_))))))
   refine dB (fun (i : Nat) => i ≤ n) (fun (i : Nat) => n - i) (fun (i : Nat) => [(0, eE M), (4, Is (.slice (some ⟨B14, 0, none⟩) n n)), (5, NT .i64 k), (7, bL (yG M (ek n k) n)), (17, eE (Ma n)), (18, NT .i64 n), (19, NT .i64 k), (34, NT .i64 n), (35, NT .i64 i)]) (fun (i : Nat) => [pD B14 25 60 5 (dN aD (pZ M n k i))]) 0 (Nat.zero_le _)
    (aQ rfl (aQ rfl (aQ rfl (aQ rfl (aQ rfl (aQ rfl (aQ rfl (aZ rfl (kT hxl) (zS rfl))))))))) (cT.refl _) (fun i hi=>?_)
   refine ts (ro rfl (gW (Ht rfl) (Ht rfl)) (eX (cK (dQ (Ht rfl) (fun hf2=>?_) (fun hf2=>?_)))))
   ·simp only [decide_eq_true_eq] at hf2
    have hpl:=(oM M n k i).1
    have hpr:((pZ M n k i).getD i []).length = n:=(oM M n k i).row hf2
    refine qO 0 (i) rfl (lZ zo) (fun v=>(cU (cK (eK (ts (rm rfl (ra rfl (eX (fW (m:=9) (dp 4 rfl (cX (Ht rfl)) (dp 9 rfl (cX (Ht rfl)) (dP 38 0 39 1 rfl (gJ U_26 Z_25 (Ht rfl) (Ht rfl) rfl zo (by rw [Nat.mul_one,Nat.zero_add])) ?_))))))))))))
    refine dq 40 2 rfl (nY A_25 Z_25 (Ht rfl) (j:=0) rfl) (dp 5 rfl (cX (Ht rfl)) (dp 7 rfl (cX (Ht rfl)) (dp 9 rfl (cX (Ht rfl)) (dP 43 5 44 6 rfl (dZ U_25 Z_60 (Ht rfl) (Ht rfl) rfl (dY (dU (d:=Qi.zero) zo))) (dq 45 7 rfl (dJ A_60 Z_60 (Ht rfl)) (fK bC rfl (by kernel_rfl) (zF (zF (aJ (aV (ro rfl (cC U_25 Z_60 (Ht rfl) (Ht rfl) rfl (i:=1) rfl (by rw [List.length_map]; omega) rfl) ?_)))))))))))
    refine jY Z_60 (Ht rfl) (Ht rfl) (El.ag rfl) (i:=1) rfl rfl (by rw [List.length_map]; omega) rfl ?_
    refine eX (bI (lJ 0 1 rfl rfl (by decide) (by simp only [dN,List.length_map]; omega) ?_))
    refine cY (ro rfl (dV (Ht rfl) (cJ 1) z6) (rm rfl (eX (bO [0] rfl (by decide) (gZ (i + 1) hf2 zo (zS rfl) (aU (gC (by rw [fB,mD,Lc hf2 hd0])) aY))))))
   ·simp only [decide_eq_false_iff_not] at hf2
    obtain rfl:n = i:=Nat.le_antisymm zo hi
    refine gU rfl (bI (cY (ro rfl (dV (Ht rfl) (cJ 1) z6) (rm rfl (eX ?_)))))
    refine gZ (k + 1) ⟨hd0, fun j h => by
     by_cases e:j = k
     ·rw [e]; exact he2
     ·exact h0 j zo⟩ zo (zS rfl) (aU (gC (by rw [Oy])) aY)
 ·simp only [decide_eq_false_iff_not] at hd0
  obtain rfl:n = k:=Nat.le_antisymm zo hk
  have hi:=Lb h0
  refine gK (i:=0) (tt:=4) rfl rfl (sK (s:=5) (M:=pZ M n n 0) (oM M n n 0).1.symm) (gU rfl (ts (rm rfl (ra rfl (ro rfl (cQ (cJ 0)) (eX (bN rfl (fV (eY rfl) ?_) (fV (eY rfl) ?_))))))))
  ·exact (iQ (by rw [hi,Oz]; rfl))
  ·exact (aT hi.symm)
theorem a0g {M:List (List Qi)} {n L:Nat} (hM:iF M n n) (hf:cF M L) (hL:1 ≤ L) (h1:1 ≤ n) (hn:n ≤ 32) (hg:6 * nB L n + 4 ≤ 17592186044415) (hx:Fh (nB L n) (n + 1) ≤ 17592186044415):bB Tryz.prog 224 [eE M] (dM [eE (kX (Bl M n) (Yu M n)),aF .i64 (Bl M n)]):=Xt hM (fun i _=>SzS.old hM hf (Yj hL) hL hg hx) hn
theorem Yc {m:Bool} {a b:List (List Qi)} {n i j L M:Nat} (ha:iF a n n) (hb:iF b n n) (hfa:cF a L) (hfb:cF b M) (h1:1 ≤ L) (h2:1 ≤ M) (hg:L + M + 1 ≤ 17592186044415) (hi:i < n) (hj:j < n):bB Tryz.prog 258 [NT .i64 i,NT .i64 j,PT (aC m),PT (eE a),PT (eE b)] (aD (if m = true then gm a i j - gm b i j else gm a i j + gm b i j)):=by
 have hal:=ha.1
 have hbl:=hb.1
 have har:=ha.row hi
 have hbr:=hb.row hi
 haveI f1:aM (gm a i j) L:=hfa.get h1 i j
 haveI f2:aM (gm b i j) M:=hfb.get h2 i j
 refine bB.intro Tryz.func258 rfl Tryz.ntmps258 rfl (fun cx=>(ts (rn rfl (eG (Ts:=[Is (.bool false),Is (.slice none 0 0),Is (.bool false),Is (.slice none 0 0),Is (.slice none 0 0)]) O_60 rfl (fun V=>aW zd (aW zd (aW zd (aW zd (aW zd (aG))))))) fun B7=>(eX (cK (ts (ro rfl (dJ A_4 Z_4 (Ht rfl)) (eX (dQ (Ht rfl) (fun hm=>?_) (fun hm=>?_))))))))))
 ·refine cK (fW (m := 15) (dp 3 rfl (dJ A_26 Z_26 (Ht rfl)) (dp 0 rfl (cX (Ht rfl)) (dP 9 0 10 1 rfl (dZ U_26 Z_25 (Ht rfl) (Ht rfl) rfl (dY (dU (d := []) zo))) (dq 11 2 rfl (dJ A_25 Z_25 (Ht rfl)) (dp 1 rfl (cX (Ht rfl)) (dP 12 3 13 4 rfl (dZ U_25 Z_60 (Ht rfl) (Ht rfl) rfl (dY (dU (d := Qi.zero) zo))) (dq 14 5 rfl (dJ A_60 Z_60 (Ht rfl)) (dq 15 6 rfl (bH bR (Ht rfl)) (dp 4 rfl (dJ A_26 Z_26 (Ht rfl)) ?_))))))))))
  refine dp 0 rfl (cX (Ht rfl)) (dP 17 8 18 9 rfl (dZ U_26 Z_25 (Ht rfl) (Ht rfl) rfl (dY (dU (d:=[]) zo))) (dq 19 10 rfl (dJ A_25 Z_25 (Ht rfl)) (dp 1 rfl (cX (Ht rfl)) (dP 20 11 21 12 rfl (dZ U_25 Z_60 (Ht rfl) (Ht rfl) rfl (dY (dU (d:=Qi.zero) zo))) (dq 22 13 rfl (dJ A_60 Z_60 (Ht rfl)) (fK bC rfl (by kernel_rfl) (zF (zF (zF (aJ (aJ (aJ (aV ?_)))))))))))))
  refine ro rfl (bD kS K_69 (wY (x:=gm a i j) (y:=gm b i j) (L:=L) (M:=M) hg) (Ht rfl) ⟨(Ht rfl),trivial⟩) (gV Z_60 (Ht rfl) (Ht rfl) rfl (i:=0) rfl (aK rfl) rfl rfl (eX (fU rfl (fV (gX A_60 Z_60 rfl (i:=0) rfl rfl) ?_))))
  exact (iX (by rw [if_pos hm]))
 ·refine cU (cK (fW (m := 15) (dp 3 rfl (dJ A_26 Z_26 (Ht rfl)) (dp 0 rfl (cX (Ht rfl)) (dP 25 0 26 1 rfl (dZ U_26 Z_25 (Ht rfl) (Ht rfl) rfl (dY (dU (d := []) zo))) (dq 27 2 rfl (dJ A_25 Z_25 (Ht rfl)) (dp 1 rfl (cX (Ht rfl)) (dP 28 3 29 4 rfl (dZ U_25 Z_60 (Ht rfl) (Ht rfl) rfl (dY (dU (d := Qi.zero) zo))) (dq 30 5 rfl (dJ A_60 Z_60 (Ht rfl)) (dq 31 6 rfl (bH bR (Ht rfl)) (dp 4 rfl (dJ A_26 Z_26 (Ht rfl)) ?_)))))))))))
  refine dp 0 rfl (cX (Ht rfl)) (dP 33 8 34 9 rfl (dZ U_26 Z_25 (Ht rfl) (Ht rfl) rfl (dY (dU (d:=[]) zo))) (dq 35 10 rfl (dJ A_25 Z_25 (Ht rfl)) (dp 1 rfl (cX (Ht rfl)) (dP 36 11 37 12 rfl (dZ U_25 Z_60 (Ht rfl) (Ht rfl) rfl (dY (dU (d:=Qi.zero) zo))) (dq 38 13 rfl (dJ A_60 Z_60 (Ht rfl)) (fK bC rfl (by kernel_rfl) (zF (zF (zF (aJ (aJ (aJ (aV ?_)))))))))))))
  refine ro rfl (bD mA K_71 (wW (x:=gm a i j) (y:=gm b i j) (L:=L) (M:=M) hg) (Ht rfl) ⟨(Ht rfl),trivial⟩) (gV Z_60 (Ht rfl) (Ht rfl) rfl (i:=0) rfl (aK rfl) rfl rfl (eX (fU rfl (fV (gX A_60 Z_60 rfl (i:=0) rfl rfl) ?_))))
  exact (iX (by rw [if_neg (by rw [hm]; decide)]))
theorem Wl {m:Bool} {a b:List (List Qi)} {n L M:Nat} (ha:iF a n n) (hb:iF b n n) (hfa:cF a L) (hfb:cF b M) (h1:1 ≤ L) (h2:1 ≤ M) (hg:L + M + 1 ≤ 17592186044415) (hn:n ≤ 1000):bB Tryz.prog 212 [eE a,eE b,aC m] (eE (pmM m a b n)):=by
 have hal:=ha.1
 refine bB.intro Tryz.func212 rfl Tryz.ntmps212 rfl (fun cx=>(ts (rn rfl (oN (Ht rfl)) fun B3=>(rn rfl (oN (Ht rfl)) fun B4=>(rn rfl (oN (Ht rfl)) fun B5=>(ro rfl (cQ cV) (eX (cK (gK (i:=0) (tt:=3) rfl rfl kG (gK (i:=1) (tt:=4) rfl rfl kG (gK (i:=2) (tt:=5) rfl rfl kG (cY (ro rfl (dJ A_26 Z_26 (Ht rfl)) (ro rfl (dG U_26 (Ht rfl) (by rw [List.length_map,hal])) ?_))))))))))))))
 refine ro rfl (qY (γ:=Fin n × Fin n) (Ts:=fun x=>[NT .i64 x.1.1,NT .i64 x.2.1]) (U:=fun x=>aD (if m = true then gm a x.1.1 x.2.1 - gm b x.1.1 x.2.1 else gm a x.1.1 x.2.1 + gm b x.1.1 x.2.1)) Tryz.call258 (fun x=>Yc ha hb hfa hfb h1 h2 hg x.1.2 x.2.2) ⟨(Ht rfl),(Ht rfl),(Ht rfl),trivial⟩) (ro rfl (cZ Tryz.call110 (Ge (n:=n) (f:=fun i j=>if m = true then gm a i j - gm b i j else gm a i j + gm b i j) hn) ⟨(Ht rfl),(Ht rfl),trivial⟩) (ra rfl (eX ?_)))
 exact fU rfl (eY rfl)
theorem Sk {Y M:List (List Qi)} {n L:Nat} (hM:iF M n n) (hf:cF M L) (hL:1 ≤ L) (h1:1 ≤ n) (hn:n ≤ 32) (hg:6 * nB L n + 4 ≤ 17592186044415) (hx:Fh (nB L n) (n + 1) ≤ 17592186044415) (hE:Bl M n ≠ 0):bB Tryz.prog 132 [eE Y,eE M] (dM [eE [],aF .i64 5]):=by
 refine bB.intro Tryz.func132 rfl Tryz.ntmps132 rfl (fun cx=>(ts (ro rfl (cQ cV) (ro rfl (cQ (cJ 0)) (eX (ts (rm rfl (ro rfl (cZ Tryz.call224 (a0g hM hf hL h1 hn hg hx) ⟨(Ht rfl),trivial⟩) (rm rfl (ro rfl (dK (Ht rfl) rfl) (ro rfl (dK (Ht rfl) rfl) (ra rfl (ra rfl (eX (cK (ts (rm rfl (ro rfl (gY (Ht rfl) cV) (eX (mI (Ht rfl) (by simp [hE]) ?_))))))))))))))))))))
 refine ts (ro rfl (cQ cV) (ro rfl (cQ (cJ 5)) (eX (bN rfl (fV (eY rfl) ?_) (eY rfl)))))
 exact (fun v V h=>iO v V h)
theorem Xs {z:List Qi} {s:List (List Qi)} {L:Nat} (hs:iF s z.length z.length) (hf:cF s L) (hL:1 ≤ L) (h1:1 ≤ z.length) (hn:z.length ≤ 8) (hg:6 * nB (L + 2) z.length + 4 ≤ 17592186044415) (hx:Fh (nB (L + 2) z.length) (z.length + 1) ≤ 17592186044415) (hE:Bl (pmM true (Ma z.length) s z.length) z.length ≠ 0):bB Tryz.prog 114 [dT z s] (dM [eE [],aF .i64 5]):=by
 have hgl:=sL (L + 2) z.length
 have hid:=sM z.length
 have hif:cF (Ma z.length) 1:=Iw (Nat.le_refl 1)
 have hpf:cF (pmM true (Ma z.length) s z.length) (L + 2):=by have h:=Uy (m:=true) (n:=z.length) hif hf (Nat.le_refl 1) hL; rw [show L + 2 = 1 + L + 1 by omega]; exact h
 refine bB.intro Tryz.func114 rfl Tryz.ntmps114 rfl (fun cx=>(ts (rn rfl (gQ (Ht rfl)) fun B1=>(ro rfl (cQ cV) (ro rfl (cQ (cJ 0)) (eX (ts (ro rfl (eJ iG (Ht rfl) rfl) (ro rfl (fQ A_25 Z_25 (Ht rfl) (i:=0) rfl rfl) (ro rfl (dG U_25 (Ht rfl) aA) (ro rfl (cZ Tryz.call144 (a0e (n:=z.length) zo) ⟨(Ht rfl),trivial⟩) (ra rfl (eX (cK (fW (m:=13) (dp 4 rfl (cX (Ht rfl)) (dp 1 rfl (eJ eT (Ht rfl) rfl) (dq 13 1 rfl (fQ A_26 Z_26 (Ht rfl) (i:=0) rfl rfl) ?_))))))))))))))))))
 refine dP 12 0 14 2 rfl (cZ Tryz.call212 (Wl (m:=false) (n:=z.length) (L:=1) (M:=L) hid hs hif hf (Nat.le_refl 1) hL zo zo) ⟨(Ht rfl),(Ht rfl),cV,trivial⟩) (dp 4 rfl (cX (Ht rfl)) (dp 1 rfl (eJ eT (Ht rfl) rfl) (dq 17 5 rfl (fQ A_26 Z_26 (Ht rfl) (i:=0) rfl rfl) (dP 16 4 18 6 rfl (cZ Tryz.call212 (Wl (m:=true) (n:=z.length) (L:=1) (M:=L) hid hs hif hf (Nat.le_refl 1) hL zo zo) ⟨(Ht rfl),(Ht rfl),cV,trivial⟩) (dP 15 3 19 7 rfl (cZ Tryz.call132 (Sk (n:=z.length) (L:=L + 2) Uz hpf zo h1 zo hg hx hE) ⟨(Ht rfl),(Ht rfl),trivial⟩) ?_)))))
 refine dq 20 8 rfl (cX (Ht rfl)) (dq 11 9 rfl (dK (Ht rfl) rfl) (dq 11 9 rfl (dK (Ht rfl) rfl) (dq 21 10 rfl (cQ (Ht rfl)) (fK bC rfl (by kernel_rfl) (zF (zF (zF (aJ (aV (ra rfl (eX (cK (ts (rm rfl (ro rfl (gY (Ht rfl) cV) (eX (mI (Ht rfl) (by rfl) ?_)))))))))))))))))
 refine ts (rm rfl (ro rfl (cQ cV) (ra rfl (eX (bN rfl (fV (eY rfl) ?_) (eY rfl))))))
 exact (fun v V h=>iO v V h)
end
section
open Go Go.RowKit
theorem Yt:Tryz.prog.info? 3 = some Tryz.t3:=by kernel_rfl
theorem Vr:Tryz.prog.underlying 103 = some (.slice 3):=by kernel_rfl
end
section
open Go Go.RowKit
theorem Fy {l:List Int} {v:Int} (hl:l.length ≤ 1000000):bB Tryz.prog 230 [jK 1 (l.map (aF .i64)),aF .i64 v] (aF .i64 (Bj (fun x=>decide (v = x)) l)):=by
 refine bB.intro Tryz.func230 rfl Tryz.ntmps230 rfl (fun cx=>(ts (ro rfl (cQ (cJ 0)) (eX (cK (ts (rm rfl (ro rfl (dG U_103 (Ht rfl) aA) (ro rfl (cX (cJ 0)) (eX (eK ?_)))))))))))
 refine dB (fun (k : Nat) => k ≤ l.length ∧ ∀ (i : Nat) (x : Int), i < k → l[i]? = some x → decide (v = x) = false) (fun (k : Nat) => l.length - k) (fun (k : Nat) => [(0, jK 1 (l.map (aF .i64))), (1, aF .i64 v), (7, NT .i64 l.length), (8, NT .i64 k)]) (fun (k : Nat) => []) 0 ⟨Nat.zero_le _, fun i x h => by omega⟩
  (zS rfl) aY (fun k ⟨hk,hn⟩=>?_)
 refine ts (ro rfl (gW (Ht rfl) (Ht rfl)) (eX (cK (dQ (Ht rfl) (fun hb=>?_) (fun hb=>?_)))))
 ·simp only [decide_eq_true_eq] at hb
  refine cU (cK (eK (ts (rm rfl (ra rfl (eX (ts (rm rfl (rm rfl (rm rfl (ro rfl (dZ U_103 Z_3 (Ht rfl) (Ht rfl) rfl (dY (pK hb))) (ro rfl (dJ A_3 Z_3 (Ht rfl)) (ro rfl (iY (Ht rfl) (Ht rfl)) (eX (dQ (Ht rfl) (fun hc=>?_) (fun hc=>?_))))))))))))))))
  ·refine ts (rm rfl (ra rfl (eX (fU rfl (fV (eY rfl) ?_)))))
   exact (aT (Bk (p:=fun x=>decide (v = x)) (pK hb) hc hn).symm)
  ·refine cU (bI (cY (ro rfl (dV (Ht rfl) (cJ 1) z6) (rm rfl (eX ?_)))))
   refine gZ (k + 1) ⟨hb, fun i x h1 h2 => by
    by_cases e:i = k
    ·subst e; rw [pK hb] at h2; obtain rfl:=Option.some.inj h2; exact hc
    ·exact hn i x zo h2⟩ zo (zS rfl) aY
 ·simp only [decide_eq_false_iff_not] at hb
  refine gU rfl (ts (ro rfl (cQ cV) (eX (fU rfl (fV (eY rfl) ?_)))))
  exact (aT (tR (p:=fun x=>decide (v = x)) (fun i x h=>hn i x (by have:=(List.getElem?_eq_some_iff.1 h).1; omega) h)).symm)
theorem yV {l:List Int} {v:Int} (hl:l.length ≤ 1000000):bB Tryz.prog 145 [jK 1 (l.map (aF .i64)),aF .i64 v] (aC (l.any fun x=>decide (v = x))):=by
 refine bB.intro Tryz.func145 rfl Tryz.ntmps145 rfl (fun cx=>(ts (ro rfl (cQ cV) (eX (ts (rm rfl (rm rfl (ro rfl (cZ Tryz.call230 (Fy zo) ⟨(Ht rfl),(Ht rfl),trivial⟩) (ro rfl (lB (Ht rfl) cV) (ra rfl (eX (fU rfl (fV (eY rfl) ?_)))))))))))))
 exact (fT (xQ _ l))
theorem Ie {z:List Qi} {s:List (List Qi)} {G:List Nat} (hl:z.length ≤ 1000) (hG:G.length ≤ 1000):bB Tryz.prog 124 [dT z s,jK 1 ((gnI G).map (aF .i64))] (mG ((pN G z.length).map Nat.succ)):=by
 refine bB.intro Tryz.func124 rfl Tryz.ntmps124 rfl (fun cx=>(ts (rn rfl (gQ (Ht rfl)) fun B2=>(ro rfl (cQ cV) (eX (ts (ro rfl (cQ cV) (eX (cK (ts (ro rfl (cQ (cJ 1)) (eX (eK (uD 3 1 ?_))))))))))))))
 refine gR (fun (i : Nat) (v : Value) => i ≤ z.length) (fun (i : Nat) (v : Value) => z.length - i) (fun (i : Nat) (v : Value) => [(1, jK 1 ((gnI G).map (aF .i64))), (2, cE B2 0), (5, Is v), (6, NT .i64 (i + 1))]) (fun (i : Nat) (v : Value) => [box B2 28 [bL z, eE s], bE 3 1 v (((pN G i).map Nat.succ).map (NT .i64))]) 0 (.slice none 0 0) (Nat.zero_le _)
  (zS rfl) (aU (aB rfl) (aU (bA rfl) aY)) (fun i v hi=>?_)
 refine cK (ts (rm rfl (ro rfl (eJ iG (Ht rfl) rfl) (ro rfl (fQ A_25 Z_25 (Ht rfl) (i:=0) rfl rfl) (ro rfl (dG U_25 (Ht rfl) aA) (ro rfl (wC (Ht rfl) (Ht rfl)) (eX (dQ (Ht rfl) (fun hd=>?_) (fun hd=>?_)))))))))
 ·simp only [decide_eq_true_eq] at hd
  have hcl:=Ja G i
  refine cU (cK (eK (iT (fun (v2:Value)=>True) (fun (v2:Value)=>[(1,jK 1 ((gnI G).map (aF .i64))),(2,cE B2 0),(5,Is v2),(6,NT .i64 (i + 1))]) (fun (v2:Value)=>[box B2 28 [bL z,eE s],bE 3 1 v2 (((pN G (i + 1)).map Nat.succ).map (NT .i64))]) ?_ (fun v2 _=>?_))))
  ·refine ts (rm rfl (rm rfl (ro rfl (cZ Tryz.call145 (yV (l := gnI G) (v := ((i + 1 : Nat) : Int)) (by rw [List.length_map]; omega)) ⟨(Ht rfl), (Ht rfl), trivial⟩) ?_)))
   refine ro rfl (fO (Ht rfl)) (eX (dQ (Ht rfl) (fun he=>?_) (fun he=>?_)))
   ·rw [Ot] at he
    have he2:i ∉ G:=by simpa using he
    have hnx:pN G (i + 1) = pN G i ++ [i]:=by rw [pN,if_neg he2]
    refine cY (rm rfl (rm rfl (ro rfl (eM (xs:=[.tmp 19]) U_103 Z_3 O_3 (cW (Ht rfl) cG) rfl rfl rfl) (rZ (inf:=Tryz.t3) Vr Yt rfl rfl rfl (Ht rfl) (Ht rfl) (i:=1) rfl (by simp) (fun T hT=>by simp at hT; subst hT; exact El.one) (by show _ * 8 ≤ _; simp only [List.length_map,List.length_cons,List.length_nil]; omega) (by simp only [List.length_map,List.length_cons,List.length_nil]; omega) rfl (fun v3=>?_)))))
    refine ra rfl (eX (aP v3 trivial (zS rfl) (aU (aB rfl) (aU (bA (by rw [hnx,List.map_append,List.map_append]; rfl)) aY))))
   ·rw [Ot] at he
    have he2:i ∈ G:=by simpa using he
    have hnx:pN G (i + 1) = pN G i:=by rw [pN,if_pos he2,List.append_nil]
    refine cU (aP v trivial (zS rfl) (aU (aB rfl) (aU (bA (by rw [hnx])) aY)))
  ·refine bI (cY (rm rfl (ro rfl (dV (Ht rfl) (cJ 1) z6) (ra rfl (eX (gZ (i + 1,v2) hd (by dsimp only; omega) (zS rfl) (cT.refl _)))))))
 ·simp only [decide_eq_false_iff_not] at hd
  obtain rfl:z.length = i:=Nat.le_antisymm zo hi
  refine gU rfl (gK (i:=1) (tt:=5) rfl rfl eN (ts (rm rfl (ra rfl (eX ?_)))))
  exact fU rfl (eY rfl)
theorem Xx {z:List Qi} {s:List (List Qi)} {p:Nat} (hp:p < z.length) (hl:z.length ≤ 1000):bB Tryz.prog 124 [dT z s,jK 1 [aF .i64 ((p:Int) + 1)]] (mG (xR p (z.length - 1))):=by
 rw [← Tt hp]; exact Ie (G:=[p]) hl (by simp)
theorem If {z:List Qi} {s:List (List Qi)} {Q:List Nat} {m:Nat} (hs:iF s z.length z.length) (hQ:∀ x,x ∈ Q → x < z.length) (hm:Q.length = m) (hm2:m ≤ 1000) (hl:z.length ≤ 1000) {i j:Nat} (hi:i < m) (hj:j < m):bB Tryz.prog 220 [NT .i64 i,NT .i64 j,PT (dT z s),PT (mG (Q.map Nat.succ))] (aD (gm s (nM Q i) (nM Q j))):=by
 have hki:nM Q i < z.length:=Bw hQ zo
 have hkj:nM Q j < z.length:=Bw hQ zo
 have hsl:=hs.1
 have hsr:=hs.row hki
 refine bB.intro Tryz.func220 rfl Tryz.ntmps220 rfl (fun cx=>(ts (rn rfl (eG (Ts:=[Is (.bool false),Is (.slice none 0 0),Is (.bool false),Is (.slice none 0 0),Is (.slice none 0 0)]) O_60 rfl (fun V=>aW zd (aW zd (aW zd (aW zd (aW zd (aG))))))) fun B6=>(eX (cK (fW (m:=14) (dp 2 rfl (pF eT (Ht rfl) rfl) (dq 7 0 rfl (dJ A_26 Z_26 (Ht rfl)) (dp 3 rfl (dJ A_103 Z_103 (Ht rfl)) (dp 0 rfl (cX (Ht rfl)) ?_))))))))))
 refine dP 9 2 10 3 rfl (dZ U_103 Z_3 (Ht rfl) (Ht rfl) rfl (dY (wH zo))) (dq 11 4 rfl (dJ A_3 Z_3 (Ht rfl)) (dq 12 5 rfl (aE.nat (dW (Ht rfl) (cJ 1) zo z6) (show nM Q i + 1 - 1 = nM Q i by omega)) (dP 8 1 13 6 rfl (dZ U_26 Z_25 (Ht rfl) (Ht rfl) rfl (dY (dU (d:=[]) zo))) (dq 14 7 rfl (dJ A_25 Z_25 (Ht rfl)) (dp 3 rfl (dJ A_103 Z_103 (Ht rfl)) ?_)))))
 refine dp 1 rfl (cX (Ht rfl)) (dP 16 9 17 10 rfl (dZ U_103 Z_3 (Ht rfl) (Ht rfl) rfl (dY (wH zo))) (dq 18 11 rfl (dJ A_3 Z_3 (Ht rfl)) (dq 19 12 rfl (aE.nat (dW (Ht rfl) (cJ 1) zo z6) (show nM Q j + 1 - 1 = nM Q j by omega)) (fK bC rfl (by kernel_rfl) (zF (zF (zF (aJ (aJ (aV (ro rfl (dZ U_25 Z_60 (Ht rfl) (Ht rfl) rfl (dY (dU (d:=Qi.zero) zo))) ?_)))))))))))
 refine ro rfl (dJ A_60 Z_60 (Ht rfl)) (gV Z_60 (Ht rfl) (Ht rfl) rfl (i:=0) rfl (aK rfl) rfl rfl (eX ?_))
 exact fU rfl (gX A_60 Z_60 rfl (i:=0) rfl rfl)
theorem Sl {z:List Qi} {s:List (List Qi)} {Q:List Nat} {m:Nat} (hs:iF s z.length z.length) (hQ:∀ x,x ∈ Q → x < z.length) (hm:Q.length = m) (hm2:m ≤ 1000) (hl:z.length ≤ 1000):gP Tryz.prog 125 [dT z s,mG (Q.map Nat.succ)] [] (Nat) (fun B=>dR [bL (yH z Q),Is (.slice (some ⟨B,0,none⟩) m m)]) (fun B=>[pD B 25 60 5 (dN aD (Cb s Q))]) (fun _=>True):=by
 have hll:(Q.map Nat.succ).length = m:=by rw [List.length_map]; exact hm
 refine gP.intro Tryz.func125 rfl Tryz.ntmps125 rfl (fun cx Z=>(ts (rn rfl (gQ (Ht rfl)) fun B2=>(rn rfl (oN (Ht rfl)) fun B3=>(rn rfl (eG (Ts:=[Is (.slice none 0 0),Is (.slice none 0 0)]) O_28 rfl (fun V=>aW zd (aW zd (aG)))) fun B4=>(eX (cK (gK (i:=1) (tt:=2) rfl rfl kZ (gK (i:=2) (tt:=3) rfl rfl kG (cY (ro rfl (dJ A_103 Z_103 (Ht rfl)) (ro rfl (dG U_103 (Ht rfl) (by rw [List.length_map,hll])) ?_))))))))))))
 refine rn rfl (iJ (T:=aD Qi.zero) (i:=Tryz.t60) jP iM rfl rfl (Ht rfl) rfl gH (El.ag rfl) (by show 88 * _ ≤ _; omega) zo) fun B10=>ra rfl (eX (cK (ts (ro rfl (dJ A_103 Z_103 (Ht rfl)) (ro rfl (dG U_103 (Ht rfl) (by rw [List.length_map,hll])) ?_)))))
 refine ro rfl (cX (cJ 0)) (eX (eK (bO [0,3,4] rfl (by decide) ?_)))
 refine dB (fun (i : Nat) => i ≤ m) (fun (i : Nat) => m - i) (fun (i : Nat) => [(2, PT (dT z s)), (3, PT (mG (Q.map Nat.succ))), (4, cE B4 0), (5, Is B10), (11, mG (Q.map Nat.succ)), (12, NT .i64 m), (13, NT .i64 i)]) (fun (i : Nat) => [Z, box B4 28 [Is (.slice none 0 0), Is (.slice none 0 0)], bE 60 5 B10 ((kA (fun i => gv z (nM Q i)) Qi.zero m i).map aD)]) 0 (Nat.zero_le _)
  (zS rfl) (aU (fun _ _ _ h=>h) (aU (fun _ _ _ h=>h) (aU (bA (by rw [← iN]; exact nT aD m)) aY))) (fun i hi=>?_)
 refine ts (ro rfl (gW (Ht rfl) (Ht rfl)) (eX (cK (dQ (Ht rfl) (fun hd=>?_) (fun hd=>?_)))))
 ·simp only [decide_eq_true_eq] at hd
  have hki:nM Q i < z.length:=Bw hQ zo
  refine cU (cK (eK (ts (rm rfl (ro rfl (dZ U_103 Z_3 (Ht rfl) (Ht rfl) rfl (dY (wH zo))) (ro rfl (dJ A_3 Z_3 (Ht rfl)) (ra rfl (ra rfl (eX (cY (rm rfl (rm rfl (ro rfl (pF iG (Ht rfl) rfl) (ro rfl (dJ A_25 Z_25 (Ht rfl)) (rm rfl (ro rfl (aE.nat (dW (Ht rfl) (cJ 1) zo z6) (show nM Q i + 1 - 1 = nM Q i by omega)) (ro rfl (dZ U_25 Z_60 (Ht rfl) (Ht rfl) rfl (dY (dU (d:=Qi.zero) hki))) ?_)))))))))))))))))
  refine ro rfl (dJ A_60 Z_60 (Ht rfl)) (ro rfl (cC U_25 Z_60 (Ht rfl) (Ht rfl) rfl (i:=2) rfl (by rw [List.length_map,cR]; omega) rfl) ?_)
  refine jY Z_60 (Ht rfl) (Ht rfl) (El.ag rfl) (i:=2) rfl rfl (by rw [List.length_map,cR]; omega) rfl ?_
  refine eX (bI (cY (ro rfl (dV (Ht rfl) (cJ 1) z6) (rm rfl (eX (gZ (i + 1) hd zo (zS rfl) (aU (fun _ _ _ h=>h) (aU (fun _ _ _ h=>h) (aU (bA (by rw [fB,← jJ (f:=(fun i=>gv z (nM Q i)))])) aY)))))))))
 ·simp only [decide_eq_false_iff_not] at hd
  obtain rfl:m = i:=Nat.le_antisymm zo hi
  rw [jI]
  refine gU rfl (gK (i:=2) (tt:=5) rfl rfl eN ?_)
  rw [show yH z Q = tab m fun i=>gv z (nM Q i) from by rw [yH,hm],show Cb s Q = tab m fun i=>tab m fun j=>gm s (nM Q i) (nM Q j) from by rw [Cb,hm]]
  refine ts (rm rfl (ro rfl (dJ A_103 Z_103 (Ht rfl)) (ro rfl (dG U_103 (Ht rfl) (by rw [List.length_map,hll])) ?_)))
  refine ro rfl (qY (γ:=Fin m × Fin m) (Ts:=fun x=>[NT .i64 x.1.1,NT .i64 x.2.1]) (U:=fun x=>aD (gm s (nM Q x.1.1) (nM Q x.2.1))) Tryz.call220 (fun x=>If hs hQ hm hm2 hl x.1.2 x.2.2) ⟨(Ht rfl),(Ht rfl),trivial⟩) (oR Tryz.call110 (Av (n:=m) (f:=fun i j=>gm s (nM Q i) (nM Q j)) zo) ⟨(Ht rfl),(Ht rfl),trivial⟩ rfl (fun B32 _=>(ro rfl (rO (Ht rfl) (Ht rfl)) (gV Z_28 (Ht rfl) (Ht rfl) rfl (i:=1) rfl (aK rfl) rfl rfl (eX ?_)))))
  exact kO B32 trivial [0,3] ⟨⟨_,rfl,fun _ _ _ h=>h⟩,⟨_,rfl,fun _ _ _ h=>h⟩,trivial⟩ (by decide) (yB rfl (gX A_28 Z_28 rfl (i:=1) rfl rfl))
theorem Sm {z:List Qi} {s:List (List Qi)} {p m:Nat} (hs:iF s z.length z.length) (hp:p < z.length) (hm:m = z.length - 1) (hl:z.length ≤ 1000):gP Tryz.prog 125 [dT z s,mG (xR p m)] [] Nat (fun B=>dR [bL (xX z p m),Is (.slice (some ⟨B,0,none⟩) m m)]) (fun B=>[pD B 25 60 5 (dN aD (a0D s p m))]) (fun _=>True):=by
 have h:=Sl (Q:=tab m (iE p)) hs (Vm hp hm) (aO _ _) zo hl
 rw [Qo,Qn,Tu] at h
 exact h
theorem Bb {n:Int} (h1:-9223372036854775808 ≤ n) (h2:n ≤ 9223372036854775807):bB Tryz.prog 118 [aF .i64 n] (aD (Qi.ofInt n)):=by
 refine bB.intro Tryz.func118 rfl Tryz.ntmps118 rfl (fun cx=>(ts (rn rfl (eG (Ts:=[Is (.bool false),Is (.slice none 0 0),Is (.bool false),Is (.slice none 0 0),Is (.slice none 0 0)]) O_60 rfl (fun V=>aW zd (aW zd (aW zd (aW zd (aW zd (aG))))))) fun B2=>(eX (ts (rn rfl (eG (Ts:=[Is (.bool false),Is (.slice none 0 0),Is (.bool false),Is (.slice none 0 0),Is (.slice none 0 0)]) O_60 rfl (fun V=>aW zd (aW zd (aW zd (aW zd (aW zd (aG))))))) fun B3=>?_))))))
 refine eX (cK (fW (m:=4) (dp 3 rfl (eW A_60 Z_60 (Ht rfl) (i:=1) rfl rfl rfl) (dq 4 0 rfl (bH bR (Ht rfl)) (dp 0 rfl (cX (Ht rfl)) (dq 6 2 rfl (cZ Tryz.call52 (Hz (n:=n) h1 h2) ⟨(Ht rfl),trivial⟩) (fK bC rfl (by kernel_rfl) (zF (aV (ro rfl (bD rV Tryz.call304 Na (Ht rfl) ⟨(Ht rfl),trivial⟩) (gV Z_60 (Ht rfl) (Ht rfl) rfl (i:=0) rfl (aK rfl) rfl rfl (eX ?_))))))))))))
 exact fU rfl (gX A_60 Z_60 rfl (i:=0) rfl rfl)
end
section
open Go Go.RowKit
theorem Nh {z:List Qi} {s:List (List Qi)} {port:Int} {g:Qi} {L:Nat} (hs:iF s z.length z.length) (hf:cF s L) (hg:aM g L) (hL:1 ≤ L) (hLb:L ≤ 1000000) (hl:z.length ≤ 1000):bB Tryz.prog 40 [dT z s,aF .i64 port,aD g] (dM [dT (nI z s port g) (nH z s port g),aF .i64 (oA z s port g)]):=by
 haveI:=hg
 have hsl:=hs.1
 refine bB.intro Tryz.func40 rfl Tryz.ntmps40 rfl (fun cx=>(ts (rn rfl (gQ (Ht rfl)) fun B3=>(rn rfl (gQ (Ht rfl)) fun B5=>(rn rfl (eG (Ts:=[Is (.slice none 0 0),Is (.slice none 0 0)]) O_28 rfl (fun V=>aW zd (aW zd (aG)))) fun B6=>(ro rfl (cQ (cJ 0)) (eX (cK (eK (ts (ro rfl (eW A_28 Z_28 (Ht rfl) (i:=0) rfl rfl rfl) (rm rfl (ro rfl (cZ Tryz.call138 Cu ⟨(Ht rfl),(Ht rfl),trivial⟩) (ro rfl (fO (Ht rfl)) (ra rfl (eX (dQ (Ht rfl) (fun hb=>?_) (fun hb=>?_))))))))))))))))))
 ·have he : oA z s port g = 1 := Zu (by simpa only [Bool.not_eq_true', decide_eq_false_iff_not] using hb)
  refine ts (ro rfl (aE.imp (mJ ) mM) (gV Z_28 (Ht rfl) (Ht rfl) rfl (i:=2) rfl (aK rfl) rfl rfl (ro rfl (cQ (cJ 1)) (eX (bN rfl (fV (gX A_28 Z_28 rfl (i:=2) rfl rfl) ?_) (fV (eY rfl) ?_))))))
  ·exact (Cg he (by decide))
  ·exact (aT he.symm)
 ·have hb2 : 1 ≤ port ∧ port ≤ (z.length : Int) := by simpa using hb
  obtain ⟨p,rfl⟩:∃ p:Nat,port = (p:Int) + 1:=⟨(port - 1).toNat,by omega⟩
  have hp:p < z.length:=by omega
  refine ts (ro rfl (eJ iG (Ht rfl) rfl) (ro rfl (fQ A_25 Z_25 (Ht rfl) (i:=0) rfl rfl) (ro rfl (dG U_25 (Ht rfl) aA) (ro rfl (cB (Ht rfl) (cJ 1)) (ra rfl (eX (dQ (Ht rfl) (fun hc=>?_) (fun hc=>?_))))))))
  ·have he : oA z s ((p : Int) + 1) g = 4 := Zv hb2 (by simpa using hc)
   refine ts (ro rfl (aE.imp (mJ ) mM) (gV Z_28 (Ht rfl) (Ht rfl) rfl (i:=2) rfl (aK rfl) rfl rfl (ro rfl (cQ (cJ 4)) (eX (bN rfl (fV (gX A_28 Z_28 rfl (i:=2) rfl rfl) ?_) (fV (eY rfl) ?_))))))
   ·exact (Cg he (by decide))
   ·exact (aT he.symm)
  ·have hn1 : ¬ z.length = 1 := by simpa using hc
   have htd:=Qw (s:=s) (g:=g) hp hn1
   obtain ⟨m,hm⟩:∃ m,m = z.length - 1:=⟨_,rfl⟩
   have hspl:=hs.row hp
   haveI f0:aM (Qi.ofInt 1) 1:=qU
   haveI f1:aM (gm s p p) L:=hf.get hL p p
   refine cU (bI (ts (rm rfl (ro rfl (gI (Ht rfl) cV (r:=((p:Nat):Int)) ((tB (z:=(p:Int) + 1 - 1) zo).trans zo)) ?_))))
   refine ra rfl (eX (cK (Y.D_start (m:=22) [] (bY (Ei:=[(5,_)]) rfl rfl (bQ (bJ rfl rfl) bX) rfl rfl (dX rfl (eW A_60 Z_60 (Ht rfl) (i:=1) rfl rfl rfl)) (bY (Ei:=[(32,_)]) rfl rfl (bQ (bZ 0 rfl rfl) bX) rfl rfl (dX rfl (bH bR (Ht rfl))) (bY (Ei:=[]) rfl rfl bX rfl rfl (dX rfl (cZ Tryz.call118 (Bb (n:=1) (by decide) (by decide)) ⟨(cJ 1),trivial⟩)) (bY (Ei:=[(34,_)]) rfl rfl (bQ (bZ 2 rfl rfl) bX) rfl rfl (dX rfl (bH bR (Ht rfl))) ?_)))))))
   refine bY (Ei:=[(3,_)]) rfl rfl (bQ (bJ rfl rfl) bX) rfl rfl (dX rfl (eJ eT (Ht rfl) rfl)) (bY (Ei:=[(36,_)]) rfl rfl (bQ (bZ 4 rfl rfl) bX) rfl rfl (dX rfl (fQ A_26 Z_26 (Ht rfl) (i:=0) rfl rfl)) (bY (Ei:=[(8,_)]) rfl rfl (bQ (bJ rfl rfl) bX) rfl rfl (dX rfl (cX (Ht rfl))) (bY (Ei:=[(37,_),(38,_)]) rfl rfl (bQ (bZ 5 rfl rfl) (bQ (bZ 6 rfl rfl) bX)) rfl rfl (dX rfl (dZ U_26 Z_25 (Ht rfl) (Ht rfl) rfl (dY (dU (d:=[]) zo)))) ?_)))
   refine bY (Ei:=[(39,_)]) rfl rfl (bQ (bZ 7 rfl rfl) bX) rfl rfl (dX rfl (dJ A_25 Z_25 (Ht rfl))) (bY (Ei:=[(8,_)]) rfl rfl (bQ (bJ rfl rfl) bX) rfl rfl (dX rfl (cX (Ht rfl))) (bY (Ei:=[(40,_),(41,_)]) rfl rfl (bQ (bZ 8 rfl rfl) (bQ (bZ 9 rfl rfl) bX)) rfl rfl (dX rfl (dZ U_25 Z_60 (Ht rfl) (Ht rfl) rfl (dY (dU (d:=Qi.zero) zo)))) (bY (Ei:=[(42,_)]) rfl rfl (bQ (bZ 10 rfl rfl) bX) rfl rfl (dX rfl (dJ A_60 Z_60 (Ht rfl))) ?_)))
   refine bY (Ei:=[(43,_)]) rfl rfl (bQ (bZ 11 rfl rfl) bX) rfl rfl (dX rfl (bH bR (Ht rfl))) (bY (Ei:=[(5,_)]) rfl rfl (bQ (bJ rfl rfl) bX) rfl rfl (dX rfl (eW A_60 Z_60 (Ht rfl) (i:=1) rfl rfl rfl)) (bY (Ei:=[(44,_),(45,_)]) rfl rfl (bQ (bZ 12 rfl rfl) (bQ (bZ 13 rfl rfl) bX)) rfl rfl (dX rfl (bD dC K_70 (kQ (x:=gm s p p) (y:=g) (L:=L) (M:=L) zo) (Ht rfl) ⟨(Ht rfl),trivial⟩)) (bY (Ei:=[(35,_),(46,_)]) rfl rfl (bQ (bZ 3 rfl rfl) (bQ (bZ 14 rfl rfl) bX)) rfl rfl (dX rfl (bD kS K_69 (wY (x:=Qi.ofInt 1) (y:=gm s p p * g) (L:=1) (M:=L + L + 1) (hx:=f0) zo) (Ht rfl) ⟨(Ht rfl),trivial⟩)) ?_)))
   refine bY (Ei:=[(33,_),(47,_)]) rfl rfl (bQ (bZ 1 rfl rfl) (bQ (bZ 15 rfl rfl) bX)) rfl rfl (dX rfl (bD jN K_64 (sC (x:=g) (y:=Qi.ofInt 1 - gm s p p * g) (L:=L) (M:=1 + (L + L + 1) + 1) (hy:=@fitSub _ _ _ _ f0 inferInstance) zo) (Ht rfl) ⟨(Ht rfl),trivial⟩)) (bY (Ei:=[(48,_)]) rfl rfl (bQ (bZ 16 rfl rfl) bX) rfl rfl (dX rfl (cX (Ht rfl))) (bY (Ei:=[(31,_)]) rfl rfl (bQ (bZ 17 rfl rfl) bX) rfl rfl (dX rfl (dK (Ht rfl) rfl)) ?_))
   refine bY (Ei:=[(31,_)]) rfl rfl (bQ (bZ 17 rfl rfl) bX) rfl rfl (dX rfl (dK (Ht rfl) rfl)) (Y.D_newp (Ei:=[]) (fun bb=>box bb 60 [aC (decide ((iS s p g).a < 0)),aL (iS s p g).a.natAbs,aC (decide ((iS s p g).b < 0)),aL (iS s p g).b.natAbs,aL (du (iS s p g))]) 21 rfl rfl rfl bX rfl rfl (by kernel_rfl) (eG (Ts:=[Is (.bool false),Is (.slice none 0 0),Is (.bool false),Is (.slice none 0 0),Is (.slice none 0 0)]) O_60 rfl (fun V=>aW zd (aW zd (aW zd (aW zd (aW zd (aG))))))) ?_)
   refine Y.D_putN (Ei:=[(49,_)]) 20 rfl rfl rfl rfl rfl rfl (bQ (bZ 18 rfl rfl) bX) (fun bb=>mH Z_60 (Ht rfl) (Ht rfl) rfl (i:=0) rfl (aK rfl) rfl rfl) (Y.D_done bC rfl (by kernel_rfl) rfl (by simp [Y.okP]) rfl rfl (bU (bU (bU (bU (bU (bU (bU (bU (bU (bU (bU (bU (bU (bU (bU (bU (bU (bU (bU (bU (Y.F_newp (fun B9=>Y.F_putN (Y.F_nil ?_))))))))))))))))))))))))
   refine ra rfl (eX (cK (ts (rm rfl (ro rfl (gY (Ht rfl) cV) (eX (dQ (Ht rfl) (fun he=>?_) (fun he=>?_))))))))
   ·have hz : Qi.ofInt 1 - gm s p p * g = Qi.zero := by simp at he; exact he
    have he:oA z s ((p:Int) + 1) g = 6:=by rw [htd,if_pos hz]
    refine ts (ro rfl (aE.imp (mJ ) mM) (gV Z_28 (Ht rfl) (Ht rfl) rfl (i:=2) rfl (aK rfl) rfl rfl (ro rfl (cQ (cJ 6)) (eX (bN rfl (fV (gX A_28 Z_28 rfl (i:=2) rfl rfl) ?_) (fV (eY rfl) ?_))))))
    ·exact (Cg he (by decide))
    ·exact (aT he.symm)
   ·have hz : Qi.ofInt 1 - gm s p p * g ≠ Qi.zero := by simp at he; exact he
    have he:oA z s ((p:Int) + 1) g = 0:=by rw [htd,if_neg hz]
    haveI ff:aM (iS s p g) (7 * L + 11):=Fe hf hg hL hz
    have hll:(xR p m).length = m:=aO _ _
    refine cU (ts (ro rfl (eW A_28 Z_28 (Ht rfl) (i:=0) rfl rfl rfl) (rm rfl (ro rfl (eM (xs:=[.tmp 55]) U_103 Z_3 O_3 (cW (Ht rfl) cG) rfl rfl rfl) (ro rfl (cZ Tryz.call124 (eQ (Xx (z:=z) (s:=s) (p:=p) hp hl) (iQ (by rw [← hm]))) ⟨(Ht rfl),(Ht rfl),trivial⟩) ?_)))))
    refine ra rfl (eX (ts (ro rfl (eW A_28 Z_28 (Ht rfl) (i:=0) rfl rfl rfl) (rm rfl (oR Tryz.call125 (Sm (p:=p) (m:=m) hs hp hm hl) ⟨(Ht rfl),(Ht rfl),trivial⟩ rfl (fun B60 _=>(rn rfl (eG (Ts:=[Is (.slice none 0 0),Is (.slice none 0 0)]) O_28 rfl (fun V=>aW zd (aW zd (aG)))) fun B12=>(gV Z_28 (Ht rfl) (Ht rfl) rfl (i:=5) rfl (aK rfl) rfl rfl (eX (cK (ts (rm rfl (ro rfl (dG U_103 (Ht rfl) (by rw [List.length_map,hll])) ?_)))))))))))))
    refine ro rfl (cX (cJ 0)) (eX (eK (bO [0,2,3,4,5] rfl (by decide) ?_)))
    refine dB (fun (i : Nat) => i ≤ m) (fun (i : Nat) => m - i) (fun (i : Nat) => [(3, cE B3 0), (6, cE B6 0), (8, NT .i64 p), (9, cE B9 0), (11, mG (xR p m)), (12, cE B12 0), (61, mG (xR p m)), (62, NT .i64 m), (63, NT .i64 i)]) (fun (i : Nat) => [box B3 28 [bL z, eE s], box B6 28 [Is (.slice none 0 0), Is (.slice none 0 0)], box B9 60 [aC (decide ((iS s p g).a < 0)), aL (iS s p g).a.natAbs, aC (decide ((iS s p g).b < 0)), aL (iS s p g).b.natAbs, aL (du (iS s p g))], pD B60 25 60 5 (dN aD (sP (fun i => tab m fun j => vJ s p (iS s p g) i j) (fun i => tab m fun j => gm s (iE p i) (iE p j)) m i)), box B12 28 [bL (xX z p m), Is (.slice (some ⟨B60, 0, none⟩) m m)]]) 0 (Nat.zero_le _)
     (zS rfl) (aU (fun _ _ _ h=>h) (aU (fun _ _ _ h=>h) (aU (aB rfl) (aU (gC (by rw [← zU]; rfl)) (aU (aB rfl) aY))))) (fun i hi=>?_)
    refine ts (ro rfl (gW (Ht rfl) (Ht rfl)) (eX (cK (dQ (Ht rfl) (fun hd=>?_) (fun hd=>?_)))))
    ·simp only [decide_eq_true_eq] at hd
     have hki:iE p i < z.length:=Bz zo hp
     have hsr:=hs.row hki
     refine qO 3 (i) rfl (Kw hd) (fun v=>(cU (cK (eK (ts (rm rfl (ro rfl (dZ U_103 Z_3 (Ht rfl) (Ht rfl) rfl (dY (Jc hd))) (ro rfl (dJ A_3 Z_3 (Ht rfl)) (ra rfl (ra rfl (eX (ts (rm rfl (ro rfl (dG U_103 (Ht rfl) (by rw [List.length_map,hll])) ?_))))))))))))))
     refine ro rfl (cX (cJ 0)) (eX (eK ?_))
     refine dB (fun (j : Nat) => j ≤ m) (fun (j : Nat) => m - j) (fun (j : Nat) => [(3, cE B3 0), (6, cE B6 0), (8, NT .i64 p), (9, cE B9 0), (11, mG (xR p m)), (12, cE B12 0), (13, NT .i64 i), (14, NT .i64 (iE p i + 1)), (61, mG (xR p m)), (62, NT .i64 m), (63, NT .i64 i), (68, mG (xR p m)), (69, NT .i64 m), (70, NT .i64 j)]) (fun (j : Nat) => [box B3 28 [bL z, eE s], box B6 28 [Is (.slice none 0 0), Is (.slice none 0 0)], box B9 60 [aC (decide ((iS s p g).a < 0)), aL (iS s p g).a.natAbs, aC (decide ((iS s p g).b < 0)), aL (iS s p g).b.natAbs, aL (du (iS s p g))], Le B60 25 60 5 (dN aD (sP (fun i => tab m fun j => vJ s p (iS s p g) i j) (fun i => tab m fun j => gm s (iE p i) (iE p j)) m i)) i v, box B12 28 [bL (xX z p m), Is (.slice (some ⟨B60, 0, none⟩) m m)], bE 60 5 v ((sP (fun j => vJ s p (iS s p g) i j) (fun j => gm s (iE p i) (iE p j)) m j).map aD)]) 0 (Nat.zero_le _)
      (zS rfl) (aU (fun _ _ _ h=>h) (aU (fun _ _ _ h=>h) (aU (fun _ _ _ h=>h) (aU (fun _ _ _ h=>h) (aU (fun _ _ _ h=>h) (aU (bA (by rw [← zU])) aY)))))) (fun j hj=>?_)
     refine ts (ro rfl (gW (Ht rfl) (Ht rfl)) (eX (cK (dQ (Ht rfl) (fun hf2=>?_) (fun hf2=>?_)))))
     ·simp only [decide_eq_true_eq] at hf2
      have hkj:iE p j < z.length:=Bz zo hp
      have hrl:=qC (fun j=>vJ s p (iS s p g) i j) (fun j=>gm s (iE p i) (iE p j)) m j
      haveI g1:aM (gm s (iE p i) (iE p j)) L:=hf.get hL _ _
      haveI g2:aM (gm s (iE p i) p) L:=hf.get hL _ _
      haveI g3:aM (gm s p (iE p j)) L:=hf.get hL _ _
      refine cU (cK (eK (ts (rm rfl (ro rfl (dZ U_103 Z_3 (Ht rfl) (Ht rfl) rfl (dY (Jc hf2))) (ro rfl (dJ A_3 Z_3 (Ht rfl)) (ra rfl (ra rfl (eX (fW (m:=39) (dp 12 rfl (eJ eT (Ht rfl) rfl) (dq 75 0 rfl (fQ A_26 Z_26 (Ht rfl) (i:=4) rfl rfl) (dp 13 rfl (cX (Ht rfl)) (dP 76 1 77 2 rfl (gJ U_26 Z_25 (Ht rfl) (Ht rfl) rfl zo (by rw [Nat.mul_one,Nat.zero_add])) ?_))))))))))))))
      refine dq 78 3 rfl (nY A_25 Z_25 (Ht rfl) (j:=3) rfl) (dp 15 rfl (cX (Ht rfl)) (dp 12 rfl (eJ eT (Ht rfl) rfl) (dq 81 6 rfl (fQ A_26 Z_26 (Ht rfl) (i:=4) rfl rfl) (dp 13 rfl (cX (Ht rfl)) (dP 82 7 83 8 rfl (gJ U_26 Z_25 (Ht rfl) (Ht rfl) rfl zo (by rw [Nat.mul_one,Nat.zero_add])) ?_)))))
      refine dq 84 9 rfl (nY A_25 Z_25 (Ht rfl) (j:=3) rfl) (dp 15 rfl (cX (Ht rfl)) (dP 85 10 86 11 rfl (cC U_25 Z_60 (Ht rfl) (Ht rfl) rfl (i:=5) rfl (by simp only [List.length_map,hrl]; omega) rfl) ?_))
      refine dq 87 12 rfl (nD A_60 Z_60 (Ht rfl) (i:=5) rfl rfl (dY (Dz hf2))) (dq 88 13 rfl (bH bR (Ht rfl)) (dp 3 rfl (eJ eT (Ht rfl) rfl) (dq 90 15 rfl (fQ A_26 Z_26 (Ht rfl) (i:=0) rfl rfl) (dp 14 rfl (cX (Ht rfl)) (dq 92 17 rfl (aE.nat (dW (Ht rfl) (cJ 1) zo z6) (show iE p i + 1 - 1 = iE p i by omega)) (dP 91 16 93 18 rfl (dZ U_26 Z_25 (Ht rfl) (Ht rfl) rfl (dY (dU (d:=[]) zo))) ?_))))))
      refine dq 94 19 rfl (dJ A_25 Z_25 (Ht rfl)) (dp 8 rfl (cX (Ht rfl)) (dP 95 20 96 21 rfl (dZ U_25 Z_60 (Ht rfl) (Ht rfl) rfl (dY (dU (d:=Qi.zero) zo))) (dq 97 22 rfl (dJ A_60 Z_60 (Ht rfl)) (dq 98 23 rfl (bH bR (Ht rfl)) (dp 9 rfl (eW A_60 Z_60 (Ht rfl) (i:=2) rfl rfl rfl) (dq 100 25 rfl (bH bR (Ht rfl)) (dp 3 rfl (eJ eT (Ht rfl) rfl) (dq 102 27 rfl (fQ A_26 Z_26 (Ht rfl) (i:=0) rfl rfl) (dp 8 rfl (cX (Ht rfl)) ?_)))))))))
      refine dP 103 28 104 29 rfl (dZ U_26 Z_25 (Ht rfl) (Ht rfl) rfl (dY (dU (d:=[]) zo))) (dq 105 30 rfl (dJ A_25 Z_25 (Ht rfl)) (dp 16 rfl (cX (Ht rfl)) (dq 107 32 rfl (aE.nat (dW (Ht rfl) (cJ 1) zo z6) (show iE p j + 1 - 1 = iE p j by omega)) (dP 106 31 108 33 rfl (dZ U_25 Z_60 (Ht rfl) (Ht rfl) rfl (dY (dU (d:=Qi.zero) zo))) (dq 109 34 rfl (dJ A_60 Z_60 (Ht rfl)) ?_)))))
      refine dP 101 26 110 35 rfl (bD dC K_70 (kQ (x:=iS s p g) (y:=gm s p (iE p j)) (L:=7 * L + 11) (M:=L) zo) (Ht rfl) ⟨(Ht rfl),trivial⟩) (dP 99 24 111 36 rfl (bD dC K_70 (kQ (x:=gm s (iE p i) p) (y:=iS s p g * gm s p (iE p j)) (L:=L) (M:=7 * L + 11 + L + 1) zo) (Ht rfl) ⟨(Ht rfl),trivial⟩) (dP 89 14 112 37 rfl (bD mA K_71 (wW (x:=gm s (iE p i) (iE p j)) (y:=gm s (iE p i) p * (iS s p g * gm s p (iE p j))) (L:=L) (M:=L + (7 * L + 11 + L + 1) + 1) zo) (Ht rfl) ⟨(Ht rfl),trivial⟩) ?_))
      refine fK bC rfl (by kernel_rfl) (zF (zF (zF (zF (zF (zF (zF (zF (zF (aJ (aJ (aJ (aV (ro rfl (cC U_25 Z_60 (Ht rfl) (Ht rfl) rfl (i:=5) rfl (by simp only [List.length_map,hrl]; omega) rfl) ?_))))))))))))))
      refine jY Z_60 (Ht rfl) (Ht rfl) (El.ag rfl) (i:=5) rfl rfl (by simp only [List.length_map,hrl]; omega) rfl ?_
      refine eX (bI (cY (ro rfl (dV (Ht rfl) (cJ 1) z6) (rm rfl (eX (gZ (j + 1) hf2 zo (zS rfl) (aU (fun _ _ _ h=>h) (aU (fun _ _ _ h=>h) (aU (fun _ _ _ h=>h) (aU (fun _ _ _ h=>h) (aU (fun _ _ _ h=>h) (aU (bA (by rw [fB,← Ea (f:=fun j=>vJ s p (iS s p g) i j)]; rfl)) aY))))))))))))
     ·simp only [decide_eq_false_iff_not] at hf2
      obtain rfl:m = j:=Nat.le_antisymm zo hj
      refine gU rfl (bI (lJ 3 5 rfl rfl (by decide) (by simp only [dN,List.length_map,qC]; omega) ?_))
      refine cY (ro rfl (dV (Ht rfl) (cJ 1) z6) (rm rfl (eX (bO [0,1,2,3,4] rfl (by decide) (gZ (i + 1) hd zo (zS rfl) (aU (fun _ _ _ h=>h) (aU (fun _ _ _ h=>h) (aU (fun _ _ _ h=>h) (aU (gC (by rw [mD,Dy,← Ea (f:=(fun i=>tab m fun j=>vJ s p (iS s p g) i j))])) (aU (fun _ _ _ h=>h) aY))))))))))
    ·simp only [decide_eq_false_iff_not] at hd
     obtain rfl:m = i:=Nat.le_antisymm zo hi
     rw [Dy]
     refine gU rfl (cK (Fr 4 3 1 rfl rfl rfl (by decide) (a0L (q:=fun _=>True) (M:=Ff s p m (iS s p g)) (aO _ _).symm) ?_))
     subst hm
     refine cY (ro rfl (eW A_28 Z_28 (Ht rfl) (i:=4) rfl rfl rfl) (gV Z_28 (Ht rfl) (Ht rfl) rfl (i:=1) rfl (aK rfl) rfl rfl (ro rfl (cQ (cJ 0)) (eX (bN rfl (fV (gX A_28 Z_28 rfl (i:=1) rfl rfl) ?_) (fV (eY rfl) ?_))))))
     ·exact (Qy he)
     ·exact (aT he.symm)
end
section
open Go Go.RowKit
theorem wZ  : bB Tryz.prog 27 [] (aC true):=by
 refine bB.intro Tryz.func27 rfl Tryz.ntmps27 rfl (fun cx=>(ts (ro rfl (cQ cV) (eX (ts (ro rfl (wV cV cV) (rn rfl (eG (Ts:=[Is (.int .i64 0),Is (.int .i64 0),Is (.int .i64 0)]) O_48 rfl (fun V=>aW zd (aW zd (aW zd (aG))))) fun B1=>(gV Z_48 (Ht rfl) (Ht rfl) rfl (i:=0) rfl (aK rfl) rfl rfl (eX (cK (Y.D_start (m:=18) [] (bY (Ei:=[]) rfl rfl bX rfl rfl (dX rfl (Cq cV)) (bY (Ei:=[]) rfl rfl bX rfl rfl (dX rfl (Cq cV)) ?_)))))))))))))
 refine bY (Ei:=[(12,_),(13,_)]) rfl rfl (bQ (bZ 0 rfl rfl) (bQ (bZ 1 rfl rfl) bX)) rfl rfl (dX rfl (eM (xs:=[.tmp 12,.tmp 13]) U_22 Z_48 O_48 (cW (Ht rfl) (cW (Ht rfl) cG)) rfl rfl rfl)) (bY (Ei:=[(14,_)]) rfl rfl (bQ (bZ 2 rfl rfl) bX) rfl rfl (dX rfl (cZ Tryz.call48 (tG (l:=[r50,r50]) (by decide)) ⟨(Ht rfl),trivial⟩)) (bY (Ei:=[(1,_)]) rfl rfl (bQ (bJ rfl rfl) bX) rfl rfl (dX rfl (eW A_48 Z_48 (Ht rfl) (i:=0) rfl rfl rfl)) ?_))
 refine bY (Ei:=[(1,_)]) rfl rfl (bQ (bJ rfl rfl) bX) rfl rfl (dX rfl (eW A_48 Z_48 (Ht rfl) (i:=0) rfl rfl rfl)) (bY (Ei:=[(16,_),(17,_)]) rfl rfl (bQ (bZ 4 rfl rfl) (bQ (bZ 5 rfl rfl) bX)) rfl rfl (dX rfl (eM (xs:=[.tmp 16,.tmp 17]) U_22 Z_48 O_48 (cW (Ht rfl) (cW (Ht rfl) cG)) rfl rfl rfl)) (bY (Ei:=[(1,_)]) rfl rfl (bQ (bJ rfl rfl) bX) rfl rfl (dX rfl (eW A_48 Z_48 (Ht rfl) (i:=0) rfl rfl rfl)) ?_))
 refine bY (Ei:=[(1,_)]) rfl rfl (bQ (bJ rfl rfl) bX) rfl rfl (dX rfl (eW A_48 Z_48 (Ht rfl) (i:=0) rfl rfl rfl)) (bY (Ei:=[(19,_),(20,_)]) rfl rfl (bQ (bZ 7 rfl rfl) (bQ (bZ 8 rfl rfl) bX)) rfl rfl (dX rfl (eM (xs:=[.tmp 19,.tmp 20]) U_22 Z_48 O_48 (cW (Ht rfl) (cW (Ht rfl) cG)) rfl rfl rfl)) (bY (Ei:=[(18,_),(21,_)]) rfl rfl (bQ (bZ 6 rfl rfl) (bQ (bZ 9 rfl rfl) bX)) rfl rfl (dX rfl (eM (xs:=[.tmp 18,.tmp 21]) U_75 Z_22 Tryz.zeroValue22 (cW (Ht rfl) (cW (Ht rfl) cG)) rfl rfl rfl)) ?_))
 refine bY (Ei:=[(22,_)]) rfl rfl (bQ (bZ 10 rfl rfl) bX) rfl rfl (dX rfl (cZ Tryz.call94 (zJ (m:=[[uL,uL],[uL,uL]]) (by decide) (by intro r hr; simp at hr; subst hr; decide)) ⟨(Ht rfl),trivial⟩)) ?_
 refine bY (Ei:=[(15,_),(23,_)]) rfl rfl (bQ (bZ 3 rfl rfl) (bQ (bZ 11 rfl rfl) bX)) rfl rfl (dX rfl (cZ Tryz.call93 (eQ (xA (z:=xO) (s:=zR) (L:=2) a0v (by decide) (by decide) (by decide)) Yn) ⟨(Ht rfl),(Ht rfl),trivial⟩)) (bY (Ei:=[(24,_)]) rfl rfl (bQ (bZ 12 rfl rfl) bX) rfl rfl (dX rfl (cX (Ht rfl))) (bY (Ei:=[(11,_)]) rfl rfl (bQ (bZ 13 rfl rfl) bX) rfl rfl (dX rfl (dK (Ht rfl) rfl)) (bY (Ei:=[(11,_)]) rfl rfl (bQ (bZ 13 rfl rfl) bX) rfl rfl (dX rfl (dK (Ht rfl) rfl)) ?_)))
 refine Y.D_newp (Ei:=[]) (fun bb=>box bb 28 [bL xO,eE zR]) 17 rfl rfl rfl bX rfl rfl (by kernel_rfl) (eG (Ts:=[Is (.slice none 0 0),Is (.slice none 0 0)]) O_28 rfl (fun V=>aW zd (aW zd (aG)))) (Y.D_putN (Ei:=[(25,_)]) 16 rfl rfl rfl rfl rfl rfl (bQ (bZ 14 rfl rfl) bX) (fun bb=>mH Z_28 (Ht rfl) (Ht rfl) rfl (i:=0) rfl (aK rfl) rfl rfl) (Y.D_done bC rfl (by kernel_rfl) rfl (by simp [Y.okP]) rfl rfl (bU (bU (bU (bU (bU (bU (bU (bU (bU (bU (bU (bU (bU (bU (bU (bU (Y.F_newp (fun B2=>Y.F_putN (Y.F_nil ?_)))))))))))))))))))))
 refine ra rfl (eX (cK (Y.D_start (m:=8) [] (bY (Ei:=[(2,_)]) rfl rfl (bQ (bJ rfl rfl) bX) rfl rfl (dX rfl (eW A_28 Z_28 (Ht rfl) (i:=1) rfl rfl rfl)) (bY (Ei:=[]) rfl rfl bX rfl rfl (dX rfl (cZ Tryz.call52 (Hz (n:=1) (by decide) (by decide)) ⟨(cJ 1),trivial⟩)) (bY (Ei:=[(28,_),(29,_)]) rfl rfl (bQ (bZ 0 rfl rfl) (bQ (bZ 1 rfl rfl) bX)) rfl rfl (dX rfl (cZ Tryz.call40 (eQ (Nh (z:=xO) (s:=zR) (port:=((2:Nat):Int)) (g:=Qi.ofInt 1) (L:=2) Ok Wt Wr (by decide) (by decide) (by decide)) Yo) ⟨(Ht rfl),(cJ 2),(Ht rfl),trivial⟩)) ?_))))))
 refine bY (Ei:=[(30,_)]) rfl rfl (bQ (bZ 2 rfl rfl) bX) rfl rfl (dX rfl (cX (Ht rfl))) (bY (Ei:=[(27,_)]) rfl rfl (bQ (bZ 3 rfl rfl) bX) rfl rfl (dX rfl (dK (Ht rfl) rfl)) (bY (Ei:=[(27,_)]) rfl rfl (bQ (bZ 3 rfl rfl) bX) rfl rfl (dX rfl (dK (Ht rfl) rfl)) (Y.D_newp (Ei:=[]) (fun bb=>box bb 28 [bL Bi,eE Ky]) 7 rfl rfl rfl bX rfl rfl (by kernel_rfl) (eG (Ts:=[Is (.slice none 0 0),Is (.slice none 0 0)]) O_28 rfl (fun V=>aW zd (aW zd (aG)))) ?_)))
 refine Y.D_putN (Ei:=[(31,_)]) 6 rfl rfl rfl rfl rfl rfl (bQ (bZ 4 rfl rfl) bX) (fun bb=>mH Z_28 (Ht rfl) (Ht rfl) rfl (i:=0) rfl (aK rfl) rfl rfl) (Y.D_done bC rfl (by kernel_rfl) rfl (by simp [Y.okP]) rfl rfl (bU (bU (bU (bU (bU (bU (Y.F_newp (fun B4=>Y.F_putN (Y.F_nil ?_))))))))))
 refine ra rfl (eX (ts (ro rfl (eW A_28 Z_28 (Ht rfl) (i:=2) rfl rfl rfl) (ro rfl (cZ K_39 (eQ (Rz (z:=Bi) (s:=Ky) (i:=((1:Nat):Int)) (j:=((1:Nat):Int)) Yq (by rw [Ol]; decide)) a0u) ⟨(Ht rfl),(cJ 1),(cJ 1),trivial⟩) ?_))))
 refine rm rfl (ro rfl (dK (Ht rfl) rfl) (ro rfl (dK (Ht rfl) rfl) (rn rfl (eG (Ts:=[Is (.bool false),Is (.slice none 0 0),Is (.bool false),Is (.slice none 0 0),Is (.slice none 0 0)]) O_60 rfl (fun V=>aW zd (aW zd (aW zd (aW zd (aW zd (aG))))))) fun B6=>(gV Z_60 (Ht rfl) (Ht rfl) rfl (i:=3) rfl (aK rfl) rfl rfl (ra rfl (eX (ts (ro rfl (eW A_28 Z_28 (Ht rfl) (i:=1) rfl rfl rfl) ?_))))))))
 refine ro rfl (cZ Tryz.call114 (Xs (z:=xO) (s:=zR) (L:=2) Ok Wt (by decide) (by decide) (by decide) (by decide +kernel) (by decide +kernel) Ym) ⟨(Ht rfl),trivial⟩) (rm rfl (ro rfl (dK (Ht rfl) rfl) (ro rfl (dK (Ht rfl) rfl) (ra rfl (ra rfl (eX (ts (rm rfl (ro rfl (iY (Ht rfl) cV) (rm rfl (fJ rfl rfl (eU rfl rfl (Ht rfl) (fun h=>cX (Ht rfl))) (fJ rfl rfl (eU rfl rfl (Ht rfl) (fun h=>iY (fG rfl h) cV)) (ro rfl (eC (Ht rfl) (fun h=>(fG rfl h))) (rm rfl (fJ rfl rfl (eU rfl rfl (Ht rfl) (fun h=>cX (Ht rfl))) ?_)))))))))))))))
 refine fJ rfl rfl (eU rfl rfl (Ht rfl) (fun h=>iY (fG rfl h) cV)) (ro rfl (eC (Ht rfl) (fun h=>(fG rfl h))) (rm rfl (fJ rfl rfl (eU rfl rfl (Ht rfl) (fun h=>cX (Ht rfl))) (fJ rfl rfl (eU rfl rfl (Ht rfl) (fun h=>iY (fG rfl h) cV)) (ro rfl (eC (Ht rfl) (fun h=>(fG rfl h))) (rm rfl (fJ rfl rfl (eU rfl rfl (Ht rfl) (fun h=>eW A_28 Z_28 (Ht rfl) (i:=1) rfl rfl rfl)) (fJ rfl rfl (eU rfl rfl (Ht rfl) (fun h=>cZ Tryz.call31 Au ⟨(fG rfl h),trivial⟩)) (fJ rfl rfl (eU rfl rfl (Ht rfl) (fun h=>cB (fG rfl h) (cJ 2))) ?_)))))))))
 refine ro rfl (eC (Ht rfl) (fun h=>(fG rfl h))) (rm rfl (fJ rfl rfl (eU rfl rfl (Ht rfl) (fun h=>eW A_60 Z_60 (Ht rfl) (i:=3) rfl rfl rfl)) (fJ rfl rfl (eU rfl rfl (Ht rfl) (fun h=>cZ Tryz.call115 (Ni (x:=Qi.ofInt 1) (L:=2) (hx:=Wr) (by decide)) ⟨(fG rfl h),trivial⟩)) (fJ rfl rfl (eU rfl rfl (Ht rfl) (fun h=>Pq (fG rfl h) (aR.cS (l:=[49]) rfl))) (ro rfl (eC (Ht rfl) (fun h=>(fG rfl h))) (ra rfl (eX (fU rfl (fV (eY rfl) ?_)))))))))
 exact (fT (by rw [a0M]; rfl))
end
section
open Go Go.RowKit
theorem xD {l:List Rt} (hl:l.length ≤ 1000000):bB Tryz.prog 96 [jD l] (Ci (l.map Rt.q)):=by
 refine bB.intro Tryz.func96 rfl Tryz.ntmps96 rfl (fun cx=>(ts (ro rfl (cQ cV) (eX (ts (rm rfl (ro rfl (dG U_22 (Ht rfl) aA) (rn rfl (iJ (T:=ZQ) (i:=Tryz.t130) Zx Ou rfl rfl (Ht rfl) rfl a0X (El.ag rfl) (by show 88 * _ ≤ _; omega) zo) fun B8=>(ra rfl (eX (cK (ts (rm rfl (ro rfl (dG U_22 (Ht rfl) aA) (ro rfl (cX (cJ 0)) (eX (eK ?_)))))))))))))))))
 refine dB (fun (k : Nat) => k ≤ l.length) (fun (k : Nat) => l.length - k) (fun (k : Nat) => [(3, Is B8), (9, jD l), (10, NT .i64 l.length), (11, NT .i64 k)]) (fun (k : Nat) => [bE 130 5 B8 (kA (fun i => QT (l.getD i default).q) ZQ l.length k)]) 0 (Nat.zero_le _)
  (zS rfl) (aU (bA (by rw [← iN]; exact sX _ _)) aY) (fun k hk=>?_)
 refine ts (ro rfl (gW (Ht rfl) (Ht rfl)) (eX (cK (dQ (Ht rfl) (fun hd=>?_) (fun hd=>?_)))))
 ·simp only [decide_eq_true_eq] at hd
  refine cU (cK (eK (ts (rm rfl (ro rfl (dZ U_22 Z_48 (Ht rfl) (Ht rfl) rfl (dY (dU (d:=default) hd))) (ro rfl (dJ A_48 Z_48 (Ht rfl)) (rn rfl (eG (Ts:=[Is (.int .i64 0),Is (.int .i64 0),Is (.int .i64 0)]) O_48 rfl (fun V=>aW zd (aW zd (aW zd (aG))))) fun B5=>(ra rfl (gV Z_48 (Ht rfl) (Ht rfl) rfl (i:=1) rfl (aK rfl) rfl rfl (eX (cY (rm rfl (rm rfl (ro rfl (eW A_48 Z_48 (Ht rfl) (i:=1) rfl rfl rfl) ?_))))))))))))))
  refine ro rfl (cZ Tryz.call191 a0m ⟨(Ht rfl),trivial⟩) (ro rfl (cC U_29 Z_130 (Ht rfl) (Ht rfl) rfl (i:=0) rfl (by rw [cR]; omega) rfl) ?_)
  refine jY Z_130 (Ht rfl) (Ht rfl) (El.ag rfl) (i:=0) rfl rfl (by rw [cR]; omega) rfl ?_
  refine eX (bI (cY (ro rfl (dV (Ht rfl) (cJ 1) z6) (rm rfl (eX (bO [0] rfl (by decide) (gZ (k + 1) hd zo (zS rfl) (aU (bA (jJ (f:=fun i=>QT (l.getD i default).q))) aY))))))))
 ·simp only [decide_eq_false_iff_not] at hd
  obtain rfl:k = l.length:=Nat.le_antisymm hk zo
  rw [jI]
  refine gU rfl (gK (i:=0) (tt:=3) rfl rfl eN (ts (rm rfl (ra rfl (eX (fU rfl (fV (eY rfl) ?_)))))))
  exact (iQ (by rw [← qM l Rt.q,mO]))
theorem Gl {m:List (List Rt)} (hm:m.length ≤ 1000) (hr:∀ r,r ∈ m → r.length ≤ 1000):bB Tryz.prog 97 [Mi m] (QM (rq m)):=by
 refine bB.intro Tryz.func97 rfl Tryz.ntmps97 rfl (fun cx=>(ts (ro rfl (cQ cV) (eX (ts (rm rfl (ro rfl (dG U_75 (Ht rfl) aA) (rn rfl (iJ (T:=Ci []) (i:=Tryz.t29) Zy Tm rfl rfl (Ht rfl) rfl (fun V=>iO _ _ rfl) El.one (by show 24 * _ ≤ _; omega) zo) fun B8=>(ra rfl (eX (cK (ts (rm rfl (ro rfl (dG U_75 (Ht rfl) aA) (ro rfl (cX (cJ 0)) (eX (eK ?_)))))))))))))))))
 refine gR (fun (k : Nat) (out : List (List Qi)) => lS (fun i => (m.getD i default).map Rt.q) m.length out k) (fun (k : Nat) (out : List (List Qi)) => m.length - k) (fun (k : Nat) (out : List (List Qi)) => [(3, Is B8), (9, Mi m), (10, NT .i64 m.length), (11, NT .i64 k)]) (fun (k : Nat) (out : List (List Qi)) => [bE 29 1 B8 (out.map Ci)]) 0 (List.replicate m.length []) (lS.start _ _ _)
  (zS rfl) (aU (bA (qH Ci _ _)) aY) (fun k out hS=>?_)
 refine ts (ro rfl (gW (Ht rfl) (Ht rfl)) (eX (cK (dQ (Ht rfl) (fun hk=>?_) (fun hk=>?_)))))
 ·simp only [decide_eq_true_eq] at hk
  have hlen:=hS.len
  have hrk : (m.getD k default).length ≤ 1000 := by
   have e:m.getD k default = m[k]:=by simp [List.getD,hk]
   rw [e]; exact hr _ (List.getElem_mem hk)
  refine cU (cK (eK (ts (rm rfl (ro rfl (dZ U_75 Z_22 (Ht rfl) (Ht rfl) rfl (dY (dU (d:=default) hk))) (ro rfl (dJ A_22 Z_22 (Ht rfl)) (ra rfl (ra rfl (eX (cY (rm rfl (rm rfl (rm rfl (ro rfl (cZ Tryz.call96 (xD zo) ⟨(Ht rfl),trivial⟩) (ro rfl (cC U_30 Z_29 (Ht rfl) (Ht rfl) rfl (i:=0) rfl (by first | omega | (simp; omega)) rfl) (jY Z_29 (Ht rfl) (Ht rfl) El.one (i:=0) rfl rfl (by first | omega | (simp; omega)) rfl (eX (bI ?_))))))))))))))))))
  refine cY (ro rfl (dV (Ht rfl) (cJ 1) z6) (rm rfl (eX (gZ (k + 1,_) (hS.next hk rfl) (by dsimp only; omega) (zS rfl) (aU (bA (fB Ci _ _ _)) aY)))))
 ·simp only [decide_eq_false_iff_not] at hk
  obtain rfl:k = m.length:=Nat.le_antisymm hS.kle zo
  have hfin:=hS.fin
  rw [qM m (fun r=>r.map Rt.q)] at hfin
  refine gU rfl (gK (i:=0) (tt:=3) rfl rfl eN (ts (rm rfl (ra rfl (eX (fU rfl (fV (eY rfl) ?_)))))))
  exact (iQ (by rw [hfin]))
theorem a0k {z:List Qi} {s:List (List Qi)} {L:Nat} (hz:cH z L) (hs:cF s L) (hL1:1 ≤ L) (hL:L ≤ 8796093022208) (hsh:iF s z.length z.length) (hl:z.length ≤ 1000):bB Tryz.prog 25 [dT z s,rG z s] (aC true):=by
 have hs1:=hsh.1
 refine bB.intro Tryz.func25 rfl Tryz.ntmps25 rfl (fun cx=>(ts (rn rfl (gQ (Ht rfl)) fun B2=>(rn rfl (gQ (Ht rfl)) fun B3=>(ro rfl (cQ cV) (eX (cK (cK (fW (m:=5) (dp 2 rfl (eW A_28 Z_28 (Ht rfl) (i:=0) rfl rfl rfl) (dq 13 0 rfl (cZ Tryz.call31 Au ⟨(Ht rfl),trivial⟩) (dp 3 rfl (eJ Iu (Ht rfl) rfl) (dq 15 2 rfl (fQ Tryz.isAgg29 Z_29 (Ht rfl) (i:=1) rfl rfl) (dq 16 3 rfl (dG U_29 (Ht rfl) aA) (fK bC rfl (by kernel_rfl) (zF (aJ (aV ?_))))))))))))))))))
 refine ro rfl (gD (Ht rfl) (Ht rfl)) (eX (fR (Ht rfl) (by simp) ?_))
 refine cU (cK (ts (ro rfl (eJ Iu (Ht rfl) rfl) (ro rfl (fQ Tryz.isAgg29 Z_29 (Ht rfl) (i:=1) rfl rfl) (ro rfl (dG U_29 (Ht rfl) aA) (ro rfl (cX (cJ 0)) (eX (eK ?_))))))))
 refine dB (fun (i : Nat) => i ≤ z.length) (fun (i : Nat) => z.length - i) (fun (i : Nat) => [(2, cE B2 0), (3, cE B3 0), (20, Ci z), (21, NT .i64 z.length), (22, NT .i64 i)]) (fun (i : Nat) => [box B2 28 [bL z, eE s], box B3 32 [Ci z, QM s]]) 0 (Nat.zero_le _)
  (zS rfl) (cT.refl _) (fun i hi=>?_)
 refine ts (ro rfl (gW (Ht rfl) (Ht rfl)) (eX (cK (dQ (Ht rfl) (fun hd=>?_) (fun hd=>?_)))))
 ·simp only [decide_eq_true_eq] at hd
  haveI f1:aM (gv z i) L:=hz.get hL1 i
  have hsr:=hsh.row hd
  refine cU (cK (eK (ts (rm rfl (ro rfl (dZ U_29 Z_130 (Ht rfl) (Ht rfl) rfl (dY (dU (d:=Qi.zero) hd))) (ro rfl (dJ A_130 Z_130 (Ht rfl)) (rn rfl (eG (Ts:=[Is (.bool false),Is (.slice none 0 0),Is (.bool false),Is (.slice none 0 0),Is (.slice none 0 0)]) O_130 rfl (fun V=>aW zd (aW zd (aW zd (aW zd (aW zd (aG))))))) fun B6=>(ra rfl (gV Z_130 (Ht rfl) (Ht rfl) rfl (i:=2) rfl (aK rfl) rfl rfl ?_)))))))))
  refine eX (ts (ro rfl (eW A_28 Z_28 (Ht rfl) (i:=0) rfl rfl rfl) (rm rfl (ro rfl (dV (Ht rfl) (cJ 1) z6) (ro rfl (cZ Tryz.call67 (eQ (Nd (z:=z) (s:=s) (i:=((i + 1:Nat):Int)) zo) (Yw hd)) ⟨(Ht rfl),(Ht rfl),trivial⟩) (rm rfl (ro rfl (dK (Ht rfl) rfl) (ro rfl (dK (Ht rfl) rfl) (rn rfl (eG (Ts:=[Is (.bool false),Is (.slice none 0 0),Is (.bool false),Is (.slice none 0 0),Is (.slice none 0 0)]) O_60 rfl (fun V=>aW zd (aW zd (aW zd (aW zd (aW zd (aG))))))) fun B7=>?_)))))))))
  refine gV Z_60 (Ht rfl) (Ht rfl) rfl (i:=3) rfl (aK rfl) rfl rfl (ra rfl (eX (cK (ts (rm rfl (ro rfl (gY (Ht rfl) cV) (rm rfl (fJ rfl rfl (eU rfl rfl (Ht rfl) (fun h=>eW A_60 Z_60 (Ht rfl) (i:=3) rfl rfl rfl)) (fJ rfl rfl (eU rfl rfl (Ht rfl) (fun h=>eW A_130 Z_130 (Ht rfl) (i:=2) rfl rfl rfl)) (fJ rfl rfl (eU rfl rfl (Ht rfl) (fun h=>cZ Tryz.call79 (Ib (x:=gv z i) (y:=gv z i) (L:=L) (M:=L) hL hL) ⟨(fG rfl h),(fG rfl h),trivial⟩)) (fJ rfl rfl (eU rfl rfl (Ht rfl) (fun h=>fO (fG rfl h))) ?_)))))))))))
  refine ro rfl (kH (Ht rfl) (fun h=>(fG rfl h))) (eX (fR (Ht rfl) (by simp) ?_))
  refine cU (ts (ro rfl (eJ Tc (Ht rfl) rfl) (ro rfl (fQ Tryz.isAgg30 Tryz.sizeOf30 (Ht rfl) (i:=1) rfl rfl) (rm rfl (ro rfl (dZ U_30 Z_29 (Ht rfl) (Ht rfl) rfl (dY (dU (d:=[]) zo))) (ro rfl (dJ Tryz.isAgg29 Z_29 (Ht rfl)) (ro rfl (dG U_29 (Ht rfl) aA) (ro rfl (cX (cJ 0)) (eX (eK (bO [0,1] rfl (by decide) ?_)))))))))))
  refine dB (fun (j : Nat) => j ≤ z.length) (fun (j : Nat) => z.length - j) (fun (j : Nat) => [(2, cE B2 0), (3, cE B3 0), (5, NT .i64 i), (20, Ci z), (21, NT .i64 z.length), (22, NT .i64 i), (46, Ci (s.getD i [])), (47, NT .i64 z.length), (48, NT .i64 j)]) (fun (j : Nat) => [box B2 28 [bL z, eE s], box B3 32 [Ci z, QM s]]) 0 (Nat.zero_le _)
   (aQ rfl (aQ rfl (aQ rfl (aQ rfl (aQ rfl (aQ rfl (aQ rfl (aZ rfl (kT hsr) (zS rfl))))))))) (cT.refl _) (fun j hj=>?_)
  refine ts (ro rfl (gW (Ht rfl) (Ht rfl)) (eX (cK (dQ (Ht rfl) (fun hf=>?_) (fun hf=>?_)))))
  ·simp only [decide_eq_true_eq] at hf
   haveI f2:aM (gm s i j) L:=hs.get hL1 i j
   refine cU (cK (eK (ts (rm rfl (ro rfl (dZ U_29 Z_130 (Ht rfl) (Ht rfl) rfl (dY (dU (d:=Qi.zero) zo))) (ro rfl (dJ A_130 Z_130 (Ht rfl)) (rn rfl (eG (Ts:=[Is (.bool false),Is (.slice none 0 0),Is (.bool false),Is (.slice none 0 0),Is (.slice none 0 0)]) O_130 rfl (fun V=>aW zd (aW zd (aW zd (aW zd (aW zd (aG))))))) fun B10=>(ra rfl (gV Z_130 (Ht rfl) (Ht rfl) rfl (i:=2) rfl (aK rfl) rfl rfl ?_)))))))))
   refine eX (ts (ro rfl (eW A_28 Z_28 (Ht rfl) (i:=0) rfl rfl rfl) (rm rfl (ro rfl (dV (Ht rfl) (cJ 1) z6) (rm rfl (ro rfl (dV (Ht rfl) (cJ 1) z6) (ro rfl (cZ K_39 (eQ (Rz (z:=z) (s:=s) (i:=((i + 1:Nat):Int)) (j:=((j + 1:Nat):Int)) hsh zo) (a0x hd hf)) ⟨(Ht rfl),(Ht rfl),(Ht rfl),trivial⟩) (rm rfl (ro rfl (dK (Ht rfl) rfl) (ro rfl (dK (Ht rfl) rfl) ?_))))))))))
   refine rn rfl (eG (Ts:=[Is (.bool false),Is (.slice none 0 0),Is (.bool false),Is (.slice none 0 0),Is (.slice none 0 0)]) O_60 rfl (fun V=>aW zd (aW zd (aW zd (aW zd (aW zd (aG))))))) fun B11=>gV Z_60 (Ht rfl) (Ht rfl) rfl (i:=3) rfl (aK rfl) rfl rfl (ra rfl (eX (ts (rm rfl (ro rfl (gY (Ht rfl) cV) (rm rfl (fJ rfl rfl (eU rfl rfl (Ht rfl) (fun h=>eW A_60 Z_60 (Ht rfl) (i:=3) rfl rfl rfl)) ?_)))))))
   refine fJ rfl rfl (eU rfl rfl (Ht rfl) (fun h=>eW A_130 Z_130 (Ht rfl) (i:=2) rfl rfl rfl)) (fJ rfl rfl (eU rfl rfl (Ht rfl) (fun h=>cZ Tryz.call79 (Ib (x:=gm s i j) (y:=gm s i j) (L:=L) (M:=L) hL hL) ⟨(fG rfl h),(fG rfl h),trivial⟩)) (fJ rfl rfl (eU rfl rfl (Ht rfl) (fun h=>fO (fG rfl h))) (ro rfl (kH (Ht rfl) (fun h=>(fG rfl h))) (eX (fR (Ht rfl) (by simp) ?_)))))
   refine cU (bI (cY (ro rfl (dV (Ht rfl) (cJ 1) z6) (rm rfl (eX (bO [0,1] rfl (by decide) (gZ (j + 1) hf zo (zS rfl) (cT.refl _))))))))
  ·refine gU rfl (bI (cY (ro rfl (dV (Ht rfl) (cJ 1) z6) (rm rfl (eX (bO [0,1] rfl (by decide) (gZ (i + 1) hd zo (zS rfl) (cT.refl _))))))))
 ·refine gU rfl (ts (ro rfl (cQ cV) (eX ?_)))
  exact fU rfl (eY rfl)
end
section
open Go Go.RowKit
theorem Ar {n : Nat} {E : bT} {H : Hp} {d : Option Tmp} {t : TypeId} {pos : String} {af : Array Edge} {g : Option (Nat × Bool)} {x0 x1 x2 : Operand} {T0 T1 T2 : Ty} [s0 : cP T0 1 false] (h0 : aR E x0 T0) [s1 : cP T1 1 false] (h1 : aR E x1 T1) [s2 : cP T2 1 false] (h2 : aR E x2 T2) :
  aE Tryz.prog n E H ⟨d,.build 48 #[(0,x0),(1,x1),(2,x2)],t,pos,af,g⟩ (dR [T0,T1,T2]) :=
 gO (parts := [(0, x0), (1, x1), (2, x2)]) fun a V w hs => by
  have p0:=h0 n V a hs
  generalize e0:a.eval x0 = v0 at p0
  have q0:=(s0.ok v0 V p0).2.2 rfl
  have p1:=h1 n V a hs
  generalize e1:a.eval x1 = v1 at p1
  have q1:=(s1.ok v1 V p1).2.2 rfl
  have p2:=h2 n V a hs
  generalize e2:a.eval x2 = v2 at p2
  have q2:=(s2.ok v2 V p2).2.2 rfl
  refine ⟨.agg #[v0,v1,v2],?_,[v0,v1,v2],rfl,aW (⟨p0,q0⟩) (aW (⟨p1,q1⟩) (aW (⟨p2,q2⟩) (aG)))⟩
  simp [e0,e1,e2,Instr.build,Instr.fill,Sem.run_bind,Result.andThen,fD,q0.cells,q1.cells,q2.cells,O_48,U_48,Z_2]
end
section
open Go Go.RowKit
theorem Wg {x:Qi} {l m:List Qi} {L M n:Nat} (hx:aM x M) (hl:cH l L) (hm:cH m L) (hL:1 ≤ L) (hll:l.length = n) (hml:m.length = n) (hn:n ≤ 1000) (hb:M + n * (2 * L + 2) ≤ 17592186044415):bB Tryz.prog 127 [aD x,bL l,bL m] (aD (tO x l m n)):=by
 refine bB.intro Tryz.func127 rfl Tryz.ntmps127 rfl (fun cx=>(ts (rn rfl (gQ (Ht rfl)) fun B3=>(rn rfl (eG (Ts:=[Is (.bool false),Is (.slice none 0 0),Is (.bool false),Is (.slice none 0 0),Is (.slice none 0 0)]) O_60 rfl (fun V=>aW zd (aW zd (aW zd (aW zd (aW zd (aG))))))) fun B6=>(eX (cK (ts (rm rfl (ro rfl (dG U_25 (Ht rfl) (by rw [List.length_map,hll])) ?_)))))))))
 refine ro rfl (cX (cJ 0)) (eX (eK ?_))
 refine dB (fun (k : Nat) => k ≤ n) (fun (k : Nat) => n - k) (fun (k : Nat) => [(1, bL l), (2, bL m), (3, cE B3 0), (6, cE B6 0), (9, NT .i64 n), (10, NT .i64 k)]) (fun (k : Nat) => [box B3 60 [aC (decide ((tO x l m k).a < 0)), aL (tO x l m k).a.natAbs, aC (decide ((tO x l m k).b < 0)), aL (tO x l m k).b.natAbs, aL (du (tO x l m k))], box B6 60 [Is (.bool false), Is (.slice none 0 0), Is (.bool false), Is (.slice none 0 0), Is (.slice none 0 0)]]) 0 (Nat.zero_le _)
  (zS rfl) (cT.refl _) (fun k hk=>?_)
 refine ts (ro rfl (gW (Ht rfl) (Ht rfl)) (eX (cK (dQ (Ht rfl) (fun hd=>?_) (fun hd=>?_)))))
 ·simp only [decide_eq_true_eq] at hd
  haveI f1:=Dj hx hl hm hL k
  haveI f2:=hl.get hL k
  haveI f3:=hm.get hL k
  have hkn:(k + 1) * (2 * L + 2) ≤ n * (2 * L + 2):=Nat.mul_le_mul_right _ hd
  rw [Nat.add_mul] at hkn
  refine cU (cK (eK (ts (rm rfl (ra rfl (eX (fW (m:=12) (dp 3 rfl (eW A_60 Z_60 (Ht rfl) (i:=0) rfl rfl rfl) (dq 13 0 rfl (bH bR (Ht rfl)) (dp 1 rfl (cX (Ht rfl)) (dp 7 rfl (cX (Ht rfl)) (dP 15 2 16 3 rfl (dZ U_25 Z_60 (Ht rfl) (Ht rfl) rfl (dY (dU (d:=Qi.zero) zo))) (dq 17 4 rfl (dJ A_60 Z_60 (Ht rfl)) (dq 18 5 rfl (bH bR (Ht rfl)) (dp 2 rfl (cX (Ht rfl)) (dp 7 rfl (cX (Ht rfl)) (dP 20 7 21 8 rfl (dZ U_25 Z_60 (Ht rfl) (Ht rfl) rfl (dY (dU (d:=Qi.zero) zo))) ?_)))))))))))))))))
  refine dq 22 9 rfl (dJ A_60 Z_60 (Ht rfl)) (dP 19 6 23 10 rfl (bD dC K_70 (kQ (x:=gv l k) (y:=gv m k) (L:=L) (M:=L) zo) (Ht rfl) ⟨(Ht rfl),trivial⟩) (fK bC rfl (by kernel_rfl) (zF (zF (zF (aV (ro rfl (bD mA K_71 (wW (x:=tO x l m k) (y:=gv l k * gv m k) (L:=M + k * (2 * L + 2)) (M:=L + L + 1) zo) (Ht rfl) ⟨(Ht rfl),trivial⟩) (gV Z_60 (Ht rfl) (Ht rfl) rfl (i:=0) rfl (aK rfl) rfl rfl ?_))))))))
  refine eX (bI (cY (ro rfl (dV (Ht rfl) (cJ 1) z6) (rm rfl (eX (gZ (k + 1) hd zo (zS rfl) (cT.refl _)))))))
 ·simp only [decide_eq_false_iff_not] at hd
  obtain rfl:k = n:=Nat.le_antisymm hk zo
  refine gU rfl (ts (ro rfl (eW A_60 Z_60 (Ht rfl) (i:=0) rfl rfl rfl) (gV Z_60 (Ht rfl) (Ht rfl) rfl (i:=1) rfl (aK rfl) rfl rfl (eX ?_))))
  exact fU rfl (gX A_60 Z_60 rfl (i:=1) rfl rfl)
theorem Hy {z a:List Qi} {s:List (List Qi)} {L:Nat} (hs:iF s z.length z.length) (hf:cF s L) (ha:cH a L) (hL:1 ≤ L) (hLb:L ≤ 3000000000) (h1:1 ≤ z.length) (hl:z.length ≤ 1000):bB Tryz.prog 63 [dT z s,bL a] (dM [bL (kX (yZ z.length a.length) (jZ s a z.length)),aF .i64 (yZ z.length a.length)]):=by
 have hsl:=hs.1
 refine bB.intro Tryz.func63 rfl Tryz.ntmps63 rfl (fun cx=>(ts (rn rfl (gQ (Ht rfl)) fun B2=>(ro rfl (cQ cV) (ro rfl (cQ (cJ 0)) (eX (cK (ts (rm rfl (ro rfl (dG U_25 (Ht rfl) aA) (ro rfl (eJ iG (Ht rfl) rfl) (ro rfl (fQ A_25 Z_25 (Ht rfl) (i:=0) rfl rfl) (ro rfl (dG U_25 (Ht rfl) aA) (ro rfl (gD (Ht rfl) (Ht rfl)) (eX (dQ (Ht rfl) (fun hb=>?_) (fun hb=>?_)))))))))))))))))
 ·have hn : ¬ a.length = z.length := by simpa using hb
  have he:yZ z.length a.length = 4:=by rw [yZ,if_neg hn]
  refine ts (ro rfl (cQ cV) (ro rfl (cQ (cJ 4)) (eX (bN rfl (fV (eY rfl) ?_) (fV (eY rfl) ?_)))))
  ·exact (fun v V h=>by rw [he]; exact iO v V h)
  ·exact (aT he.symm)
 ·have hn : a.length = z.length := by simpa using hb
  have he:yZ z.length a.length = 0:=by rw [yZ,if_pos hn]
  refine cU (ts (rm rfl (ro rfl (dG U_25 (Ht rfl) (by rw [List.length_map,hn])) ?_)))
  refine rn rfl (iJ (T:=aD Qi.zero) (i:=Tryz.t60) jP iM rfl rfl (Ht rfl) rfl gH (El.ag rfl) (by show 88 * _ ≤ _; omega) zo) fun B17=>ra rfl (eX (cK (ts (ro rfl (eJ eT (Ht rfl) rfl) (ro rfl (fQ A_26 Z_26 (Ht rfl) (i:=0) rfl rfl) (ro rfl (dG U_26 (Ht rfl) (by rw [List.length_map,hsl])) ?_))))))
  refine ro rfl (cX (cJ 0)) (eX (eK ?_))
  refine dB (fun (i : Nat) => i ≤ z.length) (fun (i : Nat) => z.length - i) (fun (i : Nat) => [(1, bL a), (2, cE B2 0), (6, Is B17), (19, eE s), (20, NT .i64 z.length), (21, NT .i64 i)]) (fun (i : Nat) => [box B2 28 [bL z, eE s], bE 60 5 B17 ((kA (fun i => Lz (s.getD i []) a z.length) Qi.zero z.length i).map aD)]) 0 (Nat.zero_le _)
   (zS rfl) (aU (aB rfl) (aU (bA (by rw [← iN]; exact nT aD z.length)) aY)) (fun i hi=>?_)
  refine ts (ro rfl (gW (Ht rfl) (Ht rfl)) (eX (cK (dQ (Ht rfl) (fun hd=>?_) (fun hd=>?_)))))
  ·simp only [decide_eq_true_eq] at hd
   have hsr:=hs.row hd
   haveI f1:aM (gm s i 0) L:=hf.get hL i 0
   haveI f2:aM (gv a 0) L:=ha.get hL 0
   have hnl:(z.length - 1) * (2 * L + 2) ≤ 1000 * (2 * L + 2):=Nat.mul_le_mul_right _ zo
   have hda:=Gn (s.getD i []) a (z.length - 1)
   rw [show z.length - 1 + 1 = z.length by omega] at hda
   refine cU (cK (eK (ts (rm rfl (ro rfl (dZ U_26 Z_25 (Ht rfl) (Ht rfl) rfl (dY (dU (d:=[]) zo))) (ro rfl (dJ A_25 Z_25 (Ht rfl)) (ra rfl (ra rfl (eX (fW (m:=15) (dp 6 rfl (cX (Ht rfl)) (dp 7 rfl (cX (Ht rfl)) (dp 8 rfl (cX (Ht rfl)) (dq 28 2 rfl (dZ U_25 Z_60 (Ht rfl) (cJ 0) rfl (dY (dU (d:=Qi.zero) zo))) (dq 29 3 rfl (dJ A_60 Z_60 (Ht rfl)) (dq 30 4 rfl (bH bR (Ht rfl)) (dp 1 rfl (cX (Ht rfl)) ?_)))))))))))))))))
   refine dq 32 6 rfl (dZ U_25 Z_60 (Ht rfl) (cJ 0) rfl (dY (dU (d:=Qi.zero) zo))) (dq 33 7 rfl (dJ A_60 Z_60 (Ht rfl)) (dP 31 5 34 8 rfl (bD dC K_70 (kQ (x:=gm s i 0) (y:=gv a 0) (L:=L) (M:=L) zo) (Ht rfl) ⟨(Ht rfl),trivial⟩) (dp 8 rfl (cX (Ht rfl)) (dq 36 10 rfl (aE.imp (nF U_25 Z_60 (Ht rfl) (cJ 1) rfl (by rw [List.length_map]; omega)) (iQ (Us:=((s.getD i []).drop 1).map aD) (by rw [List.map_drop]))) ?_))))
   refine dp 1 rfl (cX (Ht rfl)) (dq 38 12 rfl (aE.imp (nF U_25 Z_60 (Ht rfl) (cJ 1) rfl (by rw [List.length_map]; omega)) (iQ (Us:=(a.drop 1).map aD) (by rw [List.map_drop]))) ?_)
   refine C.D_step (Ei:=[(35,_),(37,_),(39,_)]) rfl rfl (bV (bG 9 rfl rfl) (bV (bG 11 rfl rfl) (bV (bG 13 rfl rfl) bW))) (dX rfl (cZ Tryz.call127 (eQ (Wg (x:=gm s i 0 * gv a 0) (l:=(s.getD i []).drop 1) (m:=a.drop 1) (L:=L) (M:=L + L + 1) (n:=z.length - 1) inferInstance (sG (hf.row i)) (sG ha) hL (by rw [List.length_drop]; omega) (by rw [List.length_drop]; omega) zo zo) (iX hda)) ⟨(Ht rfl),(Ht rfl),(Ht rfl),trivial⟩)) ?_
   refine fK bC rfl (by kernel_rfl) (zF (zF (zF (aJ (aJ (aJ (aV (ro rfl (cC U_25 Z_60 (Ht rfl) (Ht rfl) rfl (i:=1) rfl (by rw [List.length_map,cR]; omega) rfl) ?_))))))))
   refine jY Z_60 (Ht rfl) (Ht rfl) (El.ag rfl) (i:=1) rfl rfl (by rw [List.length_map,cR]; omega) rfl ?_
   refine eX (bI (cY (ro rfl (dV (Ht rfl) (cJ 1) z6) (rm rfl (eX (gZ (i + 1) hd zo (zS rfl) (aU (aB rfl) (aU (bA (by rw [fB,← jJ (f:=(fun i=>Lz (s.getD i []) a z.length))])) aY))))))))
  ·simp only [decide_eq_false_iff_not] at hd
   have hiz:i = z.length:=Nat.le_antisymm hi zo
   rw [hiz,jI]
   refine gU rfl (gK (i:=1) (tt:=6) rfl rfl eN (ts (rm rfl (ra rfl (ro rfl (cQ (cJ 0)) (eX (bN rfl (fV (eY rfl) ?_) (fV (eY rfl) ?_))))))))
   ·exact (iQ (by rw [he]; rfl))
   ·exact (aT he.symm)
theorem Az {r:Rt}:bB Tryz.prog 128 [lG r] (lG (tY r)):=by
 have b1:=jE r.den (b:=4) (by decide)
 refine bB.intro Tryz.func128 rfl Tryz.ntmps128 rfl (fun cx=>(ts (rn rfl (gQ (Ht rfl)) fun B1=>(rn rfl (eG (Ts:=[Is (.int .i64 0),Is (.int .i64 0),Is (.int .i64 0)]) O_48 rfl (fun V=>aW zd (aW zd (aW zd (aG))))) fun B2=>(eX (ts (ro rfl (eJ nP (Ht rfl) rfl) (ro rfl (fQ A_2 Z_2 (Ht rfl) (i:=0) rfl rfl) (ro rfl (Bu (Ht rfl) cV (by decide) rfl) (ra rfl (eX (cK (iT (fun (d:Int)=>d = oD (r.den.tmod 4)) (fun (d:Int)=>[(1,cE B1 0),(2,cE B2 0),(3,aF .i64 d)]) (fun (d:Int)=>[box B1 48 [aF .i64 r.re,aF .i64 r.im,aF .i64 r.den],box B2 48 [Is (.int .i64 0),Is (.int .i64 0),Is (.int .i64 0)]]) ?_ (fun d hd=>?_))))))))))))))
 ·refine ts (rm rfl (ro rfl (pG (Ht rfl) cV) (eX (dQ (Ht rfl) (fun hb => ?_) (fun hb => ?_)))))
  ·have hb2 : r.den.tmod 4 < 0 := of_decide_eq_true hb
   refine cY (rm rfl (ro rfl (Bt (Ht rfl) (tB zo)) (ra rfl (eX (aP (-(r.den.tmod 4)) (by rw [oD,if_pos hb2]) (zS rfl) (cT.refl _))))))
  ·have hb2 : ¬ r.den.tmod 4 < 0 := of_decide_eq_false hb
   refine cU (aP (r.den.tmod 4) (by rw [oD,if_neg hb2]) (zS rfl) (cT.refl _))
 ·have b2 := pR b1
  rw [← hd] at b2
  refine ts (ro rfl (eJ oY (Ht rfl) rfl) (ro rfl (fQ A_2 Z_2 (Ht rfl) (i:=0) rfl rfl) (ro rfl (Bu (Ht rfl) cV (by decide) rfl) (ro rfl (eJ Bf (Ht rfl) rfl) (ro rfl (fQ A_2 Z_2 (Ht rfl) (i:=0) rfl rfl) (ro rfl (Bu (Ht rfl) cV (by decide) rfl) (rm rfl (ro rfl (xV (Ht rfl) cV (tB zo)) (ro rfl (Ar (Ht rfl) (Ht rfl) (Ht rfl)) (gV Z_48 (Ht rfl) (Ht rfl) rfl (i:=1) rfl (aK rfl) rfl rfl (eX (fU rfl (fV (gX A_48 Z_48 rfl (i:=1) rfl rfl) ?_)))))))))))))
  exact (fun v V h=>by rw [hd] at h; exact h)
theorem Sh {r:Rt}:bB Tryz.prog 34 [lG r] (lG (Rh r)):=by
 have b1:-9 < (tY r).re ∧ (tY r).re < 9:=jE r.re (b:=9) (by decide)
 refine bB.intro Tryz.func34 rfl Tryz.ntmps34 rfl (fun cx=>(ts (rn rfl (gQ (Ht rfl)) fun B1=>(rn rfl (eG (Ts:=[Is (.int .i64 0),Is (.int .i64 0),Is (.int .i64 0)]) O_48 rfl (fun V=>aW zd (aW zd (aW zd (aG))))) fun B2=>(eX (ts (ro rfl (eW A_48 Z_48 (Ht rfl) (i:=0) rfl rfl rfl) (ro rfl (cZ Tryz.call128 Az ⟨(Ht rfl),trivial⟩) (rn rfl (eG (Ts:=[Is (.int .i64 0),Is (.int .i64 0),Is (.int .i64 0)]) O_48 rfl (fun V=>aW zd (aW zd (aW zd (aG))))) fun B3=>?_)))))))))
 refine gV Z_48 (Ht rfl) (Ht rfl) rfl (i:=2) rfl (aK rfl) rfl rfl (eX (cK (iT (fun (x:Int)=>x = oD (tY r).re) (fun (x:Int)=>[(1,cE B1 0),(2,cE B2 0),(3,cE B3 0)]) (fun (x:Int)=>[box B1 48 [aF .i64 r.re,aF .i64 r.im,aF .i64 r.den],box B2 48 [Is (.int .i64 0),Is (.int .i64 0),Is (.int .i64 0)],box B3 48 [aF .i64 x,aF .i64 (tY r).im,aF .i64 (tY r).den]]) ?_ (fun x hx=>?_))))
 ·refine ts (ro rfl (eJ oY (Ht rfl) rfl) (ro rfl (fQ A_2 Z_2 (Ht rfl) (i := 2) rfl rfl) (ro rfl (pG (Ht rfl) cV) (eX (dQ (Ht rfl) (fun hb => ?_) (fun hb => ?_))))))
  ·have hb2 : (tY r).re < 0 := of_decide_eq_true hb
   refine cY (ro rfl (eJ oY (Ht rfl) rfl) (ro rfl (fQ A_2 Z_2 (Ht rfl) (i:=2) rfl rfl) (ro rfl (Bt (Ht rfl) (tB zo)) (ro rfl (eJ oY (Ht rfl) rfl) (kE Z_2 (Ht rfl) (Ht rfl) (i:=2) rfl (aK rfl) rfl (eX (aP (-((tY r).re)) (by rw [oD,if_pos hb2]) (zS rfl) (cT.refl _))))))))
  ·have hb2 : ¬ (tY r).re < 0 := of_decide_eq_false hb
   refine cU (aP ((tY r).re) (by rw [oD,if_neg hb2]) (zS rfl) (cT.refl _))
 ·have b2 := pR b1
  rw [← hx] at b2
  refine ts (ro rfl (eJ oY (Ht rfl) rfl) (ro rfl (fQ A_2 Z_2 (Ht rfl) (i:=2) rfl rfl) (ro rfl (xV (Ht rfl) cV (tB zo)) (ro rfl (eJ nP (Ht rfl) rfl) (ro rfl (fQ A_2 Z_2 (Ht rfl) (i:=2) rfl rfl) (ro rfl (wV (Ht rfl) (Ht rfl)) (gV Z_48 (Ht rfl) (Ht rfl) rfl (i:=1) rfl (aK rfl) rfl rfl (eX (fU rfl (fV (gX A_48 Z_48 rfl (i:=1) rfl rfl) ?_))))))))))
  exact (fun v V h=>by rw [hx] at h; exact h)
theorem Gi {l:List Rt} {i:Nat}:bB Tryz.prog 166 [jD l,NT .i64 i] (lG (zC l i)):=by
 refine bB.intro Tryz.func166 rfl Tryz.ntmps166 rfl (fun cx=>(ts (rn rfl (eG (Ts:=[Is (.int .i64 0),Is (.int .i64 0),Is (.int .i64 0)]) O_48 rfl (fun V=>aW zd (aW zd (aW zd (aG))))) fun B4=>(eX (cK (ts (rm rfl (ro rfl (dG U_22 (Ht rfl) aA) (ro rfl (cB (Ht rfl) (cJ 0)) (eX (dQ (Ht rfl) (fun hb=>?_) (fun hb=>?_))))))))))))
 ·have hb2 : l.length = 0 := by simpa only [decide_eq_true_eq] using hb
  refine ts (ro rfl (Rx ) (gV Z_48 (Ht rfl) (Ht rfl) rfl (i:=0) rfl (aK rfl) rfl rfl (eX (fU rfl (fV (gX A_48 Z_48 rfl (i:=0) rfl rfl) ?_)))))
  exact (fun v V h=>by rw [zC,if_pos hb2]; exact h)
 ·have hb2 : ¬ l.length = 0 := by simpa only [decide_eq_false_iff_not] using hb
  have hm:=Nat.mod_lt i (Nat.pos_of_ne_zero hb2)
  refine cU (ts (rm rfl (rm rfl (rm rfl (ro rfl (dG U_22 (Ht rfl) aA) (ro rfl (jW (Ht rfl) (Ht rfl) zo) (ro rfl (dZ U_22 Z_48 (Ht rfl) (Ht rfl) rfl (dY (dU (d:=default) hm))) (ro rfl (dJ A_48 Z_48 (Ht rfl)) (gV Z_48 (Ht rfl) (Ht rfl) rfl (i:=0) rfl (aK rfl) rfl rfl (eX (fU rfl (fV (gX A_48 Z_48 rfl (i:=0) rfl rfl) ?_))))))))))))
  exact (fun v V h=>by rw [zC,if_neg hb2]; exact h)
end
section
open Go Go.RowKit
theorem Ir (a:Addr) (w:World):(Instr.fieldAt 24 (.pointer (some a)) 0).run Tryz.prog w = .ok (.pointer (some (a.add 0))) w:=by
 simp [Instr.fieldAt,Instr.sureAddr,fieldPlace,Sem.run_bind,Result.andThen,U_24,Z_5]
theorem Ta (a:Addr) (w:World):(Instr.fieldAt 24 (.pointer (some a)) 1).run Tryz.prog w = .ok (.pointer (some (a.add 1))) w:=by
 simp [Instr.fieldAt,Instr.sureAddr,fieldPlace,Sem.run_bind,Result.andThen,U_24,Z_22]
theorem Tb (a:Addr) (w:World):(Instr.fieldAt 24 (.pointer (some a)) 2).run Tryz.prog w = .ok (.pointer (some (a.add 2))) w:=by
 simp [Instr.fieldAt,Instr.sureAddr,fieldPlace,Sem.run_bind,Result.andThen,U_24,Z_22]
theorem Tl:Tryz.prog.info? 22 = some Tryz.t22:=by kernel_rfl
theorem Ix:Tryz.prog.info? 48 = some Tryz.t48:=by kernel_rfl
theorem Rc:Tryz.prog.underlying 22 = some (.slice 48):=by kernel_rfl
end
section
open Go Go.RowKit
abbrev zD (a:Nat) (zl sl:List Rt):Ty:=dR [NT .u8 a,jD zl,jD sl]
theorem Py:∀ V,(lG default).p (.agg #[.int .i64 0,.int .i64 0,.int .i64 0]) V:=fun V=>⟨[.int .i64 0,.int .i64 0,.int .i64 0],rfl,aW zd (aW zd (aW zd aG))⟩
theorem a0K {B e s l:Nat} {BT:TypeId} {Rs:List (List Ty)} {q:Value → Prop} (hl:l = Rs.length):∀ u S V,(Is (.slice (some ⟨B,0,none⟩) l l)).p u V → (rE q B BT e s Rs).h S V V → (jK 1 (Rs.map (jK s))).p u V:=fun u S V h1 h2=>Bh hl (Nat.le_refl _) u S V h1 h2
theorem Px (a:Nat) (sl:List Rt):(tab (kY a) fun i=>tab (kY a) fun j=>lG (tY (zC sl (kY a * i + j)))).map (jK 3) = (sR a sl).map jD:=by
 rw [sR,mO,mO]
 refine eB fun i _=>?_
 rw [jD,mO]
theorem Nb {a:Nat} {zl sl:List Rt} (ha:a < 256):gP Tryz.prog 92 [zD a zl sl] [] (Nat) (fun B=>dM [jD (pL a zl),Is (.slice (some ⟨B,0,none⟩) (kY a) (kY a))]) (fun B=>[pD B 22 48 3 (tab (kY a) (fun i=>tab (kY a) fun j=>lG (tY (zC sl (kY a * i + j)))))]) (fun _=>True):=by
 have hn:kY a ≤ 4:=by unfold kY; omega
 have hn0:a % 4 + 1 = kY a:=rfl
 refine gP.intro Tryz.func92 rfl Tryz.ntmps92 rfl (fun cx Z=>(ts (rn rfl (gQ (Ht rfl)) fun B1=>(ro rfl (cQ cV) (ro rfl (cQ cV) (eX (ts (ro rfl (eJ Ir (Ht rfl) rfl) (ro rfl (fQ A_5 Z_5 (Ht rfl) (i:=1) rfl rfl) (ro rfl (jW (Ht rfl) (cJ 4) zo) (ro rfl (gG U_5 U_3 (Ht rfl) z6) (ro rfl (aE.nat (dV (Ht rfl) (cJ 1) z6) hn0) ?_))))))))))))
 refine ra rfl (eX (cK (fW (m:=5) (dp 4 rfl (cX (Ht rfl)) (C.D_new (Ei:=[(14,_)]) rfl rfl rfl (bV (bG 0 rfl rfl) bW) (iJ (T:=lG default) (i:=Tryz.t48) Rc Ix rfl rfl (Ht rfl) rfl Py (El.ag rfl) (by show 24 * _ ≤ _; omega) zo) (dp 4 rfl (cX (Ht rfl)) (C.D_new (Ei:=[(16,_)]) rfl rfl rfl (bV (bG 2 rfl rfl) bW) (fM (T:=Is (.slice none 0 0)) (i:=Tryz.t22) Tryz.underlying75 Tl rfl rfl (Ht rfl) rfl (fun _=>rfl) trivial (by show 24 * _ ≤ _; omega) zo) (C.D_cpy 1 rfl rfl rfl rfl rfl C.cpy_assign ?_))))))))
 refine fK bC rfl (by kernel_rfl) (aJ (C.F_new (fun B15=>aJ (C.F_new (fun B17=>C.F_cpy rfl (aV (ra rfl (eX (cK (ts (rm rfl (ro rfl (kL U_22 (Ht rfl) (i:=2) rfl (show ((List.replicate (kY a) (lG default)).length:Int) = ((kY a:Nat):Int) from by simp)) (ro rfl (cX (cJ 0)) (eX (eK (lI 3 rfl (vW (e:=48) (s:=3)) ?_))))))))))))))))
 refine dB (fun (i : Nat) => i ≤ kY a) (fun (i : Nat) => kY a - i) (fun (i : Nat) => [(1, cE B1 0), (4, NT .i64 (kY a)), (5, Is B15), (6, Is (.slice (some ⟨B17, 0, none⟩) (kY a) (kY a))), (19, NT .i64 (kY a)), (20, NT .i64 i)]) (fun (i : Nat) => [Z, box B1 24 [NT .u8 a, jD zl, jD sl], bE 48 3 B15 (kA (fun i => lG (Rh (zC zl i))) (lG default) (kY a) i), pD B17 22 48 3 (kA (fun i => tab (kY a) fun j => lG (tY (zC sl (kY a * i + j)))) [] (kY a) i)]) 0 (Nat.zero_le _)
  (aQ rfl (aQ rfl (aQ rfl (aQ rfl (aZ rfl (kT (by simp)) (zS rfl)))))) (aU (fun _ _ _ h=>h) (aU (aB rfl) (aU (bA (by rw [← iN]; exact sX _ _)) (aU (gC (by rw [← iN]; exact sX _ _)) aY)))) (fun i hi=>?_)
 refine ts (ro rfl (gW (Ht rfl) (Ht rfl)) (eX (cK (dQ (Ht rfl) (fun hd=>?_) (fun hd=>?_)))))
 ·simp only [decide_eq_true_eq] at hd
  have hni:kY a * i ≤ 4 * 4:=Nat.mul_le_mul hn zo
  refine qO 3 (i) rfl (Je hd) (fun v0=>(cU (cK (eK (ts (rm rfl (ra rfl (eX (ts (rm rfl (rm rfl (ro rfl (eJ Ta (Ht rfl) rfl) (ro rfl (fQ A_22 Z_22 (Ht rfl) (i:=1) rfl rfl) (rm rfl (ro rfl (cZ Tryz.call166 Gi ⟨(Ht rfl),(Ht rfl),trivial⟩) (ro rfl (cZ Tryz.call34 Sh ⟨(Ht rfl),trivial⟩) (ro rfl (cC U_22 Z_48 (Ht rfl) (Ht rfl) rfl (i:=2) rfl (by rw [cR]; omega) rfl) ?_)))))))))))))))))
  refine jY Z_48 (Ht rfl) (Ht rfl) (El.ag rfl) (i:=2) rfl rfl (by rw [cR]; omega) rfl ?_
  refine eX (ts (rm rfl (rm rfl (rm rfl (rn rfl (iJ (T:=lG default) (i:=Tryz.t48) Rc Ix rfl rfl (Ht rfl) rfl Py (El.ag rfl) (by show 24 * _ ≤ _; omega) zo) fun B34=>(ro rfl (gJ U_75 Z_22 (Ht rfl) (Ht rfl) rfl zo (by rw [Nat.mul_one,Nat.zero_add])) ?_))))))
  refine zG Z_22 (Ht rfl) (Ht rfl) (by rw [cR]; omega) (j:=3) (l:=5) rfl rfl rfl ?_
  refine eX (cK (bO [0,1,2,3,5] rfl (by decide) (cY (rm rfl (rm rfl (ro rfl (gJ U_75 Z_22 (Ht rfl) (Ht rfl) rfl zo (by rw [Nat.mul_one,Nat.zero_add])) ?_))))))
  refine ro rfl (nY A_22 Z_22 (Ht rfl) (j:=3) rfl) (ro rfl (kL U_22 (Ht rfl) (i:=4) rfl (show ((List.replicate (kY a) (lG default)).length:Int) = ((kY a:Nat):Int) from by simp)) (ro rfl (cX (cJ 0)) (eX (eK ?_))))
  refine dB (fun (j : Nat) => j ≤ kY a) (fun (j : Nat) => kY a - j) (fun (j : Nat) => [(1, cE B1 0), (4, NT .i64 (kY a)), (5, Is B15), (6, Is (.slice (some ⟨B17, 0, none⟩) (kY a) (kY a))), (7, NT .i64 i), (19, NT .i64 (kY a)), (20, NT .i64 i), (40, NT .i64 (kY a)), (41, NT .i64 j)]) (fun (j : Nat) => [Z, box B1 24 [NT .u8 a, jD zl, jD sl], bE 48 3 B15 (kA (fun i => lG (Rh (zC zl i))) (lG default) (kY a) (i + 1)), Le B17 22 48 3 (kA (fun i => tab (kY a) fun j => lG (tY (zC sl (kY a * i + j)))) [] (kY a) i) i B34, bE 48 3 B34 (kA (fun j => lG (tY (zC sl (kY a * i + j)))) (lG default) (kY a) j)]) 0 (Nat.zero_le _)
   (zS rfl) (aU (fun _ _ _ h=>h) (aU (aB rfl) (aU (bA (jJ (f:=(fun i=>lG (Rh (zC zl i)))))) (aU (fun _ _ _ h=>h) (aU (bA (by rw [← iN]; exact sX _ _)) aY))))) (fun j hj=>?_)
  refine ts (ro rfl (gW (Ht rfl) (Ht rfl)) (eX (cK (dQ (Ht rfl) (fun he=>?_) (fun he=>?_)))))
  ·simp only [decide_eq_true_eq] at he
   refine cU (cK (eK (ts (rm rfl (ra rfl (eX (fW (m:=14) (dp 6 rfl (cX (Ht rfl)) (dp 7 rfl (cX (Ht rfl)) (dP 44 0 45 1 rfl (gJ U_75 Z_22 (Ht rfl) (Ht rfl) rfl zo (by rw [Nat.mul_one,Nat.zero_add])) ?_))))))))))
   refine dq 46 2 rfl (nY A_22 Z_22 (Ht rfl) (j:=3) rfl) (dp 8 rfl (cX (Ht rfl)) (dp 1 rfl (eJ Tb (Ht rfl) rfl) (dq 49 5 rfl (fQ A_22 Z_22 (Ht rfl) (i:=1) rfl rfl) (dp 4 rfl (cX (Ht rfl)) (dp 7 rfl (cX (Ht rfl)) (dP 51 7 52 8 rfl (jV (Ht rfl) (Ht rfl) (by show _ < 9223372036854775808; omega)) (dp 8 rfl (cX (Ht rfl)) (dP 53 9 54 10 rfl (dV (Ht rfl) (Ht rfl) (by show _ < 9223372036854775808; omega)) (dP 50 6 55 11 rfl (cZ Tryz.call166 Gi ⟨(Ht rfl),(Ht rfl),trivial⟩) (dq 56 12 rfl (cZ Tryz.call128 Az ⟨(Ht rfl),trivial⟩) ?_))))))))))
   refine fK bC rfl (by kernel_rfl) (zF (zF (zF (aJ (aJ (aV (ro rfl (cC U_22 Z_48 (Ht rfl) (Ht rfl) rfl (i:=4) rfl (by rw [cR]; omega) rfl) ?_)))))))
   refine jY Z_48 (Ht rfl) (Ht rfl) (El.ag rfl) (i:=4) rfl rfl (by rw [cR]; omega) rfl ?_
   refine eX (bI (cY (ro rfl (dV (Ht rfl) (cJ 1) z6) (rm rfl (eX (gZ (j + 1) he zo (zS rfl) (aU (fun _ _ _ h=>h) (aU (aB rfl) (aU (fun _ _ _ h=>h) (aU (fun _ _ _ h=>h) (aU (bA (jJ (f:=fun j=>lG (tY (zC sl (kY a * i + j)))))) aY)))))))))))
  ·simp only [decide_eq_false_iff_not] at he
   have hjn:j = kY a:=Nat.le_antisymm hj zo
   rw [hjn,jI]
   refine gU rfl (bI (lJ 3 4 rfl rfl (by decide) (by rw [cR]; omega) ?_))
   refine cY (ro rfl (dV (Ht rfl) (cJ 1) z6) (rm rfl (eX (bO [0,1,2,3] rfl (by decide) (gZ (i + 1) hd zo (zS rfl) (aU (fun _ _ _ h=>h) (aU (aB rfl) (aU (fun _ _ _ h=>h) (aU (gC (jJ (f:=(fun i=>tab (kY a) fun j=>lG (tY (zC sl (kY a * i + j))))))) aY)))))))))
 ·simp only [decide_eq_false_iff_not] at hd
  have hin:i = kY a:=Nat.le_antisymm hi zo
  rw [hin,jI,jI]
  refine gU rfl (gK (i:=2) (tt:=5) rfl rfl eN (ts (rm rfl (rm rfl (ra rfl (ra rfl (eX ?_)))))))
  exact kO B17 trivial [0,3] ⟨⟨_,rfl,fun _ _ _ h=>h⟩,⟨_,rfl,fun _ _ _ h=>h⟩,trivial⟩ (by decide) (Vf rfl (fV (eY rfl) (iQ (by rw [pL,mO]))) (eY rfl))
theorem a0W {T U U':Ty} {v:Value} {V:aN} (h:(dM [T,U]).p v V) (hU:∀ u,U.p u V → U'.p u V):(dM [T,U']).p v V:=by
 obtain ⟨vs,h1,h2⟩:=h
 match vs,h2 with
 | [x,y],⟨a,b,c⟩=>exact ⟨[x,y],h1,a,hU y b,c⟩
theorem Sd {a : Nat} {zl sl : List Rt} (ha : a < 256) : bB Tryz.prog 92 [zD a zl sl] (dM [jD (pL a zl), Mi (sR a sl)]) := (Nb ha).fun fun B _ v S V h1 h2 => a0W h1 fun u hu => by
 exact iQ (Px a sl) u V (a0K (aO _ _).symm u S V hu h2)
theorem Hw {a:Nat} {zl sl:List Rt} (ha:a < 256):bB Tryz.prog 15 [zD a zl sl] (dM [dT ((pL a zl).map Rt.q) (rq (sR a sl)),rG ((pL a zl).map Rt.q) (rq (sR a sl)),aC true]):=by
 have hn:kY a ≤ 4:=by unfold kY; omega
 have herr:=Bv a zl sl
 have hzl:(pL a zl).length = kY a:=aO _ _
 have hsl:(sR a sl).length = kY a:=aO _ _
 have hall:∀ r,r ∈ sR a sl → r.length ≤ 1000:=fun r hr=>by obtain ⟨i,_,rfl⟩:=hJ.1 hr; rw [aO]; omega
 have hsh:=(mT herr).2.2.1
 have z1:((pL a zl).map Rt.q).length ≤ 1000:=by rw [List.length_map,hzl]; omega
 have s1:(rq (sR a sl)).length ≤ 1000:=by rw [List.length_map,hsl]; omega
 have hcv:∀ v V,(dM [dT (kX (cA ((pL a zl).map Rt.q) (rq (sR a sl))) ((pL a zl).map Rt.q)) (kX (cA ((pL a zl).map Rt.q) (rq (sR a sl))) (rq (sR a sl))),aF .i64 (cA ((pL a zl).map Rt.q) (rq (sR a sl)))]).p v V → (dM [dT ((pL a zl).map Rt.q) (rq (sR a sl)),aF .i64 0]).p v V:=by rw [herr]; exact fun _ _ h=>h
 have hcv2:∀ v V,(dM [rG (kX (cA ((pL a zl).map Rt.q) (rq (sR a sl))) ((pL a zl).map Rt.q)) (kX (cA ((pL a zl).map Rt.q) (rq (sR a sl))) (rq (sR a sl))),aF .i64 (cA ((pL a zl).map Rt.q) (rq (sR a sl)))]).p v V → (dM [rG ((pL a zl).map Rt.q) (rq (sR a sl)),aF .i64 0]).p v V:=by rw [herr]; exact fun _ _ h=>h
 refine bB.intro Tryz.func15 rfl Tryz.ntmps15 rfl (fun cx=>(ts (rn rfl (gQ (Ht rfl)) fun B1=>(rn rfl (eG (Ts:=[Is (.slice none 0 0),Is (.slice none 0 0)]) O_28 rfl (fun V=>aW zd (aW zd (aG)))) fun B2=>(rn rfl (eG (Ts:=[Is (.slice none 0 0),Is (.slice none 0 0)]) O_32 rfl (fun V=>aW zd (aW zd (aG)))) fun B3=>(ro rfl (cQ cV) (eX (ts (ro rfl (eW Tryz.isAgg24 Tryz.sizeOf24 (Ht rfl) (i:=0) rfl rfl rfl) (ro rfl (cZ Tryz.call92 (Sd ha) ⟨(Ht rfl),trivial⟩) ?_))))))))))
 refine rm rfl (ro rfl (dK (Ht rfl) rfl) (ro rfl (dK (Ht rfl) rfl) (ra rfl (ra rfl (eX (ts (rm rfl (ro rfl (cZ Tryz.call48 (tG zo) ⟨(Ht rfl),trivial⟩) (rm rfl (ro rfl (cZ Tryz.call94 (zJ zo hall) ⟨(Ht rfl),trivial⟩) (ro rfl (cZ Tryz.call93 (eQ (xA (z:=((pL a zl).map Rt.q)) (s:=(rq (sR a sl))) (L:=2) cH.rt (by decide) z1 s1) hcv) ⟨(Ht rfl),(Ht rfl),trivial⟩) (rm rfl (ro rfl (dK (Ht rfl) rfl) (ro rfl (dK (Ht rfl) rfl) (rn rfl (eG (Ts:=[Is (.slice none 0 0),Is (.slice none 0 0)]) O_28 rfl (fun V=>aW zd (aW zd (aG)))) fun B7=>?_)))))))))))))))
 refine gV Z_28 (Ht rfl) (Ht rfl) rfl (i:=3) rfl (aK rfl) rfl rfl (ra rfl (eX (ts (rm rfl (ro rfl (cZ Tryz.call96 (xD zo) ⟨(Ht rfl),trivial⟩) (rm rfl (ro rfl (cZ Tryz.call97 (Gl zo hall) ⟨(Ht rfl),trivial⟩) (ro rfl (cZ Tryz.call95 (eQ (Kj (z:=((pL a zl).map Rt.q)) (s:=(rq (sR a sl))) (L:=2) cH.rt (by decide) z1 s1) hcv2) ⟨(Ht rfl),(Ht rfl),trivial⟩) (rm rfl (ro rfl (dK (Ht rfl) rfl) (ro rfl (dK (Ht rfl) rfl) (rn rfl (eG (Ts:=[Is (.slice none 0 0),Is (.slice none 0 0)]) O_32 rfl (fun V=>aW zd (aW zd (aG)))) fun B9=>?_))))))))))))
 refine gV Z_32 (Ht rfl) (Ht rfl) rfl (i:=4) rfl (aK rfl) rfl rfl (ra rfl (eX (cK (Y.D_start (m:=11) [(9,1,box B2 28 [bL ((pL a zl).map Rt.q),eE (rq (sR a sl))]),(10,2,box B3 32 [Ci ((pL a zl).map Rt.q),QM (rq (sR a sl))])] (Y.D_step (Ei:=[(7,_)]) rfl rfl (bQ (bJ rfl rfl) bX) rfl rfl (by kernel_rfl) (dX rfl (eW A_28 Z_28 (Ht rfl) (i:=3) rfl rfl rfl)) (bY (Ei:=[(9,_)]) rfl rfl (bQ (bJ rfl rfl) bX) rfl rfl (dX rfl (eW A_32 Z_32 (Ht rfl) (i:=4) rfl rfl rfl)) ?_))))))
 refine Y.D_step (Ei:=[(8,_)]) rfl rfl (bQ (bJ rfl rfl) bX) rfl rfl (by kernel_rfl) (dX rfl (cX (Ht rfl))) (Y.D_step (Ei:=[(34,_)]) rfl rfl (bQ (bZ 2 rfl rfl) bX) rfl rfl (by kernel_rfl) (dX rfl (iY (Ht rfl) cV)) (Y.D_step (Ei:=[(35,_)]) rfl rfl (bQ (bZ 3 rfl rfl) bX) rfl rfl (by kernel_rfl) (dX rfl (cX (Ht rfl))) (Y.D_step (Ei:=[(7,_),(36,_)]) rfl rfl (bQ (bJ rfl rfl) (bQ (bZ 4 rfl rfl) bX)) rfl rfl (by kernel_rfl) (eU rfl rfl (Ht rfl) (fun h=>eW A_28 Z_28 (Ht rfl) (i:=3) rfl rfl rfl)) ?_)))
 refine Y.D_step (Ei:=[(9,_),(36,_)]) rfl rfl (bQ (bJ rfl rfl) (bQ (bZ 4 rfl rfl) bX)) rfl rfl (by kernel_rfl) (eU rfl rfl (Ht rfl) (fun h=>eW A_32 Z_32 (Ht rfl) (i:=4) rfl rfl rfl)) (Y.D_step (Ei:=[(37,_),(38,_),(36,_)]) rfl rfl (bQ (bZ 5 rfl rfl) (bQ (bZ 6 rfl rfl) (bQ (bZ 4 rfl rfl) bX))) rfl rfl (by kernel_rfl) (eU rfl rfl (Ht rfl) (fun h=>cZ Tryz.call25 (a0k (z:=((pL a zl).map Rt.q)) (s:=(rq (sR a sl))) (L:=2) cH.rt cF.rt (by decide) (by decide) hsh z1) ⟨(fG rfl h),(fG rfl h),trivial⟩)) ?_)
 refine bY (Ei:=[(36,_),(39,_)]) rfl rfl (bQ (bZ 4 rfl rfl) (bQ (bZ 7 rfl rfl) bX)) rfl rfl (dX rfl (eC (Ht rfl) (fun h=>(fG rfl h)))) (Y.D_putI (Ei:=[(2,_),(32,_)]) 1 rfl rfl rfl (bQ (bJ rfl rfl) (bQ (bZ 0 rfl rfl) bX)) (.head _) rfl (mH Z_28 (Ht rfl) (Ht rfl) rfl (i:=0) rfl (aK rfl) rfl rfl) (Y.D_putI (Ei:=[(3,_),(33,_)]) 2 rfl rfl rfl (bQ (bJ rfl rfl) (bQ (bZ 1 rfl rfl) bX)) (.tail _ (.head _)) rfl (mH Z_32 (Ht rfl) (Ht rfl) rfl (i:=0) rfl (aK rfl) rfl rfl) ?_))
 refine Y.D_done bC rfl (by kernel_rfl) rfl (by simp [Y.okP]) rfl rfl (bU (bU (bU (bU (bU (bU (bU (bU (bU (Y.F_putI (Y.F_putI (Y.F_nil ?_))))))))))))
 refine ra rfl (eX (Ft rfl (gX A_28 Z_28 rfl (i:=1) rfl rfl) (gX A_32 Z_32 rfl (i:=2) rfl rfl) (fV (eY rfl) ?_)))
 exact (fT (by simp))
end
section
open Go Go.RowKit
def rS (zl:List Rt) (zz:Qi):List Qi:=((pL 1 zl).map Rt.q).set 1 zz
def Kv (sl:List Rt):List (List Qi):=rq (sR 1 sl)
theorem xM (zl:List Rt) (zz:Qi):(rS zl zz).length = 2:=by rw [rS,List.length_set,List.length_map,pL,aO]; rfl
theorem Og (zl:List Rt) (zz:Qi):gv (rS zl zz) 1 = zz:=by rw [rS,Gq (by rw [List.length_map,pL,aO]; decide),if_pos rfl]
theorem xL (sl:List Rt):iF (Kv sl) 2 2:=by
 obtain ⟨_,_,h,_⟩:=mT (Bv 1 [] sl)
 have hl:((pL 1 []).map Rt.q).length = 2:=by rw [List.length_map,pL,aO]; rfl
 rw [hl] at h; exact h
theorem Oe (sl:List Rt):cF (Kv sl) 2:=cF.rt
theorem Dn (zl:List Rt) {zz:Qi} (h:aM zz 2):cH (rS zl zz) 2:=fun x hx=>(List.mem_or_eq_of_mem_set hx).elim (fun k=>(cH.rt:cH ((pL 1 zl).map Rt.q) 2) x k) fun e=>e ▸ h
theorem Oh (zl:List Rt) {zz:Qi} (h:kC zz = true):(rS zl zz).all kC = true:=by
 obtain ⟨_,_,_,hp⟩:=mT (Bv 1 zl [])
 rw [List.all_eq_true] at hp ⊢
 intro x hx
 rcases List.mem_or_eq_of_mem_set hx with k | k
 ·exact hp x k
 ·rw [k]; exact h
theorem Td (zl sl:List Rt) {zz:Qi} (h:kC zz = true):cA (rS zl zz) (Kv sl) = 0:=by
 have hs:=xL sl
 have hz:=xM zl zz
 rw [cA,if_neg,if_pos (Oh zl h)]
 rintro (h | h | h | h)
 ·omega
 ·omega
 ·exact h (by rw [hs.1,hz])
 ·obtain ⟨r, hr, h2⟩ := List.any_eq_true.1 h
  simp [hs.2 r hr,hz] at h2
theorem Nl {a:Nat} {zl sl:List Rt} {zz:Qi} (hz:kC zz = true) (hf:aM zz 2):bB Tryz.prog 68 [zD a zl sl,NT .i64 2,aD zz] (dM [dT (rS zl zz) (Kv sl),aC true]):=by
 have hzl:((pL 1 zl).map Rt.q).length = 2:=by rw [List.length_map,pL,aO]; rfl
 obtain ⟨z0,hz0⟩:∃ z0,z0 = ((pL 1 zl).map Rt.q):=⟨_,rfl⟩
 obtain ⟨s0,hs0⟩:∃ s0,s0 = Kv sl:=⟨_,rfl⟩
 have hsh:iF s0 2 2:=by rw [hs0]; exact xL sl
 have hB:=Hw (a:=1) (zl:=zl) (sl:=sl) (by decide)
 rw [← hz0] at hzl
 rw [← hz0,show (rq (sR 1 sl)) = s0 from hs0.symm] at hB
 have hsl2:iF s0 z0.length z0.length:=by rw [hzl]; exact hsh
 have hrf : ∀ i, i < 2 → bB Tryz.prog 67 [dT z0 s0, NT .i64 (i + 1)] (dM [aD (gv z0 i), aF .i64 0]) := fun i hi => by
  have h:=Nd (z:=z0) (s:=s0) (i:=((i + 1:Nat):Int)) zo
  rw [show Ux z0 ((i + 1:Nat):Int) = gv z0 i from Gz zo,if_pos zo] at h; exact h
 have hat : ∀ i j, i < 2 → j < 2 → bB Tryz.prog 39 [dT z0 s0, NT .i64 (i + 1), NT .i64 (j + 1)] (dM [aD (gm s0 i j), aF .i64 0]) := fun i j hi hj => by
  have h:=Rz (z:=z0) (s:=s0) (i:=((i + 1:Nat):Int)) (j:=((j + 1:Nat):Int)) hsl2 zo
  rw [show Pw z0.length s0 ((i + 1:Nat):Int) ((j + 1:Nat):Int) = gm s0 i j from Gy zo zo,if_pos zo] at h; exact h
 have hnw : bB Tryz.prog 93 [bL (rS zl zz), eE s0] (dM [dT (rS zl zz) s0, aF .i64 0]) := by
  have h:=xA (z:=rS zl zz) (s:=s0) (L:=2) (Dn zl hf) (by decide) (by rw [xM]; decide) (by rw [hsh.1]; decide)
  rw [show cA (rS zl zz) s0 = 0 by rw [hs0]; exact Td zl sl hz] at h; exact h
 refine bB.intro Tryz.func68 rfl Tryz.ntmps68 rfl (fun cx=>(ts (rn rfl (gQ (Ht rfl)) fun B3=>(rn rfl (gQ (Ht rfl)) fun B5=>(rn rfl (eG (Ts:=[Is (.slice none 0 0),Is (.slice none 0 0)]) O_28 rfl (fun V=>aW zd (aW zd (aG)))) fun B6=>(ro rfl (cQ cV) (eX (ts (ro rfl (eJ Ir (Ht rfl) rfl) (kE Z_5 (Ht rfl) (cJ 1) (i:=0) rfl (aK rfl) rfl (eX (ts (ro rfl (eW Tryz.isAgg24 Tryz.sizeOf24 (Ht rfl) (i:=0) rfl rfl rfl) (ro rfl (cZ Tryz.call15 hB ⟨(Ht rfl),trivial⟩) ?_))))))))))))))
 refine rm rfl (ro rfl (dK (Ht rfl) rfl) (ro rfl (dK (Ht rfl) rfl) (ro rfl (dK (Ht rfl) rfl) (rn rfl (eG (Ts:=[Is (.slice none 0 0),Is (.slice none 0 0)]) O_28 rfl (fun V=>aW zd (aW zd (aG)))) fun B8=>(rn rfl (eG (Ts:=[Is (.slice none 0 0),Is (.slice none 0 0)]) O_32 rfl (fun V=>aW zd (aW zd (aG)))) fun B9=>(gV Z_28 (Ht rfl) (Ht rfl) rfl (i:=3) rfl (aK rfl) rfl rfl (gV Z_32 (Ht rfl) (Ht rfl) rfl (i:=4) rfl (aK rfl) rfl rfl ?_)))))))
 refine ra rfl (eX (cK (ts (rm rfl (ro rfl (fO (Ht rfl)) (eX (fR (Ht rfl) (by rfl) ?_)))))))
 refine cU (ts (rn rfl (iJ (T:=aD Qi.zero) (i:=Tryz.t60) jP iM rfl rfl (cJ 2) rfl gH (El.ag rfl) (by show 88 * _ ≤ _; omega) zo) fun B27=>(ra rfl (eX (ts (rn rfl (fM (T:=Is (.slice none 0 0)) (i:=Tryz.t25) V_26 sN rfl rfl (cJ 2) rfl (fun _=>rfl) trivial (by show 24 * _ ≤ _; omega) zo) fun B28=>(ra rfl (eX (cK (ts (ro rfl (cX (cJ 0)) (eX (eK (lI 6 rfl (vW (e:=60) (s:=5)) (bO [1,2,3,5,6] rfl (by decide) ?_)))))))))))))))
 refine dB (fun (i : Nat) => i ≤ 2) (fun (i : Nat) => 2 - i) (fun (i : Nat) => [(1, NT .i64 2), (5, cE B5 0), (6, cE B6 0), (8, cE B8 0), (11, Is B27), (12, Is (.slice (some ⟨B28, 0, none⟩) 2 2)), (29, NT .i64 i)]) (fun (i : Nat) => [box B5 60 [aC (decide (zz.a < 0)), aL zz.a.natAbs, aC (decide (zz.b < 0)), aL zz.b.natAbs, aL (du zz)], box B6 28 [Is (.slice none 0 0), Is (.slice none 0 0)], box B8 28 [bL z0, eE s0], bE 60 5 B27 ((kA (gv z0) Qi.zero 2 i).map aD), pD B28 25 60 5 (dN aD (kA (fun i => tab 2 fun j => gm s0 i j) [] 2 i))]) 0 (Nat.zero_le _)
  (zS rfl) (aU (aB rfl) (aU (aB rfl) (aU (aB rfl) (aU (bA (by rw [← iN]; exact nT aD 2)) (aU (gC (by rw [← iN,rC]; exact sW aD 2)) aY))))) (fun i hi=>?_)
 refine ts (ro rfl (gW (Ht rfl) (cJ 2)) (eX (cK (dQ (Ht rfl) (fun hd=>?_) (fun hd=>?_)))))
 ·have hi2 : i < 2 := by simp only [decide_eq_true_eq] at hd; omega
  refine cU (cK (eK (ts (rm rfl (ra rfl (eX (ts (rm rfl (rm rfl (ro rfl (eW A_28 Z_28 (Ht rfl) (i:=2) rfl rfl rfl) (rm rfl (ro rfl (dV (Ht rfl) (cJ 1) z6) (ro rfl (cZ Tryz.call67 (hrf i hi2) ⟨(Ht rfl),(Ht rfl),trivial⟩) (rm rfl (ro rfl (dK (Ht rfl) rfl) (ro rfl (dK (Ht rfl) rfl) (ro rfl (cC U_25 Z_60 (Ht rfl) (Ht rfl) rfl (i:=3) rfl (by rw [List.length_map,cR]; omega) rfl) ?_)))))))))))))))))
  refine jY Z_60 (Ht rfl) (Ht rfl) (El.ag rfl) (i:=3) rfl rfl (by rw [List.length_map,cR]; omega) rfl ?_
  refine eX (cK (lI 3 rfl (bA (by rw [fB,jJ (f:=gv z0)])) ?_))
  refine qO 4 (i) rfl (xN hi2) (fun v0=>(cY (rm rfl (rm rfl (rn rfl (iJ (T:=aD Qi.zero) (i:=Tryz.t60) jP iM rfl rfl (cJ 2) rfl gH (El.ag rfl) (by show 88 * _ ≤ _; omega) zo) fun B44=>(ro rfl (gJ U_26 Z_25 (Ht rfl) (Ht rfl) rfl zo (by rw [Nat.mul_one,Nat.zero_add])) ?_))))))
  refine zG Z_25 (Ht rfl) (Ht rfl) (by simp only [dN,List.length_map,cR]; omega) (j:=4) (l:=6) rfl rfl rfl ?_
  refine eX (cK (bO [0,1,2,3,4,6] rfl (by decide) (cY (ro rfl (cX (cJ 0)) (eX (eK ?_))))))
  refine dB (fun (j : Nat) => j ≤ 2) (fun (j : Nat) => 2 - j) (fun (j : Nat) => [(1, NT .i64 2), (5, cE B5 0), (6, cE B6 0), (8, cE B8 0), (11, Is B27), (12, Is (.slice (some ⟨B28, 0, none⟩) 2 2)), (13, NT .i64 i), (29, NT .i64 i), (46, NT .i64 j)]) (fun (j : Nat) => [box B5 60 [aC (decide (zz.a < 0)), aL zz.a.natAbs, aC (decide (zz.b < 0)), aL zz.b.natAbs, aL (du zz)], box B6 28 [Is (.slice none 0 0), Is (.slice none 0 0)], box B8 28 [bL z0, eE s0], bE 60 5 B27 ((kA (gv z0) Qi.zero 2 (i + 1)).map aD), Le B28 25 60 5 (dN aD (kA (fun i => tab 2 fun j => gm s0 i j) [] 2 i)) i B44, bE 60 5 B44 ((kA (fun j => gm s0 i j) Qi.zero 2 j).map aD)]) 0 (Nat.zero_le _)
   (zS rfl) (aU (aB rfl) (aU (aB rfl) (aU (aB rfl) (aU (fun _ _ _ h=>h) (aU (fun _ _ _ h=>h) (aU (bA (by rw [← iN]; exact nT aD 2)) aY)))))) (fun j hj=>?_)
  refine ts (ro rfl (gW (Ht rfl) (cJ 2)) (eX (cK (dQ (Ht rfl) (fun he=>?_) (fun he=>?_)))))
  ·have hj2 : j < 2 := by simp only [decide_eq_true_eq] at he; omega
   refine cU (cK (eK (ts (rm rfl (ra rfl (eX (W.D_start (m:=16) (fun b=>cond b ([box B5 60 [aC (decide (zz.a < 0)),aL zz.a.natAbs,aC (decide (zz.b < 0)),aL zz.b.natAbs,aL (du zz)],box B6 28 [Is (.slice none 0 0),Is (.slice none 0 0)],box B8 28 [bL z0,eE s0],bE 60 5 B27 ((kA (gv z0) Qi.zero 2 (i + 1)).map aD),Le B28 25 60 5 (dN aD (kA (fun i=>tab 2 fun j=>gm s0 i j) [] 2 i)) i B44,bE 60 5 B44 (((kA (fun j=>gm s0 i j) Qi.zero 2 j).map aD).set j (aD (gm s0 i j)))]) _) 15 (W.D_step (Ei:=[(12,_)]) rfl rfl (W.Srcs.cons (W.Src.pre rfl rfl) W.Srcs.nil) rfl (by kernel_rfl) (dX rfl (cX (Ht rfl))) ?_))))))))
   refine W.D_step (Ei:=[(13,_)]) rfl rfl (W.Srcs.cons (W.Src.pre rfl rfl) W.Srcs.nil) rfl (by kernel_rfl) (dX rfl (cX (Ht rfl))) (W.D_step (Ei:=[(50,_),(51,_)]) rfl rfl (W.Srcs.cons (W.Src.op 0 rfl rfl) (W.Srcs.cons (W.Src.op 1 rfl rfl) W.Srcs.nil)) rfl (by kernel_rfl) (dX rfl (gJ U_26 Z_25 (Ht rfl) (Ht rfl) rfl zo (by rw [Nat.mul_one,Nat.zero_add]))) ?_)
   refine W.D_step (Ei:=[(52,_)]) rfl rfl (W.Srcs.cons (W.Src.op 2 rfl rfl) W.Srcs.nil) rfl (by kernel_rfl) (dX rfl (nY A_25 Z_25 (Ht rfl) (j:=4) rfl)) (W.D_step (Ei:=[(14,_)]) rfl rfl (W.Srcs.cons (W.Src.pre rfl rfl) W.Srcs.nil) rfl (by kernel_rfl) (dX rfl (cX (Ht rfl))) (W.D_step (Ei:=[(8,_)]) rfl rfl (W.Srcs.cons (W.Src.pre rfl rfl) W.Srcs.nil) rfl (by kernel_rfl) (dX rfl (eW A_28 Z_28 (Ht rfl) (i:=2) rfl rfl rfl)) (W.D_step (Ei:=[(13,_)]) rfl rfl (W.Srcs.cons (W.Src.pre rfl rfl) W.Srcs.nil) rfl (by kernel_rfl) (dX rfl (cX (Ht rfl))) ?_)))
   refine W.D_step (Ei:=[(56,_)]) rfl rfl (W.Srcs.cons (W.Src.op 6 rfl rfl) W.Srcs.nil) rfl (by kernel_rfl) (dX rfl (dV (Ht rfl) (cJ 1) z6)) (W.D_step (Ei:=[(14,_)]) rfl rfl (W.Srcs.cons (W.Src.pre rfl rfl) W.Srcs.nil) rfl (by kernel_rfl) (dX rfl (cX (Ht rfl))) (W.D_step (Ei:=[(58,_)]) rfl rfl (W.Srcs.cons (W.Src.op 8 rfl rfl) W.Srcs.nil) rfl (by kernel_rfl) (dX rfl (dV (Ht rfl) (cJ 1) z6)) (W.D_step (Ei:=[(55,_),(57,_),(59,_)]) rfl rfl (W.Srcs.cons (W.Src.op 5 rfl rfl) (W.Srcs.cons (W.Src.op 7 rfl rfl) (W.Srcs.cons (W.Src.op 9 rfl rfl) W.Srcs.nil))) rfl (by kernel_rfl) (dX rfl (cZ K_39 (hat i j hi2 hj2) ⟨(Ht rfl),(Ht rfl),(Ht rfl),trivial⟩)) ?_)))
   refine W.D_step (Ei:=[(60,_)]) rfl rfl (W.Srcs.cons (W.Src.op 10 rfl rfl) W.Srcs.nil) rfl (by kernel_rfl) (dX rfl (cX (Ht rfl))) (W.D_step (Ei:=[(49,_)]) rfl rfl (W.Srcs.cons (W.Src.op 11 rfl rfl) W.Srcs.nil) rfl (by kernel_rfl) (dX rfl (dK (Ht rfl) rfl)) (W.D_pure (Ei:=[(49,_)]) rfl rfl (W.Srcs.cons (W.Src.op 11 rfl rfl) W.Srcs.nil) rfl (fun _=>dX rfl (dK (Ht rfl) rfl)) (W.D_step (Ei:=[(53,_),(54,_)]) rfl rfl (W.Srcs.cons (W.Src.op 3 rfl rfl) (W.Srcs.cons (W.Src.op 4 rfl rfl) W.Srcs.nil)) rfl (by kernel_rfl) (dX rfl (cC U_25 Z_60 (Ht rfl) (Ht rfl) rfl (i:=5) rfl (by rw [List.length_map,cR]; omega) rfl)) ?_)))
   refine W.D_put (Ei:=[(63,_),(61,_)]) rfl rfl (W.Srcs.cons (W.Src.op 14 rfl rfl) (W.Srcs.cons (W.Src.op 12 rfl rfl) W.Srcs.nil)) rfl (Cm Z_60 (Ht rfl) (Ht rfl) (El.ag rfl) (i:=5) rfl rfl (by rw [List.length_map,cR]; omega)) ?_
   refine W.D_done bC rfl (by kernel_rfl) rfl (W.F_val (W.F_val (W.F_val (W.F_val (W.F_val (W.F_val (W.F_val (W.F_val (W.F_val (W.F_val (W.F_val (W.F_val (W.F_val (W.F_val (W.F_val (W.F_put (W.F_nil (eX (bI (cY (ro rfl (dV (Ht rfl) (cJ 1) z6) (rm rfl (eX (gZ (j + 1) hj2 zo (zS rfl) (aU (aB rfl) (aU (aB rfl) (aU (aB rfl) (aU (fun _ _ _ h=>h) (aU (fun _ _ _ h=>h) (aU (bA (by rw [fB]; exact congrArg _ (jJ (f:=(fun j=>gm s0 i j))))) aY))))))))))))))))))))))))))))))
  ·obtain rfl : j = 2 := by simp only [decide_eq_false_iff_not] at he; omega
   rw [jI (fun j=>gm s0 i j)]
   refine gU rfl (bI (lJ 4 5 rfl rfl (by decide) (by simp only [dN,List.length_map,cR]; omega) ?_))
   refine cY (ro rfl (dV (Ht rfl) (cJ 1) z6) (rm rfl (eX (bO [0,1,2,3,4] rfl (by decide) (gZ (i + 1) hi2 zo (zS rfl) (aU (aB rfl) (aU (aB rfl) (aU (aB rfl) (aU (fun _ _ _ h=>h) (aU (gC (by rw [mD]; exact congrArg _ (jJ (f:=(fun i=>tab 2 fun j=>gm s0 i j))))) aY))))))))))
 ·obtain rfl : i = 2 := by simp only [decide_eq_false_iff_not] at hd; omega
  rw [jI,jI]
  have hzt:tab 2 (gv z0) = z0:=by rw [← hzl]; exact (Cf rfl).symm
  have hst:(tab 2 fun i=>tab 2 fun j=>gm s0 i j) = s0:=(Bn hsh).symm
  rw [hzt,hst]
  refine gU rfl (ts (rm rfl (rm rfl (ro rfl (dW (Ht rfl) (cJ 1) zo z6) (ro rfl (eW A_60 Z_60 (Ht rfl) (i:=0) rfl rfl rfl) (ro rfl (cC U_25 Z_60 (Ht rfl) (Ht rfl) rfl (i:=3) rfl (by rw [List.length_map]; omega) rfl) ?_))))))
  refine jY Z_60 (Ht rfl) (Ht rfl) (El.ag rfl) (i:=3) rfl rfl (by rw [List.length_map]; omega) rfl ?_
  refine eX (cK (lI 3 rfl (bA ((fB aD z0 1 zz).trans (by rw [hz0]; rfl)):∀ S m V,_ → (bE 60 5 B27 ((rS zl zz).map aD)).h S m V) ?_))
  refine gK (i:=3) (tt:=11) rfl rfl eN (gK (i:=4) (tt:=12) rfl rfl (sK (s:=5) (M:=s0) hsh.1.symm) (cY (rm rfl (rm rfl (ro rfl (cZ Tryz.call93 hnw ⟨(Ht rfl),(Ht rfl),trivial⟩) (rm rfl (ro rfl (dK (Ht rfl) rfl) (ro rfl (dK (Ht rfl) rfl) (rn rfl (eG (Ts:=[Is (.slice none 0 0),Is (.slice none 0 0)]) O_28 rfl (fun V=>aW zd (aW zd (aG)))) fun B15=>(gV Z_28 (Ht rfl) (Ht rfl) rfl (i:=5) rfl (aK rfl) rfl rfl (ra rfl (eX ?_))))))))))))
  refine cK (bO [0,1,2,3,4,5] rfl (by decide) (cY (ro rfl (eW A_28 Z_28 (Ht rfl) (i:=5) rfl rfl rfl) (rm rfl (ro rfl (iY (Ht rfl) cV) (gV Z_28 (Ht rfl) (Ht rfl) rfl (i:=1) rfl (aK rfl) rfl rfl (ra rfl (eX (bN rfl (fV (gX A_28 Z_28 rfl (i:=1) rfl rfl) ?_) (eY rfl))))))))))
  exact (fun v V h=>by rw [← hs0]; exact h)
end
section
open Go Go.RowKit
abbrev ZT (x:Int):Ty:=aF .i64 x
end
section
open Go Go.RowKit
section
variable {P:Program} {n:Nat} {E:bT} {H:Hp}
variable {d:Option Tmp} {t:TypeId} {pos:String} {af:Array Edge} {g:Option (Nat × Bool)}
theorem Hk {x y : Operand} {i B o' : Nat} {BT : TypeId} {Ts Ws : List Ty} {T : Ty} [hsh : cP T 1 false] (hS : ∀ w, (sizeOf t).run P w = .ok 1 w) (hx : aR E x (cE B o')) (hy : aR E y T)
  (hH:H[i]? = some (box B BT Ts)) (hlt:o' < Ts.length) (hW:Ts.set o' T = Ws) {t':TypeId} {H':Hp} (hH':H.set i (box B BT Ws) = H') :
  W.PutTy P n E H H' ⟨none,.store t x y,t',pos,af,none⟩:=by subst hW; subst hH'; exact a04 hS hx hy hH hlt
end
end
section
open Go Go.RowKit
section
variable {P:Program} {R:gN} {cx:Cx} {n:Nat} {k:List It} {E:bT} {H:Hp}
theorem HH.two {base:Nat} {w:World} {V:aN} {Z:SA} {X:Hp} (h:HH base w V (Z :: X)):HH base w V [Z,fI (SA.emp :: X)]:=by
 have h1:HH base w V ((Z :: X).set 0 SA.emp ++ [Z]):=h.last rfl
 have h2:HH base w V (fI (SA.emp :: X) :: [Z]):=HH.repack h1
 exact h2.pick (is:=[1,0]) ⟨⟨_,rfl,fun _ _ _ h=>h⟩,⟨_,rfl,fun _ _ _ h=>h⟩,trivial⟩ (by decide)
theorem gP.pack {f : FuncId} {Ts : List Ty} {γ : Type} {U : γ → Ty} {X : γ → Hp} {Q : γ → Prop} (h : gP P f Ts [] γ U X Q) : gP P f Ts [] γ U (fun x => [fI (SA.emp :: X x)]) Q :=
 fun cx Z vs V w h1 h2=>(h cx Z vs V w h1 h2).mono fun e w' ⟨v,V',x,a,b,c,d,e'⟩=>⟨v,V',x,a,b,c.withHH c.hp.two,d,e'⟩
theorem Xp {X Y:Hp} (h:Tr P R cx n k E (X ++ Y)):Tr P R cx n k E (fI X :: Y):=fun a w ⟨V,hin,hs⟩=>h a w ⟨V,hin.withHH hin.hp.unpack,hs⟩
end
namespace W
variable {P:Program} {R:gN} {cx:Cx} {n:Nat} {k:List It} {E:bT} {H:Hp} {Hf:Bool → Hp} {p:Nat}
end W
end
section
open Go Go.RowKit
theorem Sn {z:List Qi} {s:List (List Qi)} {Q:List Nat} {m:Nat} (hs:iF s z.length z.length) (hQ:∀ x,x ∈ Q → x < z.length) (hm:Q.length = m) (hm2:m ≤ 1000) (hl:z.length ≤ 1000):gP Tryz.prog 125 [dT z s,mG (Q.map Nat.succ)] [] (Nat × Nat) (fun B=>dR [Is (.slice (some ⟨B.1,0,none⟩) m m),Is (.slice (some ⟨B.2,0,none⟩) m m)]) (fun B=>[bE 60 5 (.slice (some ⟨B.1,0,none⟩) m m) ((yH z Q).map aD),pD B.2 25 60 5 (dN aD (Cb s Q))]) (fun _=>True):=by
 have hll:(Q.map Nat.succ).length = m:=by rw [List.length_map]; exact hm
 refine gP.intro Tryz.func125 rfl Tryz.ntmps125 rfl (fun cx Z=>(ts (rn rfl (gQ (Ht rfl)) fun B2=>(rn rfl (oN (Ht rfl)) fun B3=>(rn rfl (eG (Ts:=[Is (.slice none 0 0),Is (.slice none 0 0)]) O_28 rfl (fun V=>aW zd (aW zd (aG)))) fun B4=>(eX (cK (gK (i:=1) (tt:=2) rfl rfl kZ (gK (i:=2) (tt:=3) rfl rfl kG (cY (ro rfl (dJ A_103 Z_103 (Ht rfl)) (ro rfl (dG U_103 (Ht rfl) (by rw [List.length_map,hll])) ?_))))))))))))
 refine rn rfl (Li (T:=aD Qi.zero) (i:=Tryz.t60) jP iM rfl rfl (Ht rfl) rfl gH (El.ag rfl) (by show 88 * _ ≤ _; omega) zo) fun B10=>ra rfl (eX (cK (ts (ro rfl (dJ A_103 Z_103 (Ht rfl)) (ro rfl (dG U_103 (Ht rfl) (by rw [List.length_map,hll])) ?_)))))
 refine ro rfl (cX (cJ 0)) (eX (eK (bO [0,3,4] rfl (by decide) ?_)))
 refine dB (fun (i : Nat) => i ≤ m) (fun (i : Nat) => m - i) (fun (i : Nat) => [(2, PT (dT z s)), (3, PT (mG (Q.map Nat.succ))), (4, cE B4 0), (5, Is (.slice (some ⟨B10, 0, none⟩) m m)), (11, mG (Q.map Nat.succ)), (12, NT .i64 m), (13, NT .i64 i)]) (fun (i : Nat) => [Z, box B4 28 [Is (.slice none 0 0), Is (.slice none 0 0)], bE 60 5 (.slice (some ⟨B10, 0, none⟩) m m) ((kA (fun i => gv z (nM Q i)) Qi.zero m i).map aD)]) 0 (Nat.zero_le _)
  (zS rfl) (aU (fun _ _ _ h=>h) (aU (fun _ _ _ h=>h) (aU (bA (by rw [← iN]; exact nT aD m)) aY))) (fun i hi=>?_)
 refine ts (ro rfl (gW (Ht rfl) (Ht rfl)) (eX (cK (dQ (Ht rfl) (fun hd=>?_) (fun hd=>?_)))))
 ·simp only [decide_eq_true_eq] at hd
  have hki:nM Q i < z.length:=Bw hQ zo
  refine cU (cK (eK (ts (rm rfl (ro rfl (dZ U_103 Z_3 (Ht rfl) (Ht rfl) rfl (dY (wH zo))) (ro rfl (dJ A_3 Z_3 (Ht rfl)) (ra rfl (ra rfl (eX (cY (rm rfl (rm rfl (ro rfl (pF iG (Ht rfl) rfl) (ro rfl (dJ A_25 Z_25 (Ht rfl)) (rm rfl (ro rfl (aE.nat (dW (Ht rfl) (cJ 1) zo z6) (show nM Q i + 1 - 1 = nM Q i by omega)) (ro rfl (dZ U_25 Z_60 (Ht rfl) (Ht rfl) rfl (dY (dU (d:=Qi.zero) hki))) ?_)))))))))))))))))
  refine ro rfl (dJ A_60 Z_60 (Ht rfl)) (ro rfl (cC U_25 Z_60 (Ht rfl) (Ht rfl) rfl (i:=2) rfl (by rw [List.length_map,cR]; omega) rfl) ?_)
  refine jY Z_60 (Ht rfl) (Ht rfl) (El.ag rfl) (i:=2) rfl rfl (by rw [List.length_map,cR]; omega) rfl ?_
  refine eX (bI (cY (ro rfl (dV (Ht rfl) (cJ 1) z6) (rm rfl (eX (gZ (i + 1) hd zo (zS rfl) (aU (fun _ _ _ h=>h) (aU (fun _ _ _ h=>h) (aU (bA (by rw [fB,← jJ (f:=(fun i=>gv z (nM Q i)))])) aY)))))))))
 ·simp only [decide_eq_false_iff_not] at hd
  obtain rfl:m = i:=Nat.le_antisymm zo hi
  rw [jI]
  rw [show yH z Q = tab m fun i=>gv z (nM Q i) from by rw [yH,hm],show Cb s Q = tab m fun i=>tab m fun j=>gm s (nM Q i) (nM Q j) from by rw [Cb,hm]]
  refine gU rfl (ts (rm rfl (ro rfl (dJ A_103 Z_103 (Ht rfl)) (ro rfl (dG U_103 (Ht rfl) (by rw [List.length_map,hll])) ?_))))
  refine ro rfl (qY (γ:=Fin m × Fin m) (Ts:=fun x=>[NT .i64 x.1.1,NT .i64 x.2.1]) (U:=fun x=>aD (gm s (nM Q x.1.1) (nM Q x.2.1))) Tryz.call220 (fun x=>If hs hQ hm hm2 hl x.1.2 x.2.2) ⟨(Ht rfl),(Ht rfl),trivial⟩) (oR Tryz.call110 (Av (n:=m) (f:=fun i j=>gm s (nM Q i) (nM Q j)) zo) ⟨(Ht rfl),(Ht rfl),trivial⟩ rfl (fun B32 _=>(ro rfl (rO (Ht rfl) (Ht rfl)) (gV Z_28 (Ht rfl) (Ht rfl) rfl (i:=1) rfl (aK rfl) rfl rfl (eX ?_)))))
  exact kO (B10,B32) trivial [0,2,3] ⟨⟨_,rfl,fun _ _ _ h=>h⟩,⟨_,rfl,fun _ _ _ h=>h⟩,⟨_,rfl,fun _ _ _ h=>h⟩,trivial⟩ (by decide) (yB rfl (gX A_28 Z_28 rfl (i:=1) rfl rfl))
end
section
open Go Go.RowKit
theorem Si {z : List Qi} {s : List (List Qi)} (hl : z.length ≤ 1000) : bB Tryz.prog 124 [dT z s, Is (.slice none 0 0)] (mG ((pN [] z.length).map Nat.succ)) :=
 (Ie (z := z) (s := s) (G := []) hl (by simp)).arg fun vs V h => match vs, h with
  | [_,b],⟨h1,h2,_⟩=>⟨h1,iO b V h2,trivial⟩
end
section
open Go Go.RowKit
section
variable {P:Program} {n:Nat} {E:bT} {H:Hp}
variable {d:Option Tmp} {t:TypeId} {pos:String} {af:Array Edge} {g:Option (Nat × Bool)}
theorem lC {x i : Operand} {B o q r s : Nat} {kd : IntKind} {j : Int} {e : TypeId} {len : Nat} (hU : ∀ w, (underlying t).run P w = .ok (.array len e) w) (hS : ∀ w, (sizeOf e).run P w = .ok s w)
  (hx:aR E x (cE B o)) (hi:aR E i (aF kd j)) (hj:j = (q:Int)) (hl:q < len) (hr:o + q * s = r) {t':TypeId}:aE P n E H ⟨d,.indexAddr t x i,t',pos,af,g⟩ (cE B r) :=
 dE fun a V w hs => by
  have e1:a.eval x = .pointer (some ⟨B,o,none⟩):=hx n V a hs
  have ei:a.eval i = .int kd j:=hi n V a hs
  subst hj hr
  exact ⟨.pointer (some ⟨B,o + q * s,none⟩),by simp [execOp,e1,ei,Instr.indexAt,Instr.sureAddr,asIntOf,Sem.run_bind,hU,hS,Result.andThen,hl,fC],rfl⟩
theorem Up {x : Operand} {arr e : TypeId} {s : Nat} {Us Ws : List Ty} (hU : ∀ w, (underlying arr).run P w = .ok (.array 2 e) w) (hx : aR E x (jK s [dR Us, dR Ws])) (hl : Us.length = s) {t' : TypeId} :
  aE P n E H ⟨d,.sliceToArrayPointer arr x,t',pos,af,g⟩ (PT (dR (Us ++ Ws))) :=
 dE fun a V w hs => by
  obtain ⟨a0,cap,e1,hcap,h3⟩:=hx n V a hs
  obtain ⟨b,o,x0,ea,⟨c,BT,fr,l2,l3⟩,c0,us,rfl,hu⟩:=h3 0 _ rfl
  obtain ⟨b',o',x1,ea',⟨c',BT',fr',l2',l3'⟩,c1,ws,rfl,hw⟩:=h3 1 _ rfl
  subst ea
  obtain ⟨rfl,rfl⟩:b = b' ∧ o = o':=by simpa using ea'
  obtain ⟨rfl,rfl,rfl⟩:c = c' ∧ BT = BT' ∧ fr = fr':=by rw [l2] at l2'; simpa using l2'
  have hlu:us.length = s:=hu.length.trans hl
  refine ⟨.pointer (some ⟨b,o,none⟩),by simp [execOp,e1,Instr.arrayAt,Sem.run_bind,hU,Result.andThen,pure,Sem.run],b,o,.agg (us ++ ws).toArray,rfl,⟨c,BT,fr,l2,fun j u hj=>?_⟩,us ++ ws,rfl,hu.append hw⟩
  simp only [Value.cells,List.getElem?_toArray] at hj
  by_cases c2:j < us.length
  ·rw [List.getElem?_append_left c2] at hj
   have:=l3 j u (by simpa [Value.cells] using hj)
   rw [show o + j = o + 0 * s + j by omega]; exact this
  ·rw [List.getElem?_append_right zo] at hj
   have:=l3' (j - us.length) u (by simpa [Value.cells] using hj)
   rw [show o + j = o + 1 * s + (j - us.length) by omega]; exact this
end
end
section
open Go Go.RowKit
abbrev nb (x:Qi):List Ty:=[aC (decide (x.a < 0)),aL x.a.natAbs,aC (decide (x.b < 0)),aL x.b.natAbs,aL (du x)]
abbrev Ri:List Ty:=[Is (.bool false),Is (.slice none 0 0),Is (.bool false),Is (.slice none 0 0),Is (.slice none 0 0)]
def Tf (f : List (List Qi)) : Nat → List Ty
 | 0=>Ri ++ Ri ++ (Ri ++ Ri)
 | 1=>nb (gm f 0 0) ++ nb (gm f 0 1) ++ (Ri ++ Ri)
 | _=>nb (gm f 0 0) ++ nb (gm f 0 1) ++ (nb (gm f 1 0) ++ nb (gm f 1 1))
theorem Tg (f : List (List Qi)) : ∀ i, (Tf f i).length = 20
 | 0=>rfl
 | 1=>rfl
 | _ + 2=>rfl
theorem Om (f : List (List Qi)) : ∀ {i : Nat}, i < 2 → (Tf f i).take (0 + i * 10) ++ (nb (gm f i 0) ++ nb (gm f i 1)) ++ (Tf f i).drop (0 + i * 10 + 10) = Tf f (i + 1)
 | 0,_=>rfl
 | 1,_=>rfl
theorem a0S {f:List (List Qi)} (h:iF f 2 2) {i:Nat} (hi:i < 2):(f.getD i []).map aD = [aD (gm f i 0),aD (gm f i 1)]:=by
 have hl:=h.row hi
 show (f.getD i []).map aD = [aD (gv (f.getD i []) 0),aD (gv (f.getD i []) 1)]
 generalize f.getD i [] = l at hl
 match l,hl with
 | [a,b],_=>rfl
theorem a0O {z fz:List Qi} {port:Int} {x:Nat} (h:fz.length ≠ 2):yS z fz port x = 4:=if_pos h
theorem a0N {z fz:List Qi} {port:Int} {x:Nat} (h:fz.length = 2) (h2:¬ (1 ≤ port ∧ port ≤ (z.length:Int))):yS z fz port x = 1:=by rw [yS,if_neg (fun k=>k h),if_pos h2]
theorem a0P {z fz:List Qi} {port:Int} {x:Nat} (h:fz.length = 2) (h2:1 ≤ port ∧ port ≤ (z.length:Int)):yS z fz port x = if gv fz (x - 1) = gv z (port - 1).toNat then 0 else 40:=by rw [yS,if_neg (fun k=>k h),if_neg (fun k=>k h2)]
theorem Gg {fz:List Qi} {f:List (List Qi)} (h2:fz.length = 2) (hf:iF f 2 2):bB Tryz.prog 225 [dT fz f] (dM [dR (Tf f 2),aF .i64 0]):=by
 have hfl:=hf.1
 refine bB.intro Tryz.func225 rfl Tryz.ntmps225 rfl (fun cx=>(ts (rn rfl (gQ (Ht rfl)) fun B1=>(rn rfl (eG (Ts:=[Is (.bool false),Is (.slice none 0 0),Is (.bool false),Is (.slice none 0 0),Is (.slice none 0 0),Is (.bool false),Is (.slice none 0 0),Is (.bool false),Is (.slice none 0 0),Is (.slice none 0 0),Is (.bool false),Is (.slice none 0 0),Is (.bool false),Is (.slice none 0 0),Is (.slice none 0 0),Is (.bool false),Is (.slice none 0 0),Is (.bool false),Is (.slice none 0 0),Is (.slice none 0 0)]) O_191 rfl (fun V=>aW zd (aW zd (aW zd (aW zd (aW zd (aW zd (aW zd (aW zd (aW zd (aW zd (aW zd (aW zd (aW zd (aW zd (aW zd (aW zd (aW zd (aW zd (aW zd (aW zd (aG)))))))))))))))))))))) fun B2=>?_))))
 refine ro rfl (cQ (cJ 0)) (eX (ts (rn rfl (eG (Ts:=[Is (.bool false),Is (.slice none 0 0),Is (.bool false),Is (.slice none 0 0),Is (.slice none 0 0),Is (.bool false),Is (.slice none 0 0),Is (.bool false),Is (.slice none 0 0),Is (.slice none 0 0),Is (.bool false),Is (.slice none 0 0),Is (.bool false),Is (.slice none 0 0),Is (.slice none 0 0),Is (.bool false),Is (.slice none 0 0),Is (.bool false),Is (.slice none 0 0),Is (.slice none 0 0)]) O_191 rfl (fun V=>aW zd (aW zd (aW zd (aW zd (aW zd (aW zd (aW zd (aW zd (aW zd (aW zd (aW zd (aW zd (aW zd (aW zd (aW zd (aW zd (aW zd (aW zd (aW zd (aW zd (aG)))))))))))))))))))))) fun B4=>?_)))
 refine eX (cK (ts (ro rfl (eJ iG (Ht rfl) rfl) (ro rfl (fQ A_25 Z_25 (Ht rfl) (i:=0) rfl rfl) (ro rfl (dG U_25 (Ht rfl) aA) (ro rfl (gD (Ht rfl) (cJ 2)) (eX (fR (Ht rfl) (by simp [h2]) ?_))))))))
 refine cU (cK (ts (ro rfl (cX (cJ 0)) (eX (eK ?_)))))
 refine dB (fun (i : Nat) => i ≤ 2) (fun (i : Nat) => 2 - i) (fun (i : Nat) => [(1, cE B1 0), (2, cE B2 0), (4, cE B4 0), (11, NT .i64 i)]) (fun (i : Nat) => [box B1 28 [bL fz, eE f], box B2 191 (Ri ++ Ri ++ (Ri ++ Ri)), box B4 191 (Tf f i)]) 0 (Nat.zero_le _)
  (zS rfl) (aU (aB rfl) (aU (aB rfl) (aU (aB rfl) aY))) (fun i hi=>?_)
 refine ts (ro rfl (gW (Ht rfl) (cJ 2)) (eX (cK (dQ (Ht rfl) (fun hd=>?_) (fun hd=>?_)))))
 ·have hi2 : i < 2 := by simp only [decide_eq_true_eq] at hd; omega
  have hxl:=Tg f i
  refine cU (cK (eK (ts (rm rfl (ra rfl (eX (cY (rm rfl (ro rfl (eJ eT (Ht rfl) rfl) (ro rfl (fQ A_26 Z_26 (Ht rfl) (i:=0) rfl rfl) (rm rfl (ro rfl (dZ U_26 Z_25 (Ht rfl) (Ht rfl) rfl (dY (dU (d:=[]) zo))) (ro rfl (dJ A_25 Z_25 (Ht rfl)) (ro rfl (Up U_190 (aR.to (Ht rfl) (iQ (a0S hf hi2))) rfl) (ro rfl (dJ Tryz.isAgg190 Z_190 (Ht rfl)) (ro rfl (lC U_191 Z_190 (Ht rfl) (Ht rfl) rfl zo rfl) ?_))))))))))))))))
  refine gV Z_190 (Ht rfl) (Ht rfl) rfl (i:=2) rfl (by rw [hxl]; omega) rfl rfl ?_
  refine eX (bI (cY (ro rfl (dV (Ht rfl) (cJ 1) z6) (rm rfl (eX (gZ (i + 1) hi2 zo (zS rfl) (aU (aB rfl) (aU (aB rfl) (aU (aB (Om f hi2)) aY)))))))))
 ·obtain rfl : i = 2 := by simp only [decide_eq_false_iff_not] at hd; omega
  refine gU rfl (ts (ro rfl (eW A_191 Z_191 (Ht rfl) (i:=2) rfl rfl rfl) (gV Z_191 (Ht rfl) (Ht rfl) rfl (i:=1) rfl (aK rfl) rfl rfl (ro rfl (cQ (cJ 0)) (eX ?_)))))
  exact bN rfl (gX A_191 Z_191 rfl (i:=1) rfl rfl) (eY rfl)
theorem Gf {fz:List Qi} {f:List (List Qi)} (h2:fz.length ≠ 2):bB Tryz.prog 225 [dT fz f] (dM [dR (Tf [] 0),aF .i64 4]):=by
 refine bB.intro Tryz.func225 rfl Tryz.ntmps225 rfl (fun cx=>(ts (rn rfl (gQ (Ht rfl)) fun B1=>(rn rfl (eG (Ts:=[Is (.bool false),Is (.slice none 0 0),Is (.bool false),Is (.slice none 0 0),Is (.slice none 0 0),Is (.bool false),Is (.slice none 0 0),Is (.bool false),Is (.slice none 0 0),Is (.slice none 0 0),Is (.bool false),Is (.slice none 0 0),Is (.bool false),Is (.slice none 0 0),Is (.slice none 0 0),Is (.bool false),Is (.slice none 0 0),Is (.bool false),Is (.slice none 0 0),Is (.slice none 0 0)]) O_191 rfl (fun V=>aW zd (aW zd (aW zd (aW zd (aW zd (aW zd (aW zd (aW zd (aW zd (aW zd (aW zd (aW zd (aW zd (aW zd (aW zd (aW zd (aW zd (aW zd (aW zd (aW zd (aG)))))))))))))))))))))) fun B2=>?_))))
 refine ro rfl (cQ (cJ 0)) (eX (ts (rn rfl (eG (Ts:=[Is (.bool false),Is (.slice none 0 0),Is (.bool false),Is (.slice none 0 0),Is (.slice none 0 0),Is (.bool false),Is (.slice none 0 0),Is (.bool false),Is (.slice none 0 0),Is (.slice none 0 0),Is (.bool false),Is (.slice none 0 0),Is (.bool false),Is (.slice none 0 0),Is (.slice none 0 0),Is (.bool false),Is (.slice none 0 0),Is (.bool false),Is (.slice none 0 0),Is (.slice none 0 0)]) O_191 rfl (fun V=>aW zd (aW zd (aW zd (aW zd (aW zd (aW zd (aW zd (aW zd (aW zd (aW zd (aW zd (aW zd (aW zd (aW zd (aW zd (aW zd (aW zd (aW zd (aW zd (aW zd (aG)))))))))))))))))))))) fun B4=>?_)))
 refine eX (cK (ts (ro rfl (eJ iG (Ht rfl) rfl) (ro rfl (fQ A_25 Z_25 (Ht rfl) (i:=0) rfl rfl) (ro rfl (dG U_25 (Ht rfl) aA) (ro rfl (gD (Ht rfl) (cJ 2)) (eX (mI (Ht rfl) (by simp; omega) ?_))))))))
 refine ts (ro rfl (eW A_191 Z_191 (Ht rfl) (i:=2) rfl rfl rfl) (gV Z_191 (Ht rfl) (Ht rfl) rfl (i:=1) rfl (aK rfl) rfl rfl (ro rfl (cQ (cJ 4)) (eX ?_))))
 exact bN rfl (gX A_191 Z_191 rfl (i:=1) rfl rfl) (eY rfl)
theorem Kd {z fz:List Qi} {s f:List (List Qi)} {port:Int} {x L:Nat} (h2:fz.length = 2) (hf:iF f 2 2) (hx:x = 1 ∨ x = 2) (hfz:cH z L) (hff:cH fz L) (hL:1 ≤ L) (hLb:L ≤ 1000000) (hl:z.length ≤ 1000):bB Tryz.prog 133 [dT z s,aF .i64 port,dT fz f,NT .i64 x] (dM [dR (Tf f 2),aF .i64 (yS z fz port x)]):=by
 refine bB.intro Tryz.func133 rfl Tryz.ntmps133 rfl (fun cx=>(ts (rn rfl (gQ (Ht rfl)) fun B4=>(rn rfl (gQ (Ht rfl)) fun B6=>(rn rfl (eG (Ts:=[Is (.bool false),Is (.slice none 0 0),Is (.bool false),Is (.slice none 0 0),Is (.slice none 0 0),Is (.bool false),Is (.slice none 0 0),Is (.bool false),Is (.slice none 0 0),Is (.slice none 0 0),Is (.bool false),Is (.slice none 0 0),Is (.bool false),Is (.slice none 0 0),Is (.slice none 0 0),Is (.bool false),Is (.slice none 0 0),Is (.bool false),Is (.slice none 0 0),Is (.slice none 0 0)]) O_191 rfl (fun V=>aW zd (aW zd (aW zd (aW zd (aW zd (aW zd (aW zd (aW zd (aW zd (aW zd (aW zd (aW zd (aW zd (aW zd (aW zd (aW zd (aW zd (aW zd (aW zd (aW zd (aG)))))))))))))))))))))) fun B8=>?_)))))
 refine ro rfl (cQ (cJ 0)) (eX (ts (ro rfl (eW A_28 Z_28 (Ht rfl) (i:=1) rfl rfl rfl) (ro rfl (cZ Tryz.call225 (Gg h2 hf) ⟨(Ht rfl),trivial⟩) (rm rfl (ro rfl (dK (Ht rfl) rfl) (ro rfl (dK (Ht rfl) rfl) (rn rfl (eG (Ts:=[Is (.bool false),Is (.slice none 0 0),Is (.bool false),Is (.slice none 0 0),Is (.slice none 0 0),Is (.bool false),Is (.slice none 0 0),Is (.bool false),Is (.slice none 0 0),Is (.slice none 0 0),Is (.bool false),Is (.slice none 0 0),Is (.bool false),Is (.slice none 0 0),Is (.slice none 0 0),Is (.bool false),Is (.slice none 0 0),Is (.bool false),Is (.slice none 0 0),Is (.slice none 0 0)]) O_191 rfl (fun V=>aW zd (aW zd (aW zd (aW zd (aW zd (aW zd (aW zd (aW zd (aW zd (aW zd (aW zd (aW zd (aW zd (aW zd (aW zd (aW zd (aW zd (aW zd (aW zd (aW zd (aG)))))))))))))))))))))) fun B10=>?_))))))))
 refine gV Z_191 (Ht rfl) (Ht rfl) rfl (i:=3) rfl (aK rfl) rfl rfl (ra rfl (eX (cK (eK (ts (rm rfl (ro rfl (gY (Ht rfl) cV) (ra rfl (eX (fR (Ht rfl) (by rfl) ?_))))))))))
 refine ts (ro rfl (eW A_28 Z_28 (Ht rfl) (i:=0) rfl rfl rfl) (rm rfl (ro rfl (cZ Tryz.call138 Cu ⟨(Ht rfl),(Ht rfl),trivial⟩) (ro rfl (fO (Ht rfl)) (ra rfl (eX (dQ (Ht rfl) (fun hb=>?_) (fun hb=>?_))))))))
 ·have he := a0N (x := x) h2 (by simpa only [Bool.not_eq_true', decide_eq_false_iff_not] using hb : ¬ (1 ≤ port ∧ port ≤ (z.length : Int)))
  refine ts (ro rfl (eW A_191 Z_191 (Ht rfl) (i:=3) rfl rfl rfl) (gV Z_191 (Ht rfl) (Ht rfl) rfl (i:=2) rfl (aK rfl) rfl rfl (ro rfl (cQ (cJ 1)) (eX (bN rfl (gX A_191 Z_191 rfl (i:=2) rfl rfl) (fV (eY rfl) ?_))))))
  exact (aT he.symm)
 ·have hb2 : 1 ≤ port ∧ port ≤ (z.length : Int) := by simpa using hb
  have hd:=a0P (x:=x) h2 hb2
  haveI g1:aM (gv fz (x - 1)) L:=hff.get hL _
  haveI g2:aM (gv z (port - 1).toNat) L:=hfz.get hL _
  refine cK (fW (m:=12) (dp 6 rfl (eJ iG (Ht rfl) rfl) (dq 29 0 rfl (fQ A_25 Z_25 (Ht rfl) (i:=1) rfl rfl) (dp 3 rfl (cX (Ht rfl)) (dq 31 2 rfl (dW (Ht rfl) (cJ 1) zo z6) (dP 30 1 32 3 rfl (dZ U_25 Z_60 (Ht rfl) (Ht rfl) rfl (dY (dU (d:=Qi.zero) zo))) (dq 33 4 rfl (dJ A_60 Z_60 (Ht rfl)) (dp 4 rfl (eJ iG (Ht rfl) rfl) (dq 35 6 rfl (fQ A_25 Z_25 (Ht rfl) (i:=0) rfl rfl) ?_)))))))))
  refine dp 1 rfl (cX (Ht rfl)) (dq 37 8 rfl (gI (Ht rfl) cV (r:=(((port - 1).toNat:Nat):Int)) ((tB (z:=port - 1) zo).trans zo)) ?_)
  refine dP 36 7 38 9 rfl (dZ U_25 Z_60 (Ht rfl) (Ht rfl) rfl (dY (dU (d:=Qi.zero) zo))) (dq 39 10 rfl (dJ A_60 Z_60 (Ht rfl)) (fK bC rfl (by kernel_rfl) (zF (zF (zF (aV (ro rfl (cZ Tryz.call100 (Nf (x:=gv fz (x - 1)) (y:=gv z (port - 1).toNat) (L:=L) (M:=L) zo zo) ⟨(Ht rfl),(Ht rfl),trivial⟩) (ro rfl (fO (Ht rfl)) (ra rfl (eX (dQ (Ht rfl) (fun hc=>?_) (fun hc=>?_))))))))))))
  ·have he : yS z fz port x = 40 := by rw [hd, if_neg (by simpa using hc)]
   refine ts (ro rfl (eW A_191 Z_191 (Ht rfl) (i:=3) rfl rfl rfl) (gV Z_191 (Ht rfl) (Ht rfl) rfl (i:=2) rfl (aK rfl) rfl rfl (ro rfl (cQ (cJ 40)) (eX (bN rfl (gX A_191 Z_191 rfl (i:=2) rfl rfl) (fV (eY rfl) ?_))))))
   exact (aT he.symm)
  ·have he : yS z fz port x = 0 := by rw [hd, if_pos (by simpa using hc)]
   refine cU (bI (ts (ro rfl (eW A_191 Z_191 (Ht rfl) (i:=3) rfl rfl rfl) (gV Z_191 (Ht rfl) (Ht rfl) rfl (i:=2) rfl (aK rfl) rfl rfl (ro rfl (cQ (cJ 0)) (eX (bN rfl (gX A_191 Z_191 rfl (i:=2) rfl rfl) (fV (eY rfl) ?_))))))))
   exact (aT he.symm)
theorem Kc {z fz:List Qi} {s f:List (List Qi)} {port:Int} {x:Nat} (h2:fz.length ≠ 2):bB Tryz.prog 133 [dT z s,aF .i64 port,dT fz f,NT .i64 x] (dM [dR (Tf [] 0),aF .i64 4]):=by
 refine bB.intro Tryz.func133 rfl Tryz.ntmps133 rfl (fun cx=>(ts (rn rfl (gQ (Ht rfl)) fun B4=>(rn rfl (gQ (Ht rfl)) fun B6=>(rn rfl (eG (Ts:=[Is (.bool false),Is (.slice none 0 0),Is (.bool false),Is (.slice none 0 0),Is (.slice none 0 0),Is (.bool false),Is (.slice none 0 0),Is (.bool false),Is (.slice none 0 0),Is (.slice none 0 0),Is (.bool false),Is (.slice none 0 0),Is (.bool false),Is (.slice none 0 0),Is (.slice none 0 0),Is (.bool false),Is (.slice none 0 0),Is (.bool false),Is (.slice none 0 0),Is (.slice none 0 0)]) O_191 rfl (fun V=>aW zd (aW zd (aW zd (aW zd (aW zd (aW zd (aW zd (aW zd (aW zd (aW zd (aW zd (aW zd (aW zd (aW zd (aW zd (aW zd (aW zd (aW zd (aW zd (aW zd (aG)))))))))))))))))))))) fun B8=>?_)))))
 refine ro rfl (cQ (cJ 0)) (eX (ts (ro rfl (eW A_28 Z_28 (Ht rfl) (i:=1) rfl rfl rfl) (ro rfl (cZ Tryz.call225 (Gf h2) ⟨(Ht rfl),trivial⟩) (rm rfl (ro rfl (dK (Ht rfl) rfl) (ro rfl (dK (Ht rfl) rfl) (rn rfl (eG (Ts:=[Is (.bool false),Is (.slice none 0 0),Is (.bool false),Is (.slice none 0 0),Is (.slice none 0 0),Is (.bool false),Is (.slice none 0 0),Is (.bool false),Is (.slice none 0 0),Is (.slice none 0 0),Is (.bool false),Is (.slice none 0 0),Is (.bool false),Is (.slice none 0 0),Is (.slice none 0 0),Is (.bool false),Is (.slice none 0 0),Is (.bool false),Is (.slice none 0 0),Is (.slice none 0 0)]) O_191 rfl (fun V=>aW zd (aW zd (aW zd (aW zd (aW zd (aW zd (aW zd (aW zd (aW zd (aW zd (aW zd (aW zd (aW zd (aW zd (aW zd (aW zd (aW zd (aW zd (aW zd (aW zd (aG)))))))))))))))))))))) fun B10=>?_))))))))
 refine gV Z_191 (Ht rfl) (Ht rfl) rfl (i:=3) rfl (aK rfl) rfl rfl (ra rfl (eX (cK (eK (ts (rm rfl (ro rfl (gY (Ht rfl) cV) (ra rfl (eX (mI (Ht rfl) (by rfl) ?_))))))))))
 refine ts (ro rfl (eW A_191 Z_191 (Ht rfl) (i:=3) rfl rfl rfl) (rm rfl (gV Z_191 (Ht rfl) (Ht rfl) rfl (i:=2) rfl (aK rfl) rfl rfl (ra rfl (eX ?_)))))
 exact bN rfl (gX A_191 Z_191 rfl (i:=2) rfl rfl) (eY rfl)
theorem Kh {z:List Qi} {s:List (List Qi)} {p:Nat} {e:Qi} {L M:Nat} (hs:iF s z.length z.length) (hp:p < z.length) (hz:z.length ≤ 1000) (hf:cF s L) (he2:aM e M) (hL:1 ≤ L) (hLb:L + 3 * M + 2 ≤ 1000000) (he:e = Qi.zero):bB Tryz.prog 134 [dT z s,NT .i64 p,aD e] (dM [bL [],bL [],aF .i64 6]):=by
 have hsl:=hs.1
 have hspr:=hs.row hp
 haveI:=he2
 refine bB.intro Tryz.func134 rfl Tryz.ntmps134 rfl (fun cx=>(ts (rn rfl (gQ (Ht rfl)) fun B3=>(rn rfl (gQ (Ht rfl)) fun B5=>(ro rfl (cQ cV) (ro rfl (cQ cV) (ro rfl (cQ (cJ 0)) (eX (cK (cK (uD 60 5 (uD 60 5 (cY (ro rfl (eJ eT (Ht rfl) rfl) (ro rfl (fQ A_26 Z_26 (Ht rfl) (i:=0) rfl rfl) (ro rfl (dG U_26 (Ht rfl) (by rw [List.length_map,hsl])) ?_))))))))))))))))
 refine ro rfl (cX (cJ 0)) (eX (eK ?_))
 refine jS (fun (i : Nat) (vU : Value) (vV : Value) => i = 0) (fun (i : Nat) (vU : Value) (vV : Value) => z.length - i) (fun (i : Nat) (vU : Value) (vV : Value) => [(1, NT .i64 p), (3, cE B3 0), (5, cE B5 0), (6, Is vU), (7, Is vV), (8, NT .i64 0), (16, NT .i64 z.length), (17, NT .i64 i)]) (fun (i : Nat) (vU : Value) (vV : Value) => [box B3 28 [bL z, eE s], box B5 60 (nb e), bE 60 5 vU ((tab i (fun i => gm s i p / e)).map aD), bE 60 5 vV ((tab i (fun i => gm s p i / e)).map aD)]) 0 _ _ rfl
  (zS rfl) (aU (aB rfl) (aU (aB rfl) (aU (bA rfl) (aU (bA rfl) aY)))) (fun i vU vV hi=>?_)
 refine ts (ro rfl (gW (Ht rfl) (Ht rfl)) (eX (cK (dQ (Ht rfl) (fun hd=>?_) (fun hd=>?_)))))
 ·have hin : i < z.length := by simp only [decide_eq_true_eq] at hd; omega
  have hsr:=hs.row hin
  haveI g1:aM (gm s i p) L:=hf.get hL _ _
  haveI g2:aM (gm s p i) L:=hf.get hL _ _
  refine cU (cK (eK (ts (rm rfl (ra rfl (eX (cK (Y.D_start (m:=16) [] (bY (Ei:=[(3,_)]) rfl rfl (bQ (bJ rfl rfl) bX) rfl rfl (dX rfl (eJ eT (Ht rfl) rfl)) (bY (Ei:=[(21,_)]) rfl rfl (bQ (bZ 0 rfl rfl) bX) rfl rfl (dX rfl (fQ A_26 Z_26 (Ht rfl) (i:=0) rfl rfl)) (bY (Ei:=[(9,_)]) rfl rfl (bQ (bJ rfl rfl) bX) rfl rfl (dX rfl (cX (Ht rfl))) (bY (Ei:=[(22,_),(23,_)]) rfl rfl (bQ (bZ 1 rfl rfl) (bQ (bZ 2 rfl rfl) bX)) rfl rfl (dX rfl (dZ U_26 Z_25 (Ht rfl) (Ht rfl) rfl (dY (dU (d:=[]) zo)))) ?_))))))))))))
  refine bY (Ei:=[(24,_)]) rfl rfl (bQ (bZ 3 rfl rfl) bX) rfl rfl (dX rfl (dJ A_25 Z_25 (Ht rfl))) (bY (Ei:=[(1,_)]) rfl rfl (bQ (bJ rfl rfl) bX) rfl rfl (dX rfl (cX (Ht rfl))) (bY (Ei:=[(25,_),(26,_)]) rfl rfl (bQ (bZ 4 rfl rfl) (bQ (bZ 5 rfl rfl) bX)) rfl rfl (dX rfl (dZ U_25 Z_60 (Ht rfl) (Ht rfl) rfl (dY (dU (d:=Qi.zero) zo)))) (bY (Ei:=[(27,_)]) rfl rfl (bQ (bZ 6 rfl rfl) bX) rfl rfl (dX rfl (dJ A_60 Z_60 (Ht rfl))) ?_)))
  refine bY (Ei:=[(28,_)]) rfl rfl (bQ (bZ 7 rfl rfl) bX) rfl rfl (dX rfl (bH bR (Ht rfl))) (bY (Ei:=[(5,_)]) rfl rfl (bQ (bJ rfl rfl) bX) rfl rfl (dX rfl (eW A_60 Z_60 (Ht rfl) (i:=1) rfl rfl rfl)) (bY (Ei:=[(29,_),(30,_)]) rfl rfl (bQ (bZ 8 rfl rfl) (bQ (bZ 9 rfl rfl) bX)) rfl rfl (dX rfl (bD jN K_64 (sC (x:=gm s i p) (y:=e) (L:=L) (M:=M) zo) (Ht rfl) ⟨(Ht rfl),trivial⟩)) (bY (Ei:=[(31,_)]) rfl rfl (bQ (bZ 10 rfl rfl) bX) rfl rfl (dX rfl (cX (Ht rfl))) ?_)))
  refine bY (Ei:=[(20,_)]) rfl rfl (bQ (bZ 11 rfl rfl) bX) rfl rfl (dX rfl (dK (Ht rfl) rfl)) (bY (Ei:=[(20,_)]) rfl rfl (bQ (bZ 11 rfl rfl) bX) rfl rfl (dX rfl (dK (Ht rfl) rfl)) (Y.D_newp (Ei:=[]) (fun bb=>box bb 60 (nb (gm s i p / e))) 15 rfl rfl rfl bX rfl rfl (by kernel_rfl) (eG (Ts:=[Is (.bool false),Is (.slice none 0 0),Is (.bool false),Is (.slice none 0 0),Is (.slice none 0 0)]) O_60 rfl (fun V=>aW zd (aW zd (aW zd (aW zd (aW zd (aG))))))) ?_))
  refine Y.D_putN (Ei:=[(32,_)]) 14 rfl rfl rfl rfl rfl rfl (bQ (bZ 12 rfl rfl) bX) (fun bb=>mH Z_60 (Ht rfl) (Ht rfl) rfl (i:=0) rfl (aK rfl) rfl rfl) (Y.D_done bC rfl (by kernel_rfl) rfl (by simp [Y.okP]) rfl rfl (bU (bU (bU (bU (bU (bU (bU (bU (bU (bU (bU (bU (bU (bU (Y.F_newp (fun B10=>Y.F_putN (Y.F_nil ?_))))))))))))))))))
  refine ra rfl (eX (cK (gK (i:=4) (tt:=10) rfl rfl kZ (bO [0,1,2,3] rfl (by decide) (Y.D_start (m:=16) [] (bY (Ei:=[(3,_)]) rfl rfl (bQ (bJ rfl rfl) bX) rfl rfl (dX rfl (eJ eT (Ht rfl) rfl)) (bY (Ei:=[(35,_)]) rfl rfl (bQ (bZ 0 rfl rfl) bX) rfl rfl (dX rfl (fQ A_26 Z_26 (Ht rfl) (i:=0) rfl rfl)) (bY (Ei:=[(1,_)]) rfl rfl (bQ (bJ rfl rfl) bX) rfl rfl (dX rfl (cX (Ht rfl))) (bY (Ei:=[(36,_),(37,_)]) rfl rfl (bQ (bZ 1 rfl rfl) (bQ (bZ 2 rfl rfl) bX)) rfl rfl (dX rfl (dZ U_26 Z_25 (Ht rfl) (Ht rfl) rfl (dY (dU (d:=[]) zo)))) ?_)))))))))
  refine bY (Ei:=[(38,_)]) rfl rfl (bQ (bZ 3 rfl rfl) bX) rfl rfl (dX rfl (dJ A_25 Z_25 (Ht rfl))) (bY (Ei:=[(9,_)]) rfl rfl (bQ (bJ rfl rfl) bX) rfl rfl (dX rfl (cX (Ht rfl))) (bY (Ei:=[(39,_),(40,_)]) rfl rfl (bQ (bZ 4 rfl rfl) (bQ (bZ 5 rfl rfl) bX)) rfl rfl (dX rfl (dZ U_25 Z_60 (Ht rfl) (Ht rfl) rfl (dY (dU (d:=Qi.zero) zo)))) (bY (Ei:=[(41,_)]) rfl rfl (bQ (bZ 6 rfl rfl) bX) rfl rfl (dX rfl (dJ A_60 Z_60 (Ht rfl))) ?_)))
  refine bY (Ei:=[(42,_)]) rfl rfl (bQ (bZ 7 rfl rfl) bX) rfl rfl (dX rfl (bH bR (Ht rfl))) (bY (Ei:=[(5,_)]) rfl rfl (bQ (bJ rfl rfl) bX) rfl rfl (dX rfl (eW A_60 Z_60 (Ht rfl) (i:=1) rfl rfl rfl)) (bY (Ei:=[(43,_),(44,_)]) rfl rfl (bQ (bZ 8 rfl rfl) (bQ (bZ 9 rfl rfl) bX)) rfl rfl (dX rfl (bD jN K_64 (sC (x:=gm s p i) (y:=e) (L:=L) (M:=M) zo) (Ht rfl) ⟨(Ht rfl),trivial⟩)) (bY (Ei:=[(45,_)]) rfl rfl (bQ (bZ 10 rfl rfl) bX) rfl rfl (dX rfl (cX (Ht rfl))) ?_)))
  refine bY (Ei:=[(34,_)]) rfl rfl (bQ (bZ 11 rfl rfl) bX) rfl rfl (dX rfl (dK (Ht rfl) rfl)) (bY (Ei:=[(34,_)]) rfl rfl (bQ (bZ 11 rfl rfl) bX) rfl rfl (dX rfl (dK (Ht rfl) rfl)) (Y.D_newp (Ei:=[]) (fun bb=>box bb 60 (nb (gm s p i / e))) 15 rfl rfl rfl bX rfl rfl (by kernel_rfl) (eG (Ts:=[Is (.bool false),Is (.slice none 0 0),Is (.bool false),Is (.slice none 0 0),Is (.slice none 0 0)]) O_60 rfl (fun V=>aW zd (aW zd (aW zd (aW zd (aW zd (aG))))))) ?_))
  refine Y.D_putN (Ei:=[(46,_)]) 14 rfl rfl rfl rfl rfl rfl (bQ (bZ 12 rfl rfl) bX) (fun bb=>mH Z_60 (Ht rfl) (Ht rfl) rfl (i:=0) rfl (aK rfl) rfl rfl) (Y.D_done bC rfl (by kernel_rfl) rfl (by simp [Y.okP]) rfl rfl (bU (bU (bU (bU (bU (bU (bU (bU (bU (bU (bU (bU (bU (bU (Y.F_newp (fun B12=>Y.F_putN (Y.F_nil ?_))))))))))))))))))
  refine ra rfl (eX (cK (cK (gK (i:=4) (tt:=12) rfl rfl kZ (bO [0,1,2,3] rfl (by decide) (cY (rm rfl (ro rfl (gY (Ht rfl) cV) (rm rfl (fJ rfl rfl (eU rfl rfl (Ht rfl) (fun h=>cX (Ht rfl))) (fJ rfl rfl (eU rfl rfl (Ht rfl) (fun h=>gY (fG rfl h) cV)) (ro rfl (kH (Ht rfl) (fun h=>(fG rfl h))) (eX (mI (Ht rfl) (by simp [he]) ?_))))))))))))))
  refine ts (ro rfl (cQ cV) (ro rfl (cQ cV) (ro rfl (cQ (cJ 6)) (eX (Ft rfl (fV (eY rfl) ?_) (fV (eY rfl) ?_) (eY rfl))))))
  ·exact iO
  ·exact iO
 ·exact absurd hd (by simp; omega)
theorem Ki {z:List Qi} {s:List (List Qi)} {p:Nat} {e:Qi} {L M:Nat} (hs:iF s z.length z.length) (hp:p < z.length) (hz:z.length ≤ 1000) (hf:cF s L) (he2:aM e M) (hL:1 ≤ L) (hLb:L + 3 * M + 2 ≤ 1000000) (he:e ≠ Qi.zero):bB Tryz.prog 134 [dT z s,NT .i64 p,aD e] (dM [bL (tab z.length (fun i=>gm s i p / e)),bL (tab z.length (fun i=>gm s p i / e)),aF .i64 0]):=by
 have hsl:=hs.1
 have hspr:=hs.row hp
 haveI:=he2
 refine bB.intro Tryz.func134 rfl Tryz.ntmps134 rfl (fun cx=>(ts (rn rfl (gQ (Ht rfl)) fun B3=>(rn rfl (gQ (Ht rfl)) fun B5=>(ro rfl (cQ cV) (ro rfl (cQ cV) (ro rfl (cQ (cJ 0)) (eX (cK (cK (uD 60 5 (uD 60 5 (cY (ro rfl (eJ eT (Ht rfl) rfl) (ro rfl (fQ A_26 Z_26 (Ht rfl) (i:=0) rfl rfl) (ro rfl (dG U_26 (Ht rfl) (by rw [List.length_map,hsl])) ?_))))))))))))))))
 refine ro rfl (cX (cJ 0)) (eX (eK ?_))
 refine jS (fun (i : Nat) (vU : Value) (vV : Value) => i ≤ z.length) (fun (i : Nat) (vU : Value) (vV : Value) => z.length - i) (fun (i : Nat) (vU : Value) (vV : Value) => [(1, NT .i64 p), (3, cE B3 0), (5, cE B5 0), (6, Is vU), (7, Is vV), (8, NT .i64 0), (16, NT .i64 z.length), (17, NT .i64 i)]) (fun (i : Nat) (vU : Value) (vV : Value) => [box B3 28 [bL z, eE s], box B5 60 (nb e), bE 60 5 vU ((tab i (fun i => gm s i p / e)).map aD), bE 60 5 vV ((tab i (fun i => gm s p i / e)).map aD)]) 0 _ _ (Nat.zero_le _)
  (zS rfl) (aU (aB rfl) (aU (aB rfl) (aU (bA rfl) (aU (bA rfl) aY)))) (fun i vU vV hi=>?_)
 refine ts (ro rfl (gW (Ht rfl) (Ht rfl)) (eX (cK (dQ (Ht rfl) (fun hd=>?_) (fun hd=>?_)))))
 ·have hin : i < z.length := by simp only [decide_eq_true_eq] at hd; omega
  have hsr:=hs.row hin
  haveI g1:aM (gm s i p) L:=hf.get hL _ _
  haveI g2:aM (gm s p i) L:=hf.get hL _ _
  refine cU (cK (eK (ts (rm rfl (ra rfl (eX (cK (Y.D_start (m:=16) [] (bY (Ei:=[(3,_)]) rfl rfl (bQ (bJ rfl rfl) bX) rfl rfl (dX rfl (eJ eT (Ht rfl) rfl)) (bY (Ei:=[(21,_)]) rfl rfl (bQ (bZ 0 rfl rfl) bX) rfl rfl (dX rfl (fQ A_26 Z_26 (Ht rfl) (i:=0) rfl rfl)) (bY (Ei:=[(9,_)]) rfl rfl (bQ (bJ rfl rfl) bX) rfl rfl (dX rfl (cX (Ht rfl))) (bY (Ei:=[(22,_),(23,_)]) rfl rfl (bQ (bZ 1 rfl rfl) (bQ (bZ 2 rfl rfl) bX)) rfl rfl (dX rfl (dZ U_26 Z_25 (Ht rfl) (Ht rfl) rfl (dY (dU (d:=[]) zo)))) ?_))))))))))))
  refine bY (Ei:=[(24,_)]) rfl rfl (bQ (bZ 3 rfl rfl) bX) rfl rfl (dX rfl (dJ A_25 Z_25 (Ht rfl))) (bY (Ei:=[(1,_)]) rfl rfl (bQ (bJ rfl rfl) bX) rfl rfl (dX rfl (cX (Ht rfl))) (bY (Ei:=[(25,_),(26,_)]) rfl rfl (bQ (bZ 4 rfl rfl) (bQ (bZ 5 rfl rfl) bX)) rfl rfl (dX rfl (dZ U_25 Z_60 (Ht rfl) (Ht rfl) rfl (dY (dU (d:=Qi.zero) zo)))) (bY (Ei:=[(27,_)]) rfl rfl (bQ (bZ 6 rfl rfl) bX) rfl rfl (dX rfl (dJ A_60 Z_60 (Ht rfl))) ?_)))
  refine bY (Ei:=[(28,_)]) rfl rfl (bQ (bZ 7 rfl rfl) bX) rfl rfl (dX rfl (bH bR (Ht rfl))) (bY (Ei:=[(5,_)]) rfl rfl (bQ (bJ rfl rfl) bX) rfl rfl (dX rfl (eW A_60 Z_60 (Ht rfl) (i:=1) rfl rfl rfl)) (bY (Ei:=[(29,_),(30,_)]) rfl rfl (bQ (bZ 8 rfl rfl) (bQ (bZ 9 rfl rfl) bX)) rfl rfl (dX rfl (bD jN K_64 (sC (x:=gm s i p) (y:=e) (L:=L) (M:=M) zo) (Ht rfl) ⟨(Ht rfl),trivial⟩)) (bY (Ei:=[(31,_)]) rfl rfl (bQ (bZ 10 rfl rfl) bX) rfl rfl (dX rfl (cX (Ht rfl))) ?_)))
  refine bY (Ei:=[(20,_)]) rfl rfl (bQ (bZ 11 rfl rfl) bX) rfl rfl (dX rfl (dK (Ht rfl) rfl)) (bY (Ei:=[(20,_)]) rfl rfl (bQ (bZ 11 rfl rfl) bX) rfl rfl (dX rfl (dK (Ht rfl) rfl)) (Y.D_newp (Ei:=[]) (fun bb=>box bb 60 (nb (gm s i p / e))) 15 rfl rfl rfl bX rfl rfl (by kernel_rfl) (eG (Ts:=[Is (.bool false),Is (.slice none 0 0),Is (.bool false),Is (.slice none 0 0),Is (.slice none 0 0)]) O_60 rfl (fun V=>aW zd (aW zd (aW zd (aW zd (aW zd (aG))))))) ?_))
  refine Y.D_putN (Ei:=[(32,_)]) 14 rfl rfl rfl rfl rfl rfl (bQ (bZ 12 rfl rfl) bX) (fun bb=>mH Z_60 (Ht rfl) (Ht rfl) rfl (i:=0) rfl (aK rfl) rfl rfl) (Y.D_done bC rfl (by kernel_rfl) rfl (by simp [Y.okP]) rfl rfl (bU (bU (bU (bU (bU (bU (bU (bU (bU (bU (bU (bU (bU (bU (Y.F_newp (fun B10=>Y.F_putN (Y.F_nil ?_))))))))))))))))))
  refine ra rfl (eX (cK (gK (i:=4) (tt:=10) rfl rfl kZ (bO [0,1,2,3] rfl (by decide) (Y.D_start (m:=16) [] (bY (Ei:=[(3,_)]) rfl rfl (bQ (bJ rfl rfl) bX) rfl rfl (dX rfl (eJ eT (Ht rfl) rfl)) (bY (Ei:=[(35,_)]) rfl rfl (bQ (bZ 0 rfl rfl) bX) rfl rfl (dX rfl (fQ A_26 Z_26 (Ht rfl) (i:=0) rfl rfl)) (bY (Ei:=[(1,_)]) rfl rfl (bQ (bJ rfl rfl) bX) rfl rfl (dX rfl (cX (Ht rfl))) (bY (Ei:=[(36,_),(37,_)]) rfl rfl (bQ (bZ 1 rfl rfl) (bQ (bZ 2 rfl rfl) bX)) rfl rfl (dX rfl (dZ U_26 Z_25 (Ht rfl) (Ht rfl) rfl (dY (dU (d:=[]) zo)))) ?_)))))))))
  refine bY (Ei:=[(38,_)]) rfl rfl (bQ (bZ 3 rfl rfl) bX) rfl rfl (dX rfl (dJ A_25 Z_25 (Ht rfl))) (bY (Ei:=[(9,_)]) rfl rfl (bQ (bJ rfl rfl) bX) rfl rfl (dX rfl (cX (Ht rfl))) (bY (Ei:=[(39,_),(40,_)]) rfl rfl (bQ (bZ 4 rfl rfl) (bQ (bZ 5 rfl rfl) bX)) rfl rfl (dX rfl (dZ U_25 Z_60 (Ht rfl) (Ht rfl) rfl (dY (dU (d:=Qi.zero) zo)))) (bY (Ei:=[(41,_)]) rfl rfl (bQ (bZ 6 rfl rfl) bX) rfl rfl (dX rfl (dJ A_60 Z_60 (Ht rfl))) ?_)))
  refine bY (Ei:=[(42,_)]) rfl rfl (bQ (bZ 7 rfl rfl) bX) rfl rfl (dX rfl (bH bR (Ht rfl))) (bY (Ei:=[(5,_)]) rfl rfl (bQ (bJ rfl rfl) bX) rfl rfl (dX rfl (eW A_60 Z_60 (Ht rfl) (i:=1) rfl rfl rfl)) (bY (Ei:=[(43,_),(44,_)]) rfl rfl (bQ (bZ 8 rfl rfl) (bQ (bZ 9 rfl rfl) bX)) rfl rfl (dX rfl (bD jN K_64 (sC (x:=gm s p i) (y:=e) (L:=L) (M:=M) zo) (Ht rfl) ⟨(Ht rfl),trivial⟩)) (bY (Ei:=[(45,_)]) rfl rfl (bQ (bZ 10 rfl rfl) bX) rfl rfl (dX rfl (cX (Ht rfl))) ?_)))
  refine bY (Ei:=[(34,_)]) rfl rfl (bQ (bZ 11 rfl rfl) bX) rfl rfl (dX rfl (dK (Ht rfl) rfl)) (bY (Ei:=[(34,_)]) rfl rfl (bQ (bZ 11 rfl rfl) bX) rfl rfl (dX rfl (dK (Ht rfl) rfl)) (Y.D_newp (Ei:=[]) (fun bb=>box bb 60 (nb (gm s p i / e))) 15 rfl rfl rfl bX rfl rfl (by kernel_rfl) (eG (Ts:=[Is (.bool false),Is (.slice none 0 0),Is (.bool false),Is (.slice none 0 0),Is (.slice none 0 0)]) O_60 rfl (fun V=>aW zd (aW zd (aW zd (aW zd (aW zd (aG))))))) ?_))
  refine Y.D_putN (Ei:=[(46,_)]) 14 rfl rfl rfl rfl rfl rfl (bQ (bZ 12 rfl rfl) bX) (fun bb=>mH Z_60 (Ht rfl) (Ht rfl) rfl (i:=0) rfl (aK rfl) rfl rfl) (Y.D_done bC rfl (by kernel_rfl) rfl (by simp [Y.okP]) rfl rfl (bU (bU (bU (bU (bU (bU (bU (bU (bU (bU (bU (bU (bU (bU (Y.F_newp (fun B12=>Y.F_putN (Y.F_nil ?_))))))))))))))))))
  refine ra rfl (eX (cK (cK (gK (i:=4) (tt:=12) rfl rfl kZ (bO [0,1,2,3] rfl (by decide) (cY (rm rfl (ro rfl (gY (Ht rfl) cV) (rm rfl (fJ rfl rfl (eU rfl rfl (Ht rfl) (fun h=>cX (Ht rfl))) (fJ rfl rfl (eU rfl rfl (Ht rfl) (fun h=>gY (fG rfl h) cV)) (ro rfl (kH (Ht rfl) (fun h=>(fG rfl h))) (eX (fR (Ht rfl) (by simp [he]) ?_))))))))))))))
  refine cU (Y.D_startA (m:=7) [] 3 2 rfl rfl (bY (Ei:=[(6,_)]) rfl rfl (bQ (bJ rfl rfl) bX) rfl rfl (dX rfl (cX (Ht rfl))) (bY (Ei:=[(10,_)]) rfl rfl (bQ (bJ rfl rfl) bX) rfl rfl (dX rfl (dJ A_60 Z_60 (Ht rfl))) (bY (Ei:=[(55,_)]) rfl rfl (bQ (bZ 1 rfl rfl) bX) rfl rfl (dX rfl (eM (xs:=[.tmp 55]) U_25 Z_60 O_60 (cW (Ht rfl) cG) rfl rfl rfl)) (Y.D_app (Ei:=[(54,_),(56,_)]) rfl rfl rfl rfl (bQ (bZ 0 rfl rfl) (bQ (bZ 2 rfl rfl) bX)) rfl (Cj (inf:=Tryz.t60) jP iM rfl rfl rfl (Ht rfl) (Ht rfl) (by simp) (fun T hT=>by simp at hT; subst hT; exact El.ag rfl) (by show _ * 88 ≤ _; simp only [List.length_map,aO,List.length_cons,List.length_nil]; omega) (by simp only [List.length_map,aO,List.length_cons,List.length_nil]; omega)) ?_)))))
  refine bY (Ei:=[(7,_)]) rfl rfl (bQ (bJ rfl rfl) bX) rfl rfl (dX rfl (cX (Ht rfl))) (bY (Ei:=[(12,_)]) rfl rfl (bQ (bJ rfl rfl) bX) rfl rfl (dX rfl (dJ A_60 Z_60 (Ht rfl))) (bY (Ei:=[(59,_)]) rfl rfl (bQ (bZ 5 rfl rfl) bX) rfl rfl (dX rfl (eM (xs:=[.tmp 59]) U_25 Z_60 O_60 (cW (Ht rfl) cG) rfl rfl rfl)) (Y.D_done bC rfl (by kernel_rfl) rfl (by simp [Y.okP]) rfl rfl (bU (bU (bU (Y.F_app (fun v2=>bU (bU (bU (Y.F_nil ?_)))))))))))
  refine rZ (inf:=Tryz.t60) jP iM rfl rfl rfl (Ht rfl) (Ht rfl) (i:=3) rfl (by simp) (fun T hT=>by simp at hT; subst hT; exact El.ag rfl) (by show _ * 88 ≤ _; simp only [List.length_map,aO,List.length_cons,List.length_nil]; omega) (by simp only [List.length_map,aO,List.length_cons,List.length_nil]; omega) rfl (fun v3=>?_)
  refine ra rfl (ra rfl (eX (bI (cY (ro rfl (dV (Ht rfl) (cJ 1) z6) (rm rfl (eX ?_)))))))
  refine bO [0,1,4,3] rfl (by decide) (gZ (i + 1,v2,v3) hin (by dsimp only; omega) (zS rfl) (aU (aB rfl) (aU (aB rfl) (aU (bA (by rw [sY,List.map_append]; rfl)) (aU (bA (by rw [sY,List.map_append]; rfl)) aY)))))
 ·obtain rfl : i = z.length := by simp only [decide_eq_false_iff_not] at hd; omega
  refine gU rfl (cK (gK (i:=2) (tt:=6) rfl rfl eN (gK (i:=3) (tt:=7) rfl rfl eN (cY (rm rfl (rm rfl (ra rfl (ra rfl (ro rfl (cQ (cJ 0)) (eX ?_))))))))))
  exact Ft rfl (eY rfl) (eY rfl) (eY rfl)
theorem Ye {z:List Qi} {s:List (List Qi)} {p:Nat} {x:Qi} {F:Nat → Nat → Qi} (hs:iF s z.length z.length) (hp:p < z.length) (hz:z.length ≤ 1000):bB Tryz.prog 135 [dT z s,NT .i64 p,aD x,Fk Tryz.prog (Fin z.length × Fin z.length) (fun x=>[NT .i64 x.1.1,NT .i64 x.2.1]) (fun x=>aD (F x.1.1 x.2.1))] (dT (z.set p x) (tab z.length fun i=>tab z.length fun j=>F i j)):=by
 refine bB.intro Tryz.func135 rfl Tryz.ntmps135 rfl (fun cx=>(ts (rn rfl (gQ (Ht rfl)) fun B4=>(rn rfl (gQ (Ht rfl)) fun B6=>(rn rfl (eG (Ts:=[Is (.slice none 0 0),Is (.slice none 0 0)]) O_28 rfl (fun V=>aW zd (aW zd (aG)))) fun B8=>(eX (cK (fW (m:=5) (dp 4 rfl (eW A_28 Z_28 (Ht rfl) (i:=0) rfl rfl rfl) (dp 4 rfl (eW A_28 Z_28 (Ht rfl) (i:=0) rfl rfl rfl) (dq 11 1 rfl (cZ Tryz.call124 (Si (z:=z) (s:=s) zo) ⟨(Ht rfl),cV,trivial⟩) ?_)))))))))))
 refine C.D_new (Ei:=[(10,_),(12,_)]) rfl rfl rfl (bV (bG 0 rfl rfl) (bV (bG 2 rfl rfl) bW)) (zW Tryz.call125 (gP.pack (Sn (z:=z) (s:=s) (Q:=pN [] z.length) (m:=z.length) hs (fun x h=>Pc h) (Hn _) zo zo)) ⟨(Ht rfl),(Ht rfl),trivial⟩) (C.D_new (Ei:=[]) rfl rfl rfl bW (eG (Ts:=[Is (.slice none 0 0),Is (.slice none 0 0)]) O_28 rfl (fun V=>aW zd (aW zd (aG)))) (fK bC rfl (by kernel_rfl) (aJ (aJ (aJ (C.F_new (fun B13=>C.F_new (fun B9=>aV ?_))))))))
 refine gV Z_28 (Ht rfl) (Ht rfl) rfl (i:=4) rfl (aK rfl) rfl rfl (eX (cK (bO [3,0,1,2,4] rfl (by decide) ?_)))
 obtain ⟨⟨vZ,bS⟩,hQ⟩:=B13
 refine Xp (X:=[SA.emp,bE 60 5 (.slice (some ⟨vZ,0,none⟩) z.length z.length) ((yH z (pN [] z.length)).map aD),pD bS 25 60 5 (dN aD (Cb s (pN [] z.length)))]) (Y:=[box B4 28 [bL z,eE s],box B6 60 (nb x),box B8 28 [Is (.slice none 0 0),Is (.slice none 0 0)],box B9 28 [Is (.slice (some ⟨vZ,0,none⟩) z.length z.length),Is (.slice (some ⟨bS,0,none⟩) z.length z.length)]]) (bO [1,3,4,5,6] rfl (by decide) (lI 0 rfl (bA (congrArg (List.map aD) Rr)) (cY (ro rfl (eJ iG (Ht rfl) rfl) (ro rfl (Ul A_25 Z_25 (Ht rfl) (i:=4) rfl rfl) ?_)))))
 refine rm rfl (ro rfl (eW A_60 Z_60 (Ht rfl) (i:=2) rfl rfl rfl) (ro rfl (cC U_25 Z_60 (Ht rfl) (Ht rfl) rfl (i:=0) rfl (by rw [List.length_map]; omega) rfl) ?_))
 refine jY Z_60 (Ht rfl) (Ht rfl) (El.ag rfl) (i:=0) rfl rfl (by rw [List.length_map]; omega) rfl ?_
 refine eX (ts (ro rfl (eJ iG (Ht rfl) rfl) (ro rfl (fQ A_25 Z_25 (Ht rfl) (i:=1) rfl rfl) (ro rfl (dG U_25 (Ht rfl) aA) (rm rfl (ro rfl (cZ Tryz.call110 (Ge (n:=z.length) (f:=F) zo) ⟨(Ht rfl),(Ht rfl),trivial⟩) (ro rfl (eJ eT (Ht rfl) rfl) (kE Z_26 (Ht rfl) (Ht rfl) (i:=4) rfl (aK rfl) rfl (eX (cK (lI 0 rfl (bA (fB aD z p x)) (Jz 4 0 0 rfl rfl rfl (by decide) (cY (ro rfl (eW A_28 Z_28 (Ht rfl) (i:=4) rfl rfl rfl) ?_))))))))))))))
 refine gV Z_28 (Ht rfl) (Ht rfl) rfl (i:=3) rfl (aK rfl) rfl rfl (eX ?_)
 exact fU rfl (gX A_28 Z_28 rfl (i:=3) rfl rfl)
end
section
open Go Go.RowKit
theorem Qr {n i:Nat} {f:Nat → Qi} (h:i < n):(tab n f).getD i Qi.zero = f i:=rU h
theorem Be {s f:List (List Qi)} {p L:Nat} (hs:cF s L) (hf:cF f L) (hL:1 ≤ L):aM (oB s f p) (2 * L + 3):=by
 haveI:=hs.get hL p p; haveI:=hf.get hL 1 1; haveI:=qU
 exact (inferInstance:aM (Qi.ofInt 1 - gm f 1 1 * gm s p p) (1 + (L + L + 1) + 1)).le zo
theorem Od {s f:List (List Qi)} {p i j L:Nat} (hs:cF s L) (hf:cF f L) (hL:1 ≤ L) (hd:oB s f p ≠ Qi.zero):aM (nW s f p i j) (20 * L + 20):=by
 haveI e:=Be (p:=p) hs hf hL
 have q:∀ a b,aM (gm s a b / oB s f p) (7 * L + 11):=fun a b=>(sI (hs.get hL a b) e hd).le zo
 haveI q1:=q p p; haveI q2:=q i p; haveI q3:=q p j
 haveI:=hs.get hL i j; haveI:=hs.get hL p j; haveI:=hf.get hL 1 1; haveI:=hf.get hL 0 0; haveI:=hf.get hL 0 1; haveI:=hf.get hL 1 0
 rw [nW]
 split
 ·exact (inferInstance:aM (_ + _ * (_ * _)) (L + (L + (L + (7 * L + 11) + 1) + 1) + 1)).le zo
 ·split
  ·exact (inferInstance:aM (_ * _) ((7 * L + 11) + L + 1)).le zo
  ·split
   ·exact (inferInstance:aM (_ * _) (L + (7 * L + 11) + 1)).le zo
   ·exact (inferInstance:aM (_ + _ * (_ * _)) (L + ((7 * L + 11) + (L + L + 1) + 1) + 1)).le zo
theorem Oc {s f:List (List Qi)} {p n L:Nat} (hs:cF s L) (hf:cF f L) (hL:1 ≤ L) (hd:oB s f p ≠ Qi.zero):cF (Gp s f p n) (20 * L + 20):=cF.tab fun i j _ _=>Od hs hf hL hd
theorem sZ {n i:Nat} {f:Nat → Qi} (h:i < n):((tab n f).map aD)[i]? = some (aD (f i)):=by rw [List.getElem?_map,cD h]; rfl
theorem My {z:List Qi} {s f:List (List Qi)} {p i j L:Nat} (hs:iF s z.length z.length) (hp:p < z.length) (hi:i < z.length) (hj:j < z.length) (hz:z.length ≤ 1000) (hfs:cF s L) (hff:cF f L) (hL:1 ≤ L) (hLb:L ≤ 60000) (hd:oB s f p ≠ Qi.zero):bB Tryz.prog 136 [NT .i64 i,NT .i64 j,PT (NT .i64 p),PT (aD (gm f 0 0)),PT (aD (gm f 0 1)),PT (aD (gm f 1 0)),PT (bL (tab z.length fun j=>gm s p j / oB s f p)),PT (bL (tab z.length fun i=>gm s i p / oB s f p)),PT (dT z s),PT (aD (gm f 1 1))] (aD (nW s f p i j)):=by
 have hsl:=hs.1
 have hsi:=hs.row hi
 have hsp:=hs.row hp
 haveI e:=Be (p:=p) hfs hff hL
 have q:∀ a b,aM (gm s a b / oB s f p) (7 * L + 11):=fun a b=>(sI (hfs.get hL a b) e hd).le zo
 have hU:∀ k,k < z.length → (tab z.length fun i=>gm s i p / oB s f p).getD k Qi.zero = gm s k p / oB s f p:=fun k h=>Qr h
 have hV:∀ k,k < z.length → (tab z.length fun j=>gm s p j / oB s f p).getD k Qi.zero = gm s p k / oB s f p:=fun k h=>Qr h
 haveI:=q p p; haveI:=q i p; haveI:=q p j
 haveI:=hfs.get hL i j; haveI:=hfs.get hL p j; haveI:=hff.get hL 1 1; haveI:=hff.get hL 0 0; haveI:=hff.get hL 0 1; haveI:=hff.get hL 1 0
 refine bB.intro Tryz.func136 rfl Tryz.ntmps136 rfl (fun cx=>(ts (rn rfl (eG (Ts:=[Is (.bool false),Is (.slice none 0 0),Is (.bool false),Is (.slice none 0 0),Is (.slice none 0 0)]) O_60 rfl (fun V=>aW zd (aW zd (aW zd (aW zd (aW zd (aG))))))) fun B12=>(eX (cK (eK (ts (rm rfl (ro rfl (dJ A_3 Z_3 (Ht rfl)) (ro rfl (cB (Ht rfl) (Ht rfl)) (rm rfl (fJ rfl rfl (eU rfl rfl (Ht rfl) (fun h=>cX (Ht rfl))) ?_))))))))))))
 refine fJ rfl rfl (eU rfl rfl (Ht rfl) (fun h=>dJ A_3 Z_3 (Ht rfl))) (fJ rfl rfl (eU rfl rfl (Ht rfl) (fun h=>cB (fG rfl h) (fG rfl h))) (ro rfl (eC (Ht rfl) (fun h=>(fG rfl h))) (ra rfl (eX (dQ (Ht rfl) (fun hb1=>?_) (fun hb1=>?_))))))
 ·have h2 : i = p ∧ j = p := by simpa using hb1
  refine cK (fW (m:=12) (dp 3 rfl (dJ A_60 Z_60 (Ht rfl)) (dq 22 0 rfl (bH bR (Ht rfl)) (dp 4 rfl (dJ A_60 Z_60 (Ht rfl)) (dq 24 2 rfl (bH bR (Ht rfl)) (dp 5 rfl (dJ A_60 Z_60 (Ht rfl)) (dq 26 4 rfl (bH bR (Ht rfl)) (dp 6 rfl (dJ A_25 Z_25 (Ht rfl)) (dp 2 rfl (dJ A_3 Z_3 (Ht rfl)) (dP 28 6 29 7 rfl (dZ U_25 Z_60 (Ht rfl) (Ht rfl) rfl (sZ hp)) (dq 30 8 rfl (dJ A_60 Z_60 (Ht rfl)) (dP 27 5 31 9 rfl (bD dC K_70 (kQ (x:=gm f 1 0) (y:=gm s p p / oB s f p) (L:=L) (M:=(7 * L + 11)) zo) (Ht rfl) ⟨(Ht rfl),trivial⟩) ?_))))))))))))
  refine dP 25 3 32 10 rfl (bD dC K_70 (kQ (x:=gm f 0 1) (y:=gm f 1 0 * (gm s p p / oB s f p)) (L:=L) (M:=L + (7 * L + 11) + 1) zo) (Ht rfl) ⟨(Ht rfl),trivial⟩) (fK bC rfl (by kernel_rfl) (zF (zF (zF (aV (ro rfl (bD mA K_71 (wW (x:=gm f 0 0) (y:=gm f 0 1 * (gm f 1 0 * (gm s p p / oB s f p))) (L:=L) (M:=L + (L + (7 * L + 11) + 1) + 1) zo) (Ht rfl) ⟨(Ht rfl),trivial⟩) (gV Z_60 (Ht rfl) (Ht rfl) rfl (i:=0) rfl (aK rfl) rfl rfl ?_)))))))
  refine eX (fU rfl (fV (gX A_60 Z_60 rfl (i:=0) rfl rfl) ?_))
  exact (iX (by rw [nW,if_pos h2]))
 ·have h2 : ¬ (i = p ∧ j = p) := by simpa using hb1
  refine ts (rm rfl (ro rfl (dJ A_3 Z_3 (Ht rfl)) (ro rfl (cB (Ht rfl) (Ht rfl)) (ra rfl (eX (dQ (Ht rfl) (fun hb2=>?_) (fun hb2=>?_)))))))
  ·have h3 : j = p := by simpa using hb2
   refine cK (fW (m:=6) (dp 7 rfl (dJ A_25 Z_25 (Ht rfl)) (dp 0 rfl (cX (Ht rfl)) (dP 39 0 40 1 rfl (dZ U_25 Z_60 (Ht rfl) (Ht rfl) rfl (sZ hi)) (dq 41 2 rfl (dJ A_60 Z_60 (Ht rfl)) (dq 42 3 rfl (bH bR (Ht rfl)) (dp 5 rfl (dJ A_60 Z_60 (Ht rfl)) (fK bC rfl (by kernel_rfl) (zF (aJ (aJ (aV (ro rfl (bD dC K_70 (kQ (x:=gm s i p / oB s f p) (y:=gm f 1 0) (L:=(7 * L + 11)) (M:=L) zo) (Ht rfl) ⟨(Ht rfl),trivial⟩) ?_)))))))))))))
   refine gV Z_60 (Ht rfl) (Ht rfl) rfl (i:=0) rfl (aK rfl) rfl rfl (eX (fU rfl (fV (gX A_60 Z_60 rfl (i:=0) rfl rfl) ?_)))
   exact (iX (by rw [nW,if_neg h2,if_pos h3]))
  ·have h3 : ¬ j = p := by simpa using hb2
   refine ts (rm rfl (ro rfl (dJ A_3 Z_3 (Ht rfl)) (ro rfl (cB (Ht rfl) (Ht rfl)) (ra rfl (eX (dQ (Ht rfl) (fun hb3=>?_) (fun hb3=>?_)))))))
   ·have h4 : i = p := by simpa using hb3
    refine cK (fW (m:=6) (dp 4 rfl (dJ A_60 Z_60 (Ht rfl)) (dq 50 0 rfl (bH bR (Ht rfl)) (dp 6 rfl (dJ A_25 Z_25 (Ht rfl)) (dp 1 rfl (cX (Ht rfl)) (dP 52 2 53 3 rfl (dZ U_25 Z_60 (Ht rfl) (Ht rfl) rfl (sZ hj)) (dq 54 4 rfl (dJ A_60 Z_60 (Ht rfl)) (fK bC rfl (by kernel_rfl) (zF (aJ (aJ (aV (ro rfl (bD dC K_70 (kQ (x:=gm f 0 1) (y:=gm s p j / oB s f p) (L:=L) (M:=(7 * L + 11)) zo) (Ht rfl) ⟨(Ht rfl),trivial⟩) ?_)))))))))))))
    refine gV Z_60 (Ht rfl) (Ht rfl) rfl (i:=0) rfl (aK rfl) rfl rfl (eX (fU rfl (fV (gX A_60 Z_60 rfl (i:=0) rfl rfl) ?_)))
    exact (iX (by rw [nW,if_neg h2,if_neg h3,if_pos h4]))
   ·have h4 : ¬ i = p := by simpa using hb3
    refine cU (bI (cK (fW (m:=26) (dp 8 rfl (pF eT (Ht rfl) rfl) (dq 57 0 rfl (dJ A_26 Z_26 (Ht rfl)) (dp 0 rfl (cX (Ht rfl)) (dP 58 1 59 2 rfl (dZ U_26 Z_25 (Ht rfl) (Ht rfl) rfl (dY (dU (d:=[]) zo))) (dq 60 3 rfl (dJ A_25 Z_25 (Ht rfl)) (dp 1 rfl (cX (Ht rfl)) (dP 61 4 62 5 rfl (dZ U_25 Z_60 (Ht rfl) (Ht rfl) rfl (dY (dU (d:=Qi.zero) zo))) (dq 63 6 rfl (dJ A_60 Z_60 (Ht rfl)) (dq 64 7 rfl (bH bR (Ht rfl)) ?_))))))))))))
    refine dp 7 rfl (dJ A_25 Z_25 (Ht rfl)) (dp 0 rfl (cX (Ht rfl)) (dP 66 9 67 10 rfl (dZ U_25 Z_60 (Ht rfl) (Ht rfl) rfl (sZ hi)) (dq 68 11 rfl (dJ A_60 Z_60 (Ht rfl)) (dq 69 12 rfl (bH bR (Ht rfl)) (dp 9 rfl (dJ A_60 Z_60 (Ht rfl)) (dq 71 14 rfl (bH bR (Ht rfl)) (dp 8 rfl (pF eT (Ht rfl) rfl) (dq 73 16 rfl (dJ A_26 Z_26 (Ht rfl)) (dp 2 rfl (dJ A_3 Z_3 (Ht rfl)) (dP 74 17 75 18 rfl (dZ U_26 Z_25 (Ht rfl) (Ht rfl) rfl (dY (dU (d:=[]) zo))) ?_))))))))))
    refine dq 76 19 rfl (dJ A_25 Z_25 (Ht rfl)) (dp 1 rfl (cX (Ht rfl)) (dP 77 20 78 21 rfl (dZ U_25 Z_60 (Ht rfl) (Ht rfl) rfl (dY (dU (d:=Qi.zero) zo))) (dq 79 22 rfl (dJ A_60 Z_60 (Ht rfl)) (dP 72 15 80 23 rfl (bD dC K_70 (kQ (x:=gm f 1 1) (y:=gm s p j) (L:=L) (M:=L) zo) (Ht rfl) ⟨(Ht rfl),trivial⟩) (dP 70 13 81 24 rfl (bD dC K_70 (kQ (x:=gm s i p / oB s f p) (y:=gm f 1 1 * gm s p j) (L:=(7 * L + 11)) (M:=L + L + 1) zo) (Ht rfl) ⟨(Ht rfl),trivial⟩) ?_)))))
    refine fK bC rfl (by kernel_rfl) (zF (zF (zF (zF (zF (zF (aJ (aJ (aV (ro rfl (bD mA K_71 (wW (x:=gm s i j) (y:=gm s i p / oB s f p * (gm f 1 1 * gm s p j)) (L:=L) (M:=(7 * L + 11) + (L + L + 1) + 1) zo) (Ht rfl) ⟨(Ht rfl),trivial⟩) (gV Z_60 (Ht rfl) (Ht rfl) rfl (i:=0) rfl (aK rfl) rfl rfl ?_)))))))))))
    refine eX (fU rfl (fV (gX A_60 Z_60 rfl (i:=0) rfl rfl) ?_))
    exact (iX (by rw [nW,if_neg h2,if_neg h3,if_neg h4]))
theorem Mx {z fz:List Qi} {s f:List (List Qi)} {port:Int} {L:Nat} (hs:iF s z.length z.length) (hz1:1 ≤ z.length) (hz:z.length ≤ 1000) (hfs:cF s L) (hff:cF f L) (hfz:cH z L) (hfg:cH fz L) (hL:1 ≤ L) (hLb:L ≤ 60000) (h2:fz.length ≠ 2):bB Tryz.prog 36 [dT z s,aF .i64 port,dT fz f] (dM [dT (Rf z s fz f port) (Re z s fz f port),aF .i64 (zP z s fz f port)]):=by
 have hfx:yS z fz port 2 = 4:=a0O h2
 have he:zP z s fz f port = 4:=(Wp (by rw [hfx]; decide)).trans hfx
 have hne:zP z s fz f port ≠ 0:=by rw [he]; decide
 refine bB.intro Tryz.func36 rfl Tryz.ntmps36 rfl (fun cx=>(ts (rn rfl (gQ (Ht rfl)) fun B3=>(rn rfl (gQ (Ht rfl)) fun B5=>(rn rfl (eG (Ts:=[Is (.slice none 0 0),Is (.slice none 0 0)]) O_28 rfl (fun V=>aW zd (aW zd (aG)))) fun B6=>(ro rfl (cQ (cJ 0)) (eX (ts (ro rfl (eW A_28 Z_28 (Ht rfl) (i:=0) rfl rfl rfl) (rm rfl (ro rfl (eW A_28 Z_28 (Ht rfl) (i:=1) rfl rfl rfl) (ro rfl (cZ Tryz.call133 (Kc (x:=2) h2) ⟨(Ht rfl),(Ht rfl),(Ht rfl),(cJ 2),trivial⟩) ?_))))))))))))
 refine rm rfl (ro rfl (dK (Ht rfl) rfl) (ro rfl (dK (Ht rfl) rfl) (rn rfl (eG (Ts:=[Is (.bool false),Is (.slice none 0 0),Is (.bool false),Is (.slice none 0 0),Is (.slice none 0 0),Is (.bool false),Is (.slice none 0 0),Is (.bool false),Is (.slice none 0 0),Is (.slice none 0 0),Is (.bool false),Is (.slice none 0 0),Is (.bool false),Is (.slice none 0 0),Is (.slice none 0 0),Is (.bool false),Is (.slice none 0 0),Is (.bool false),Is (.slice none 0 0),Is (.slice none 0 0)]) O_191 rfl (fun V=>aW zd (aW zd (aW zd (aW zd (aW zd (aW zd (aW zd (aW zd (aW zd (aW zd (aW zd (aW zd (aW zd (aW zd (aW zd (aW zd (aW zd (aW zd (aW zd (aW zd (aG)))))))))))))))))))))) fun B8=>?_)))
 refine gV Z_191 (Ht rfl) (Ht rfl) rfl (i:=3) rfl (aK rfl) rfl rfl (ra rfl (eX (cK (ts (rm rfl (ro rfl (gY (Ht rfl) cV) (eX (mI (Ht rfl) (by rfl) ?_))))))))
 refine ts (ro rfl (aE.imp (mJ ) mM) (rm rfl (gV Z_28 (Ht rfl) (Ht rfl) rfl (i:=2) rfl (aK rfl) rfl rfl (ra rfl (eX (bN rfl (fV (gX A_28 Z_28 rfl (i:=2) rfl rfl) ?_) (fV (eY rfl) ?_)))))))
 ·exact (fun v V h=>by rw [Rf,Re,kX,kX,if_neg hne,if_neg hne]; exact h)
 ·exact (aT he.symm)
theorem Mz {z fz:List Qi} {s f:List (List Qi)} {port:Int} {L:Nat} (hs:iF s z.length z.length) (hz1:1 ≤ z.length) (hz:z.length ≤ 1000) (hfs:cF s L) (hff:cF f L) (hfz:cH z L) (hfg:cH fz L) (hL:1 ≤ L) (hLb:L ≤ 60000) (h2:fz.length = 2) (hf:iF f 2 2):bB Tryz.prog 36 [dT z s,aF .i64 port,dT fz f] (dM [dT (Rf z s fz f port) (Re z s fz f port),aF .i64 (zP z s fz f port)]):=by
 have hsl:=hs.1
 haveI h1f:=qU
 refine bB.intro Tryz.func36 rfl Tryz.ntmps36 rfl (fun cx=>(ts (rn rfl (gQ (Ht rfl)) fun B3=>(rn rfl (gQ (Ht rfl)) fun B5=>(rn rfl (eG (Ts:=[Is (.slice none 0 0),Is (.slice none 0 0)]) O_28 rfl (fun V=>aW zd (aW zd (aG)))) fun B6=>(ro rfl (cQ (cJ 0)) (eX (ts (ro rfl (eW A_28 Z_28 (Ht rfl) (i:=0) rfl rfl rfl) (rm rfl (ro rfl (eW A_28 Z_28 (Ht rfl) (i:=1) rfl rfl rfl) (ro rfl (cZ Tryz.call133 (Kd (x:=2) (L:=L) h2 hf (by decide) hfz hfg hL zo hz) ⟨(Ht rfl),(Ht rfl),(Ht rfl),(cJ 2),trivial⟩) ?_))))))))))))
 refine rm rfl (ro rfl (dK (Ht rfl) rfl) (ro rfl (dK (Ht rfl) rfl) (rn rfl (eG (Ts:=[Is (.bool false),Is (.slice none 0 0),Is (.bool false),Is (.slice none 0 0),Is (.slice none 0 0),Is (.bool false),Is (.slice none 0 0),Is (.bool false),Is (.slice none 0 0),Is (.slice none 0 0),Is (.bool false),Is (.slice none 0 0),Is (.bool false),Is (.slice none 0 0),Is (.slice none 0 0),Is (.bool false),Is (.slice none 0 0),Is (.bool false),Is (.slice none 0 0),Is (.slice none 0 0)]) O_191 rfl (fun V=>aW zd (aW zd (aW zd (aW zd (aW zd (aW zd (aW zd (aW zd (aW zd (aW zd (aW zd (aW zd (aW zd (aW zd (aW zd (aW zd (aW zd (aW zd (aW zd (aW zd (aG)))))))))))))))))))))) fun B8=>?_)))
 refine gV Z_191 (Ht rfl) (Ht rfl) rfl (i:=3) rfl (aK rfl) rfl rfl (ra rfl (eX (cK (ts (rm rfl (ro rfl (gY (Ht rfl) cV) (eX (dQ (Ht rfl) (fun hc=>?_) (fun hc=>?_)))))))))
 ·have hfx : yS z fz port 2 ≠ 0 := by simpa using hc
  have he:zP z s fz f port = yS z fz port 2:=Wp hfx
  have hne:zP z s fz f port ≠ 0:=by rw [he]; exact hfx
  refine ts (ro rfl (aE.imp (mJ ) mM) (rm rfl (gV Z_28 (Ht rfl) (Ht rfl) rfl (i:=2) rfl (aK rfl) rfl rfl (ra rfl (eX (bN rfl (fV (gX A_28 Z_28 rfl (i:=2) rfl rfl) ?_) (fV (eY rfl) ?_)))))))
  ·exact (fun v V h=>by rw [Rf,Re,kX,kX,if_neg hne,if_neg hne]; exact h)
  ·exact (aT he.symm)
 ·have hfx : yS z fz port 2 = 0 := by simpa using hc
  obtain ⟨_,hb2,hzz⟩:=a0w hfx
  obtain ⟨p,hp⟩:∃ p,p = (port - 1).toNat:=⟨_,rfl⟩
  have hpe:port - 1 = (p:Int):=by omega
  have hpl:p < z.length:=by omega
  have hspr:=hs.row hpl
  haveI:=hfs.get hL p p; haveI:=hff.get hL 1 1; haveI:=hff.get hL 0 0; haveI:=hff.get hL 0 1; haveI:=hff.get hL 1 0
  refine cU (cK (Y.D_start (m:=23) [] (bY (Ei:=[(8,_)]) rfl rfl (bQ (bJ rfl rfl) bX) rfl rfl (dX rfl (lC U_191 Z_190 (Ht rfl) (cJ 0) rfl (by decide) rfl)) (bY (Ei:=[(28,_)]) rfl rfl (bQ (bZ 0 rfl rfl) bX) rfl rfl (dX rfl (lC U_190 Z_60 (Ht rfl) (cJ 0) rfl (by decide) rfl)) (bY (Ei:=[(29,_)]) rfl rfl (bQ (bZ 1 rfl rfl) bX) rfl rfl (dX rfl (eW A_60 Z_60 (Ht rfl) (i:=3) rfl rfl rfl)) ?_)))))
  refine bY (Ei:=[(8,_)]) rfl rfl (bQ (bJ rfl rfl) bX) rfl rfl (dX rfl (lC U_191 Z_190 (Ht rfl) (cJ 0) rfl (by decide) rfl)) (bY (Ei:=[(31,_)]) rfl rfl (bQ (bZ 3 rfl rfl) bX) rfl rfl (dX rfl (lC U_190 Z_60 (Ht rfl) (cJ 1) rfl (by decide) rfl)) (bY (Ei:=[(32,_)]) rfl rfl (bQ (bZ 4 rfl rfl) bX) rfl rfl (dX rfl (eW A_60 Z_60 (Ht rfl) (i:=3) rfl rfl rfl)) (bY (Ei:=[(8,_)]) rfl rfl (bQ (bJ rfl rfl) bX) rfl rfl (dX rfl (lC U_191 Z_190 (Ht rfl) (cJ 1) rfl (by decide) rfl)) ?_)))
  refine bY (Ei:=[(34,_)]) rfl rfl (bQ (bZ 6 rfl rfl) bX) rfl rfl (dX rfl (lC U_190 Z_60 (Ht rfl) (cJ 0) rfl (by decide) rfl)) (bY (Ei:=[(35,_)]) rfl rfl (bQ (bZ 7 rfl rfl) bX) rfl rfl (dX rfl (eW A_60 Z_60 (Ht rfl) (i:=3) rfl rfl rfl)) (bY (Ei:=[(8,_)]) rfl rfl (bQ (bJ rfl rfl) bX) rfl rfl (dX rfl (lC U_191 Z_190 (Ht rfl) (cJ 1) rfl (by decide) rfl)) (bY (Ei:=[(37,_)]) rfl rfl (bQ (bZ 9 rfl rfl) bX) rfl rfl (dX rfl (lC U_190 Z_60 (Ht rfl) (cJ 1) rfl (by decide) rfl)) ?_)))
  refine bY (Ei:=[(38,_)]) rfl rfl (bQ (bZ 10 rfl rfl) bX) rfl rfl (dX rfl (eW A_60 Z_60 (Ht rfl) (i:=3) rfl rfl rfl)) (bY (Ei:=[(1,_)]) rfl rfl (bQ (bJ rfl rfl) bX) rfl rfl (dX rfl (cX (Ht rfl))) (bY (Ei:=[(40,_)]) rfl rfl (bQ (bZ 12 rfl rfl) bX) rfl rfl (dX rfl (gI (Ht rfl) cV (r:=((p:Nat):Int)) ((tB (z:=port - 1) zo).trans zo))) ?_))
  refine Y.D_newp (Ei:=[]) (fun bb=>box bb 60 (nb (gm f 0 0))) 19 rfl rfl rfl bX rfl rfl (by kernel_rfl) (eG (Ts:=[Is (.bool false),Is (.slice none 0 0),Is (.bool false),Is (.slice none 0 0),Is (.slice none 0 0)]) O_60 rfl (fun V=>aW zd (aW zd (aW zd (aW zd (aW zd (aG))))))) (Y.D_newp (Ei:=[]) (fun bb=>box bb 60 (nb (gm f 0 1))) 20 rfl rfl rfl bX rfl rfl (by kernel_rfl) (eG (Ts:=[Is (.bool false),Is (.slice none 0 0),Is (.bool false),Is (.slice none 0 0),Is (.slice none 0 0)]) O_60 rfl (fun V=>aW zd (aW zd (aW zd (aW zd (aW zd (aG))))))) ?_)
  refine Y.D_newp (Ei:=[]) (fun bb=>box bb 60 (nb (gm f 1 0))) 21 rfl rfl rfl bX rfl rfl (by kernel_rfl) (eG (Ts:=[Is (.bool false),Is (.slice none 0 0),Is (.bool false),Is (.slice none 0 0),Is (.slice none 0 0)]) O_60 rfl (fun V=>aW zd (aW zd (aW zd (aW zd (aW zd (aG))))))) (Y.D_newp (Ei:=[]) (fun bb=>box bb 60 (nb (gm f 1 1))) 22 rfl rfl rfl bX rfl rfl (by kernel_rfl) (eG (Ts:=[Is (.bool false),Is (.slice none 0 0),Is (.bool false),Is (.slice none 0 0),Is (.slice none 0 0)]) O_60 rfl (fun V=>aW zd (aW zd (aW zd (aW zd (aW zd (aG))))))) ?_)
  refine Y.D_new (Ei:=[]) rfl rfl rfl bX rfl rfl (eG (Ts:=[Is (.int .i64 0)]) O_3 rfl (fun V=>aW zd (aG))) (Y.D_putN (Ei:=[(30,_)]) 14 rfl rfl rfl rfl rfl rfl (bQ (bZ 2 rfl rfl) bX) (fun bb=>mH Z_60 (Ht rfl) (Ht rfl) rfl (i:=0) rfl (aK rfl) rfl rfl) (Y.D_putN (Ei:=[(33,_)]) 15 rfl rfl rfl rfl rfl rfl (bQ (bZ 5 rfl rfl) bX) (fun bb=>mH Z_60 (Ht rfl) (Ht rfl) rfl (i:=0) rfl (aK rfl) rfl rfl) (Y.D_putN (Ei:=[(36,_)]) 16 rfl rfl rfl rfl rfl rfl (bQ (bZ 8 rfl rfl) bX) (fun bb=>mH Z_60 (Ht rfl) (Ht rfl) rfl (i:=0) rfl (aK rfl) rfl rfl) ?_)))
  refine Y.D_putN (Ei:=[(39,_)]) 17 rfl rfl rfl rfl rfl rfl (bQ (bZ 11 rfl rfl) bX) (fun bb=>mH Z_60 (Ht rfl) (Ht rfl) rfl (i:=0) rfl (aK rfl) rfl rfl) (Y.D_done bC rfl (by kernel_rfl) rfl (by simp [Y.okP]) rfl rfl (bU (bU (bU (bU (bU (bU (bU (bU (bU (bU (bU (bU (bU (bU (Y.F_newp (fun B10=>Y.F_newp (fun B11=>Y.F_newp (fun B12=>Y.F_newp (fun B13=>Y.F_new (fun B14=>Y.F_putN (Y.F_putN (Y.F_putN (Y.F_putN (Y.F_nil ?_)))))))))))))))))))))))))
  refine kE Z_3 (Ht rfl) (Ht rfl) (i:=8) rfl (aK rfl) rfl (eX (cK (gK (i:=4) (tt:=10) rfl rfl kZ (gK (i:=5) (tt:=11) rfl rfl kZ (gK (i:=6) (tt:=12) rfl rfl kZ (gK (i:=7) (tt:=13) rfl rfl kZ (gK (i:=8) (tt:=14) rfl rfl kG (gK (i:=0) (tt:=3) rfl rfl kZ (bO [1,2] rfl (by decide) ?_)))))))))
  have hDf:=Be (p:=p) hfs hff hL
  by_cases hD:oB s f p = Qi.zero
  ·refine Y.D_start (m := 25) [] (bY (Ei := [(3, _)]) rfl rfl (bQ (bJ rfl rfl) bX) rfl rfl (dX rfl (dJ A_28 Z_28 (Ht rfl))) (bY (Ei := [(14, _)]) rfl rfl (bQ (bJ rfl rfl) bX) rfl rfl (dX rfl (dJ A_3 Z_3 (Ht rfl))) (bY (Ei := []) rfl rfl bX rfl rfl (dX rfl (cZ Tryz.call118 (Bb (n := 1) (by decide) (by decide)) ⟨(cJ 1), trivial⟩)) (bY (Ei := [(45, _)]) rfl rfl (bQ (bZ 2 rfl rfl) bX) rfl rfl (dX rfl (bH bR (Ht rfl))) ?_))))
   refine bY (Ei:=[(13,_)]) rfl rfl (bQ (bJ rfl rfl) bX) rfl rfl (dX rfl (dJ A_60 Z_60 (Ht rfl))) (bY (Ei:=[(47,_)]) rfl rfl (bQ (bZ 4 rfl rfl) bX) rfl rfl (dX rfl (bH bR (Ht rfl))) (bY (Ei:=[(3,_)]) rfl rfl (bQ (bJ rfl rfl) bX) rfl rfl (dX rfl (pF eT (Ht rfl) rfl)) (bY (Ei:=[(49,_)]) rfl rfl (bQ (bZ 6 rfl rfl) bX) rfl rfl (dX rfl (dJ A_26 Z_26 (Ht rfl))) (bY (Ei:=[(14,_)]) rfl rfl (bQ (bJ rfl rfl) bX) rfl rfl (dX rfl (dJ A_3 Z_3 (Ht rfl))) ?_))))
   refine bY (Ei:=[(50,_),(51,_)]) rfl rfl (bQ (bZ 7 rfl rfl) (bQ (bZ 8 rfl rfl) bX)) rfl rfl (dX rfl (dZ U_26 Z_25 (Ht rfl) (Ht rfl) rfl (dY (dU (d:=[]) zo)))) (bY (Ei:=[(52,_)]) rfl rfl (bQ (bZ 9 rfl rfl) bX) rfl rfl (dX rfl (dJ A_25 Z_25 (Ht rfl))) (bY (Ei:=[(14,_)]) rfl rfl (bQ (bJ rfl rfl) bX) rfl rfl (dX rfl (dJ A_3 Z_3 (Ht rfl))) (bY (Ei:=[(53,_),(54,_)]) rfl rfl (bQ (bZ 10 rfl rfl) (bQ (bZ 11 rfl rfl) bX)) rfl rfl (dX rfl (dZ U_25 Z_60 (Ht rfl) (Ht rfl) rfl (dY (dU (d:=Qi.zero) zo)))) ?_)))
   refine bY (Ei:=[(55,_)]) rfl rfl (bQ (bZ 12 rfl rfl) bX) rfl rfl (dX rfl (dJ A_60 Z_60 (Ht rfl))) (bY (Ei:=[(48,_),(56,_)]) rfl rfl (bQ (bZ 5 rfl rfl) (bQ (bZ 13 rfl rfl) bX)) rfl rfl (dX rfl (bD dC K_70 (kQ (x:=gm f 1 1) (y:=gm s p p) (L:=L) (M:=L) zo) (Ht rfl) ⟨(Ht rfl),trivial⟩)) (bY (Ei:=[(46,_),(57,_)]) rfl rfl (bQ (bZ 3 rfl rfl) (bQ (bZ 14 rfl rfl) bX)) rfl rfl (dX rfl (bD kS K_69 (wY (x:=Qi.ofInt 1) (y:=gm f 1 1 * gm s p p) (L:=1) (M:=L + L + 1) zo) (Ht rfl) ⟨(Ht rfl),trivial⟩)) ?_))
   refine bY (Ei:=[(43,_),(44,_),(58,_)]) rfl rfl (bQ (bZ 0 rfl rfl) (bQ (bZ 1 rfl rfl) (bQ (bZ 15 rfl rfl) bX))) rfl rfl (dX rfl (cZ Tryz.call134 (Kh (z:=z) (s:=s) (p:=p) (e:=oB s f p) (L:=L) (M:=2 * L + 3) hs hpl hz hfs hDf hL zo hD) ⟨(Ht rfl),(Ht rfl),(Ht rfl),trivial⟩)) (bY (Ei:=[(59,_)]) rfl rfl (bQ (bZ 16 rfl rfl) bX) rfl rfl (dX rfl (cX (Ht rfl))) (bY (Ei:=[(42,_)]) rfl rfl (bQ (bZ 17 rfl rfl) bX) rfl rfl (dX rfl (dK (Ht rfl) rfl)) ?_))
   refine bY (Ei:=[(42,_)]) rfl rfl (bQ (bZ 17 rfl rfl) bX) rfl rfl (dX rfl (dK (Ht rfl) rfl)) (bY (Ei:=[(42,_)]) rfl rfl (bQ (bZ 17 rfl rfl) bX) rfl rfl (dX rfl (dK (Ht rfl) rfl)) (Y.D_newp (Ei:=[]) (fun bb=>box bb 25 [bL []]) 23 rfl rfl rfl bX rfl rfl (by kernel_rfl) (eG (Ts:=[Is (.slice none 0 0)]) O_25 rfl (fun V=>aW zd (aG))) (Y.D_newp (Ei:=[]) (fun bb=>box bb 25 [bL []]) 24 rfl rfl rfl bX rfl rfl (by kernel_rfl) (eG (Ts:=[Is (.slice none 0 0)]) O_25 rfl (fun V=>aW zd (aG))) ?_)))
   refine Y.D_putN (Ei:=[(60,_)]) 21 rfl rfl rfl rfl rfl rfl (bQ (bZ 18 rfl rfl) bX) (fun bb=>Hk Z_25 (Ht rfl) (Ht rfl) (i:=0) rfl (aK rfl) rfl rfl) (Y.D_putN (Ei:=[(61,_)]) 22 rfl rfl rfl rfl rfl rfl (bQ (bZ 19 rfl rfl) bX) (fun bb=>Hk Z_25 (Ht rfl) (Ht rfl) (i:=0) rfl (aK rfl) rfl rfl) (Y.D_done bC rfl (by kernel_rfl) rfl (by simp [Y.okP]) rfl rfl (bU (bU (bU (bU (bU (bU (bU (bU (bU (bU (bU (bU (bU (bU (bU (bU (bU (bU (bU (bU (bU (Y.F_newp (fun B15=>Y.F_newp (fun B16=>Y.F_putN (Y.F_putN (Y.F_nil ?_))))))))))))))))))))))))))))
   refine ra rfl (eX (cK (cK ?_)))
   have he:zP z s fz f port = 6:=Wq hfx (by rw [← hp]; exact hD)
   have hne:zP z s fz f port ≠ 0:=by rw [he]; decide
   refine cY (rm rfl (ro rfl (gY (Ht rfl) cV) (eX (mI (Ht rfl) (by rfl) ?_))))
   refine ts (ro rfl (aE.imp (mJ ) mM) (rm rfl (gV Z_28 (Ht rfl) (Ht rfl) rfl (i:=1) rfl (aK rfl) rfl rfl (ra rfl (eX (bN rfl (fV (gX A_28 Z_28 rfl (i:=1) rfl rfl) ?_) (fV (eY rfl) ?_)))))))
   ·exact (fun v V h=>by rw [Rf,Re,kX,kX,if_neg hne,if_neg hne]; exact h)
   ·exact (aT he.symm)
  ·refine Y.D_start (m := 25) [] (bY (Ei := [(3, _)]) rfl rfl (bQ (bJ rfl rfl) bX) rfl rfl (dX rfl (dJ A_28 Z_28 (Ht rfl))) (bY (Ei := [(14, _)]) rfl rfl (bQ (bJ rfl rfl) bX) rfl rfl (dX rfl (dJ A_3 Z_3 (Ht rfl))) (bY (Ei := []) rfl rfl bX rfl rfl (dX rfl (cZ Tryz.call118 (Bb (n := 1) (by decide) (by decide)) ⟨(cJ 1), trivial⟩)) (bY (Ei := [(45, _)]) rfl rfl (bQ (bZ 2 rfl rfl) bX) rfl rfl (dX rfl (bH bR (Ht rfl))) ?_))))
   refine bY (Ei:=[(13,_)]) rfl rfl (bQ (bJ rfl rfl) bX) rfl rfl (dX rfl (dJ A_60 Z_60 (Ht rfl))) (bY (Ei:=[(47,_)]) rfl rfl (bQ (bZ 4 rfl rfl) bX) rfl rfl (dX rfl (bH bR (Ht rfl))) (bY (Ei:=[(3,_)]) rfl rfl (bQ (bJ rfl rfl) bX) rfl rfl (dX rfl (pF eT (Ht rfl) rfl)) (bY (Ei:=[(49,_)]) rfl rfl (bQ (bZ 6 rfl rfl) bX) rfl rfl (dX rfl (dJ A_26 Z_26 (Ht rfl))) (bY (Ei:=[(14,_)]) rfl rfl (bQ (bJ rfl rfl) bX) rfl rfl (dX rfl (dJ A_3 Z_3 (Ht rfl))) ?_))))
   refine bY (Ei:=[(50,_),(51,_)]) rfl rfl (bQ (bZ 7 rfl rfl) (bQ (bZ 8 rfl rfl) bX)) rfl rfl (dX rfl (dZ U_26 Z_25 (Ht rfl) (Ht rfl) rfl (dY (dU (d:=[]) zo)))) (bY (Ei:=[(52,_)]) rfl rfl (bQ (bZ 9 rfl rfl) bX) rfl rfl (dX rfl (dJ A_25 Z_25 (Ht rfl))) (bY (Ei:=[(14,_)]) rfl rfl (bQ (bJ rfl rfl) bX) rfl rfl (dX rfl (dJ A_3 Z_3 (Ht rfl))) (bY (Ei:=[(53,_),(54,_)]) rfl rfl (bQ (bZ 10 rfl rfl) (bQ (bZ 11 rfl rfl) bX)) rfl rfl (dX rfl (dZ U_25 Z_60 (Ht rfl) (Ht rfl) rfl (dY (dU (d:=Qi.zero) zo)))) ?_)))
   refine bY (Ei:=[(55,_)]) rfl rfl (bQ (bZ 12 rfl rfl) bX) rfl rfl (dX rfl (dJ A_60 Z_60 (Ht rfl))) (bY (Ei:=[(48,_),(56,_)]) rfl rfl (bQ (bZ 5 rfl rfl) (bQ (bZ 13 rfl rfl) bX)) rfl rfl (dX rfl (bD dC K_70 (kQ (x:=gm f 1 1) (y:=gm s p p) (L:=L) (M:=L) zo) (Ht rfl) ⟨(Ht rfl),trivial⟩)) (bY (Ei:=[(46,_),(57,_)]) rfl rfl (bQ (bZ 3 rfl rfl) (bQ (bZ 14 rfl rfl) bX)) rfl rfl (dX rfl (bD kS K_69 (wY (x:=Qi.ofInt 1) (y:=gm f 1 1 * gm s p p) (L:=1) (M:=L + L + 1) zo) (Ht rfl) ⟨(Ht rfl),trivial⟩)) ?_))
   refine bY (Ei:=[(43,_),(44,_),(58,_)]) rfl rfl (bQ (bZ 0 rfl rfl) (bQ (bZ 1 rfl rfl) (bQ (bZ 15 rfl rfl) bX))) rfl rfl (dX rfl (cZ Tryz.call134 (Ki (z:=z) (s:=s) (p:=p) (e:=oB s f p) (L:=L) (M:=2 * L + 3) hs hpl hz hfs hDf hL zo hD) ⟨(Ht rfl),(Ht rfl),(Ht rfl),trivial⟩)) (bY (Ei:=[(59,_)]) rfl rfl (bQ (bZ 16 rfl rfl) bX) rfl rfl (dX rfl (cX (Ht rfl))) (bY (Ei:=[(42,_)]) rfl rfl (bQ (bZ 17 rfl rfl) bX) rfl rfl (dX rfl (dK (Ht rfl) rfl)) ?_))
   refine bY (Ei:=[(42,_)]) rfl rfl (bQ (bZ 17 rfl rfl) bX) rfl rfl (dX rfl (dK (Ht rfl) rfl)) (bY (Ei:=[(42,_)]) rfl rfl (bQ (bZ 17 rfl rfl) bX) rfl rfl (dX rfl (dK (Ht rfl) rfl)) (Y.D_newp (Ei:=[]) (fun bb=>box bb 25 [bL (tab z.length fun i=>gm s i p / oB s f p)]) 23 rfl rfl rfl bX rfl rfl (by kernel_rfl) (eG (Ts:=[Is (.slice none 0 0)]) O_25 rfl (fun V=>aW zd (aG))) (Y.D_newp (Ei:=[]) (fun bb=>box bb 25 [bL (tab z.length fun j=>gm s p j / oB s f p)]) 24 rfl rfl rfl bX rfl rfl (by kernel_rfl) (eG (Ts:=[Is (.slice none 0 0)]) O_25 rfl (fun V=>aW zd (aG))) ?_)))
   refine Y.D_putN (Ei:=[(60,_)]) 21 rfl rfl rfl rfl rfl rfl (bQ (bZ 18 rfl rfl) bX) (fun bb=>Hk Z_25 (Ht rfl) (Ht rfl) (i:=0) rfl (aK rfl) rfl rfl) (Y.D_putN (Ei:=[(61,_)]) 22 rfl rfl rfl rfl rfl rfl (bQ (bZ 19 rfl rfl) bX) (fun bb=>Hk Z_25 (Ht rfl) (Ht rfl) (i:=0) rfl (aK rfl) rfl rfl) (Y.D_done bC rfl (by kernel_rfl) rfl (by simp [Y.okP]) rfl rfl (bU (bU (bU (bU (bU (bU (bU (bU (bU (bU (bU (bU (bU (bU (bU (bU (bU (bU (bU (bU (bU (Y.F_newp (fun B15=>Y.F_newp (fun B16=>Y.F_putN (Y.F_putN (Y.F_nil ?_))))))))))))))))))))))))))))
   refine ra rfl (eX (cK (cK ?_)))
   have he:zP z s fz f port = 0:=Oa hfx (by rw [← hp]; exact hD)
   refine gK (i:=2) (tt:=15) rfl rfl kG (gK (i:=3) (tt:=16) rfl rfl kG (cY (rm rfl (ro rfl (gY (Ht rfl) cV) (eX (fR (Ht rfl) (by rfl) ?_))))))
   refine cU (cK (fW (m:=7) (dp 3 rfl (dJ A_28 Z_28 (Ht rfl)) (dp 14 rfl (dJ A_3 Z_3 (Ht rfl)) (dp 5 rfl (eJ iG (Ht rfl) rfl) (dq 69 2 rfl (fQ A_25 Z_25 (Ht rfl) (i:=0) rfl rfl) (dq 70 3 rfl (dZ U_25 Z_60 (Ht rfl) (cJ 0) rfl (dY (dU (d:=Qi.zero) zo))) (dq 71 4 rfl (dJ A_60 Z_60 (Ht rfl)) (C.D_step (Ei:=[(14,_),(10,_),(11,_),(12,_),(16,_),(15,_),(3,_),(13,_)]) rfl rfl (bV (bK rfl rfl) (bV (bK rfl rfl) (bV (bK rfl rfl) (bV (bK rfl rfl) (bV (bK rfl rfl) (bV (bK rfl rfl) (bV (bK rfl rfl) (bV (bK rfl rfl) bW)))))))) (dX rfl (qY (γ:=Fin z.length × Fin z.length) (Ts:=fun x=>[NT .i64 x.1.1,NT .i64 x.2.1]) (U:=fun x=>aD (nW s f p x.1.1 x.2.1)) Tryz.call136 (fun x=>My (z:=z) (s:=s) (f:=f) (p:=p) (L:=L) hs hpl x.1.2 x.2.2 hz hfs hff hL hLb hD) ⟨(Ht rfl),(Ht rfl),(Ht rfl),(Ht rfl),(Ht rfl),(Ht rfl),(Ht rfl),(Ht rfl),trivial⟩)) ?_)))))))))
   refine fK bC rfl (by kernel_rfl) (zF (aJ (aJ (aJ (aV (ro rfl (cZ Tryz.call135 (Ye (z:=z) (s:=s) (p:=p) (x:=gv fz 0) (F:=fun i j=>nW s f p i j) hs hpl hz) ⟨(Ht rfl),(Ht rfl),(Ht rfl),(Ht rfl),trivial⟩) (gV Z_28 (Ht rfl) (Ht rfl) rfl (i:=1) rfl (aK rfl) rfl rfl (ro rfl (cQ (cJ 0)) (eX (bN rfl (fV (gX A_28 Z_28 rfl (i:=1) rfl rfl) ?_) (fV (eY rfl) ?_)))))))))))
   ·exact (fun v V h=>by rw [Rf,Re,kX,kX,if_pos he,if_pos he,← hp]; exact h)
   ·exact (aT he.symm)
theorem Sb {z fz:List Qi} {s f:List (List Qi)} {port:Int} {L:Nat} (hs:iF s z.length z.length) (hz1:1 ≤ z.length) (hz:z.length ≤ 1000) (hfs:cF s L) (hff:cF f L) (hfz:cH z L) (hfg:cH fz L) (hL:1 ≤ L) (hLb:L ≤ 60000) (hf:fz.length = 2 → iF f 2 2):bB Tryz.prog 36 [dT z s,aF .i64 port,dT fz f] (dM [dT (Rf z s fz f port) (Re z s fz f port),aF .i64 (zP z s fz f port)]):=by
 by_cases h2:fz.length = 2
 ·exact Mz hs hz1 hz hfs hff hfz hfg hL hLb h2 (hf h2)
 ·exact Mx hs hz1 hz hfs hff hfz hfg hL hLb h2
end
section
open Go Go.RowKit
theorem Vq (z:List Qi) (s:List (List Qi)) (port:Int) (g:Qi):iF (nH z s port g) (nI z s port g).length (nI z s port g).length ∧ (nI z s port g).length ≤ z.length:=by
 by_cases h:oA z s port g = 0
 ·rw [nI,nH,kX,kX,h,if_pos rfl,if_pos rfl,xX,aO]; exact ⟨iF.tab,Nat.sub_le _ _⟩
 ·rw [nI,nH,kX,kX,if_neg h,if_neg h]; exact ⟨⟨rfl,fun r hr=>by cases hr⟩,Nat.zero_le _⟩
theorem Qx {z:List Qi} {s:List (List Qi)} {port:Int} {g:Qi} {L:Nat} (hs:cF s L) (hg:aM g L) (hL:1 ≤ L):cF (nH z s port g) (10 * L + 14):=by
 by_cases h:oA z s port g = 0
 ·refine Pn fun r hr => ?_
  obtain ⟨i,_,rfl⟩:=hJ.1 hr
  refine cH.tab fun j _=>?_
  have hd : Qi.ofInt 1 - gm s (port - 1).toNat (port - 1).toNat * g ≠ Qi.zero := by
   unfold oA at h
   split at h
   ·omega
   ·split at h
    ·omega
    ·split at h
     ·omega
     ·assumption
  haveI f0:=Fe hs hg hL hd
  haveI f1:aM (gm s (iE (port - 1).toNat i) (iE (port - 1).toNat j)) L:=hs.get hL _ _
  haveI f2:aM (gm s (iE (port - 1).toNat i) (port - 1).toNat) L:=hs.get hL _ _
  haveI f3:aM (gm s (port - 1).toNat (iE (port - 1).toNat j)) L:=hs.get hL _ _
  have f4:aM (vJ s (port - 1).toNat (iS s (port - 1).toNat g) i j) (L + (L + (7 * L + 11 + L + 1) + 1) + 1):=inferInstanceAs (aM (_ + _ * (_ * _)) _)
  exact f4.le zo
 ·rw [nH,kX,if_neg h]; exact cF.nil
end
section
open Go Go.RowKit
theorem Nj {l:List Qi} {L:Nat} (hf:cH l L) (hL:1 ≤ L) (hK:L ≤ 8796093022208) (hl:l.length ≤ 1000):bB Tryz.prog 66 [bL l,bL l] (aC true):=by
 refine bB.intro Tryz.func66 rfl Tryz.ntmps66 rfl (fun cx=>(ts (ro rfl (cQ cV) (eX (cK (ts (rm rfl (ro rfl (dG U_25 (Ht rfl) aA) (rm rfl (ro rfl (dG U_25 (Ht rfl) aA) (ro rfl (gD (Ht rfl) (Ht rfl)) (eX (fR (Ht rfl) (by simp) ?_)))))))))))))
 refine cU (cK (ts (rm rfl (ro rfl (dG U_25 (Ht rfl) aA) (ro rfl (cX (cJ 0)) (eX (eK ?_)))))))
 refine dB (fun (i : Nat) => i ≤ l.length) (fun (i : Nat) => l.length - i) (fun (i : Nat) => [(0, bL l), (1, bL l), (12, NT .i64 l.length), (13, NT .i64 i)]) (fun (i : Nat) => []) 0 (Nat.zero_le _)
  (aQ rfl (aQ rfl (aZ rfl (kT (by simp)) (zS rfl)))) aY (fun i hi=>?_)
 refine ts (ro rfl (gW (Ht rfl) (Ht rfl)) (eX (cK (dQ (Ht rfl) (fun hc=>?_) (fun hc=>?_)))))
 ·have hin : i < l.length := by simp only [decide_eq_true_eq] at hc; omega
  haveI g1:aM (gv l i) L:=hf.get hL i
  refine cU (cK (eK (ts (rm rfl (ra rfl (eX (cK (fW (m:=8) (dp 0 rfl (cX (Ht rfl)) (dp 5 rfl (cX (Ht rfl)) (dP 16 0 17 1 rfl (dZ U_25 Z_60 (Ht rfl) (Ht rfl) rfl (dY (dU (d:=Qi.zero) zo))) (dq 18 2 rfl (dJ A_60 Z_60 (Ht rfl)) (dp 1 rfl (cX (Ht rfl)) (dp 5 rfl (cX (Ht rfl)) (dP 20 4 21 5 rfl (dZ U_25 Z_60 (Ht rfl) (Ht rfl) rfl (dY (dU (d:=Qi.zero) zo))) (dq 22 6 rfl (dJ A_60 Z_60 (Ht rfl)) (fK bC rfl (by kernel_rfl) (zF (zF (aV ?_))))))))))))))))))))
  refine ro rfl (cZ Tryz.call100 (Nf (x:=gv l i) (y:=gv l i) (L:=L) (M:=L) zo zo) ⟨(Ht rfl),(Ht rfl),trivial⟩) (ro rfl (fO (Ht rfl)) (eX (fR (Ht rfl) (by simp) ?_)))
  refine cU (bI (cY (ro rfl (dV (Ht rfl) (cJ 1) z6) (rm rfl (eX (gZ (i + 1) hin zo (zS rfl) aY))))))
 ·refine gU rfl (ts (ro rfl (cQ cV) (eX ?_)))
  exact fU rfl (eY rfl)
end
section
open Go Go.RowKit
theorem uA (n:Nat) (a:Qi) (f:Nat → Qi):fP n (fun k=>a * f k) = a * fP n f:=by
 rw [show a * fP n f = fP n f * a by grind,← Qq]; exact gL fun _ _=>by grind
section
variable {z:List Qi} {S c:List (List Qi)} {js:List (Int × Int)} {N:Nat}
end
end
section
open Go Go.RowKit
theorem Cp (l a : List Qi) : ∀ k, Lz l a k = fP k fun j => gv l j * gv a j
 | 0=>by show Qi.ofInt 0 = (0:Qi); decide +kernel
 | k + 1=>by rw [Lz,Cp l a k]; rfl
theorem vN {s:List (List Qi)} {a:List Qi} {n i:Nat} (hi:i < n):gv (jZ s a n) i = fP n fun j=>gm s i j * gv a j:=by
 rw [jZ,rU hi,Cp]
theorem rB {p : Nat} (f : Nat → Qi) : ∀ n, p < n → fP n f = (fP (n - 1) fun b => f (iE p b)) + f p
 | 0,h=>by omega
 | n + 1, h => by
  by_cases c:p = n
  ·subst c
   rw [tZ,Nat.add_sub_cancel]
   congr 1
   exact gL fun b hb=>by unfold iE; rw [if_pos hb]
  ·obtain ⟨m, rfl⟩ : ∃ m, n = m + 1 := ⟨n - 1, by omega⟩
   have ih:=rB (p:=p) f (m + 1) zo
   rw [tZ,ih,show m + 1 - 1 = m by omega,show m + 1 + 1 - 1 = m + 1 by omega,tZ]
   have:iE p m = m + 1:=by unfold iE; rw [if_neg zo]
   rw [this]; grind
section
variable {s f:List (List Qi)} {x y:Nat → Qi} {g D:Qi} {n p:Nat}
theorem Vu (hp : p < n) (hy : ∀ i, i < n → y i = fP n fun j => gm s i j * x j) (hg : x p = g * y p) (hD : Qi.ofInt 1 - gm s p p * g ≠ Qi.zero) {a : Nat} (ha : a < n - 1) :
  (fP (n - 1) fun b=>vJ s p (iS s p g) a b * x (iE p b)) = y (iE p a):=by
 have e1:∀ b,b < n - 1 → vJ s p (iS s p g) a b * x (iE p b) = gm s (iE p a) (iE p b) * x (iE p b) + gm s (iE p a) p * iS s p g * (gm s p (iE p b) * x (iE p b)):=fun b _=>by rw [vJ]; grind
 rw [gL e1,Fb,uA]
 have h1:=hy (iE p a) (Bz ha hp)
 have h2:=hy p hp
 rw [rB (fun j=>gm s (iE p a) j * x j) n hp] at h1
 rw [rB (fun j=>gm s p j * x j) n hp] at h2
 generalize (fP (n - 1) fun b=>gm s (iE p a) (iE p b) * x (iE p b)) = A at *
 generalize (fP (n - 1) fun b=>gm s p (iE p b) * x (iE p b)) = B at *
 have o:Qi.ofInt 1 = (1:Qi):=rfl
 rw [o] at hD
 have hi:=qD hD
 have hF:iS s p g = g * Qi.inv (1 - gm s p p * g):=by rw [iS,o,Qi.div_def]
 rw [h1,hF]
 have hB:B = (1 - gm s p p * g) * y p:=by rw [hg] at h2; grind
 rw [hB,hg]
 generalize Qi.inv (1 - gm s p p * g) = v at *
 have e2:gm s (iE p a) p * (g * v) * ((1 - gm s p p * g) * y p) = ((1 - gm s p p * g) * v) * (gm s (iE p a) p * (g * y p)):=by grind
 rw [e2,hi]; grind
theorem a00 (hp : p < n) (hy : ∀ i, i < n → y i = fP n fun j => gm s i j * x j) {u v : Qi} (hu : gm f 1 0 * u = x p - gm f 1 1 * y p) (hv : v = gm f 0 0 * u + gm f 0 1 * y p) (hD : oB s f p ≠ 0) {a : Nat} (ha : a < n) :
  (fP n fun b=>nW s f p a b * (if b = p then u else x b)) = if a = p then v else y a:=by
 have eD:oB s f p = 1 - gm f 1 1 * gm s p p:=rfl
 have hi:=qD hD
 have h2:=hy p hp
 rw [rB (fun j=>gm s p j * x j) n hp] at h2
 have ns:∀ b,iE p b ≠ p:=fun b=>by unfold iE; split <;> omega
 rw [rB (fun b=>nW s f p a b * (if b = p then u else x b)) n hp]
 show (fP (n - 1) fun b=>nW s f p a (iE p b) * (if iE p b = p then u else x (iE p b))) + nW s f p a p * (if p = p then u else x p) = _
 rw [if_pos rfl]
 generalize hB:(fP (n - 1) fun b=>gm s p (iE p b) * x (iE p b)) = B at *
 by_cases c:a = p
 ·subst c
  have e1 : ∀ b, b < n - 1 → nW s f a a (iE a b) * (if iE a b = a then u else x (iE a b)) = gm f 0 1 * Qi.inv (oB s f a) * (gm s a (iE a b) * x (iE a b)) := fun b _ => by
   rw [if_neg (ns b),nW,if_neg (fun k=>ns b k.2),if_neg (ns b),if_pos rfl,Qi.div_def]; grind
  rw [gL e1,uA,hB,if_pos rfl,nW,if_pos ⟨rfl,rfl⟩,hv,Qi.div_def]
  generalize Qi.inv (oB s f a) = w at *
  rw [eD] at hi
  have k1:(1 - gm f 1 1 * gm s a a) * y a = B + gm s a a * (gm f 1 0 * u):=by rw [hu]; grind
  have k2:y a = ((1 - gm f 1 1 * gm s a a) * w) * y a:=by rw [hi]; grind
  have k3:y a = w * (B + gm s a a * (gm f 1 0 * u)):=by rw [← k1]; grind
  have k4:gm f 0 1 * y a = gm f 0 1 * (w * (B + gm s a a * (gm f 1 0 * u))):=by rw [← k3]
  rw [k4]; clear k1 k2 k3 k4 h2 hi hu hv eD hy hD; grind
 ·have h1 := hy a ha
  rw [rB (fun j=>gm s a j * x j) n hp] at h1
  have e1 : ∀ b, b < n - 1 → nW s f p a (iE p b) * (if iE p b = p then u else x (iE p b)) = gm s a (iE p b) * x (iE p b) + gm s a p * Qi.inv (oB s f p) * gm f 1 1 * (gm s p (iE p b) * x (iE p b)) := fun b _ => by
   rw [if_neg (ns b),nW,if_neg (fun k=>ns b k.2),if_neg (ns b),if_neg c,Qi.div_def]; grind
  rw [gL e1,Fb,uA,hB,if_neg c,nW,if_neg (fun k=>c k.1),if_pos rfl,Qi.div_def]
  generalize (fP (n - 1) fun b=>gm s a (iE p b) * x (iE p b)) = A at *
  generalize Qi.inv (oB s f p) = w at *
  rw [eD] at hi
  have k1 : (1 - gm f 1 1 * gm s p p) * x p = gm f 1 0 * u + gm f 1 1 * B := by
   have:gm f 1 0 * u = x p - gm f 1 1 * (B + gm s p p * x p):=by rw [hu,h2]
   rw [this]; clear hi hu hv eD hy hD h1 h2 this; grind
  have k2:x p = ((1 - gm f 1 1 * gm s p p) * w) * x p:=by rw [hi]; grind
  have k3:x p = w * (gm f 1 0 * u + gm f 1 1 * B):=by rw [← k1]; grind
  have k4:gm s a p * x p = gm s a p * (w * (gm f 1 0 * u + gm f 1 1 * B)):=by rw [← k3]
  rw [h1,k4]; clear k1 k2 k3 k4 h2 hi hu hv eD hy hD h1; grind
end
end
section
open Go Go.RowKit
theorem Gu {e s : Nat} {v : Value} {F : Qi → Ty} [hF : ∀ x, NI (F x)] {l : List Qi} (hv : oX v) : NoI (bE e s v (l.map F)) := fun S m V h b hb o ho => by
 obtain ⟨xs,q1,q2⟩:=h
 obtain ⟨a,len,hv⟩:=hv
 rcases q2 with ⟨_,_,q3⟩ | ⟨g,cap,cur,q3,q4,q5,q6,_,q7,q8⟩
 ·rw [q3] at hb; simp at hb
 ·rw [q4] at hb; simp at hb; subst hb
  rw [q5] at ho; obtain rfl:=Option.some.inj ho
  rw [hv] at q3
  simp at q3
  have hcap:cap = (l.map F).length:=by simp; omega
  rintro c e l' hc i k n hi
  cases hc
  have hcur : cur.toList = cI xs := by
   rw [← q8,List.take_of_length_le]; simp [q7,hcap]
  have:Value.int k n ∈ cI xs:=by rw [← hcur]; exact List.mem_of_getElem? (i:=i) (by simpa using hi)
  obtain ⟨y,y1,y2⟩:=iL.1 this
  obtain ⟨t,t1,t2⟩:=List.getElem_of_mem y1
  have hlen:=q1.all.length
  have hty : (l.map F)[t]? = some (F (l[t]'(by simp at hlen; omega))) := by
   have:t < l.length:=by simp at hlen; omega
   simp [this]
  obtain ⟨y',z1,z2⟩:=q1.all.get hty
  rw [List.getElem?_eq_getElem t1,t2] at z1
  obtain rfl:=Option.some.inj z1
  exact (hF _).ni z2 _ y2 k n rfl
theorem Oi {p:Prop} {e s:Nat} {v:Value} {Ts:List Ty}:∀ u S V,(zH p (Is v)).p u V → (bE e s v Ts).h S V V → (zH p (jK s Ts)).p u V:=fun u S V q1 q2=>⟨fun hp=>eN u S V (q1.1 hp) q2,q1.2⟩
theorem yE {e s:Nat} {v:Value} {l:List Qi}:Rl (bE e s v (l.map aD)):=Vl (mW.map aD l)
section
variable {P:Program} {n:Nat} {E:bT} {H:Hp}
variable {d:Option Tmp} {t:TypeId} {pos:String} {af:Array Edge} {g:Option (Nat × Bool)}
theorem Eh {f : FuncId} {xs : List Operand} {tys : Array TypeId} {Ts : List Ty} {γ : Type} {U : γ → Ty} {B : γ → SA} {Q : γ → Prop} {j tt : Nat} {A : SA} {T0 T1 T : Ty} (hc : ∀ args w, (callFunc f args).run P w = .ok (.enter f args) w)
  (hF:gP P f Ts [] γ U (fun x=>[B x]) Q) (hA:H[j]? = some A) (hl:eL E tt = some T0) (hz:∀ v S V,T0.p v V → A.h S V V → T1.p v V) (hni:NoI A) (hU:∀ x,Me (U x)) (hB:∀ x,Rl (B x)) (hT:∀ x v S V,(U x).p v V → (B x).h S V V → T.p v V)
  (ha:nL ((tt,T1) :: E) xs Ts):aE P n E H ⟨d,.call ⟨.value (.func f),xs.toArray,tys⟩,t,pos,af,g⟩ T:=fun cx X a w V hi hs K Qp hK=>by
 have hrun : (execOp a.eval ⟨d, .call ⟨.value (.func f), xs.toArray, tys⟩, t, pos, af, g⟩).run P w = .ok (.enter f (xs.map a.eval).toArray) w := by
  simp [execOp,resolve,Act.eval,Deferred.ofValue,invoke,hc]
 simp only [Oper.wp,hrun,Oper.upon_enter]
 have hjl0:=(List.getElem?_eq_some_iff.1 hA).1
 have hAX:(H ++ X)[j]? = some A:=by rw [List.getElem?_append_left hjl0]; exact hA
 generalize H ++ X = HX at *
 obtain ⟨F,h1,h2⟩:=hi.hp
 have hjl:=(List.getElem?_eq_some_iff.1 hAX).1
 obtain ⟨k1,k2⟩:=h1 j A hAX
 let V1:aN:=fun b=>if b ∈ F j then w.heap[b]? else V b
 have hle : lH V V1 := fun b o hb => by
  have:b ∉ F j:=fun hf=>by have:=(k2 b hf).1; rw [hb] at this; cases this
  simp only [V1,if_neg this]; exact hb
 let S0:=((List.range HX.length).filter fun i=>i ≠ j).flatMap F
 have hS0 : ∀ b, b ∈ S0 ↔ ∃ i, i < HX.length ∧ i ≠ j ∧ b ∈ F i := fun b => by
  simp only [S0,List.mem_flatMap,List.mem_filter,List.mem_range,decide_eq_true_eq]
  constructor
  ·rintro ⟨i,⟨q1,q2⟩,q3⟩; exact ⟨i,q1,q2,q3⟩
  ·rintro ⟨i,q1,q2,q3⟩; exact ⟨i,⟨q1,q2⟩,q3⟩
 have hb0:∀ i b,i < HX.length → b ∈ F i → V b = none ∧ cx.w0.heap.size ≤ b ∧ b < w.heap.size:=fun i b hil hb=>(h1 i HX[i] (by simp [hil])).2 b hb
 have hin : gM cx V1 [zY S0 (hv w)] w := ⟨fun b o hb => by
   by_cases hf:b ∈ F j
   ·simp only [V1,if_pos hf] at hb; exact hb
   ·simp only [V1,if_neg hf] at hb; exact hi.on b o hb,hi.le.trans hle,fun b o hb h0=>by
   by_cases hf:b ∈ F j
   ·exact (k2 b hf).2.1
   ·simp only [V1,if_neg hf] at hb; exact hi.new b o hb h0,hi.bel,
  ⟨fun _ => S0, fun i B' hB' => by
   have hi0:i = 0:=by have:=(List.getElem?_eq_some_iff.1 hB').1; simp at this; exact this
   subst hi0; simp at hB'; subst hB'
   refine ⟨⟨rfl,fun b _=>rfl⟩,fun b hb=>?_⟩
   obtain ⟨i,q1,q2,q3⟩:=(hS0 b).1 hb
   have hnf:b ∉ F j:=fun hf=>q2 (h2 i j b q1 hjl q3 hf)
   have:=hb0 i b q1 q3
   exact ⟨by simp only [V1,if_neg hnf]; exact this.1,this.2⟩,fun i l b hi' hl' _ _=>by simp at hi' hl'; omega⟩⟩
 have hA1:A.h (F j) V1 V1:=A.mono (A.loc k1 fun b hb=>by simp only [V1,if_pos hb]; rfl) hle
 have hsl : dF n ((tt, T1) :: E) V1 a := by
  have hs':=hs.mono hle
  refine ⟨hs'.1,hs'.2.1,fun t' T hT=>?_⟩
  rw [bP] at hT
  by_cases e:tt = t'
  ·subst e
   rw [if_pos rfl] at hT; obtain rfl:=Option.some.inj hT
   obtain ⟨v,q1,q2⟩:=hs'.2.2 _ _ hl
   exact ⟨v,q1,hz v (F j) V1 q2 hA1⟩
  ·rw [if_neg e] at hT; exact hs'.2.2 t' T hT
 refine (hF cx (zY S0 (hv w)) _ V1 w hin (nL.all hsl ha)).mono ?_
 rintro e w' ⟨v,V2,x,rfl,m1,m2,m3,m4⟩
 obtain ⟨G,g1,g2⟩:=m2.hp
 obtain ⟨⟨g3,g4⟩,g5⟩:=g1 0 (zY S0 (hv w)) rfl
 obtain ⟨r1,r2⟩:=g1 1 (B x) rfl
 have hFj : ∀ b, b ∈ F j → ∃ o, w.heap[b]? = some o ∧ V2 b = some o ∧ w'.heap[b]? = some o := fun b hb => by
  have hlt:=(k2 b hb).2.2
  have q:w.heap[b]? = some (w.heap[b]'hlt):=by simp [hlt]
  have q1:V1 b = some (w.heap[b]'hlt):=by simp only [V1,if_pos hb]; exact q
  exact ⟨_,q,m1 _ _ q1,m2.on _ _ (m1 _ _ q1)⟩
 have hGF : ∀ b, b ∈ G 1 → b ∉ F j := fun b hb hf => by
  obtain ⟨o',_,p2,_⟩:=hFj b hf
  rw [(r2 b hb).1] at p2; cases p2
 let V4:aN:=fun b=>if b ∈ F j then none else if b ∈ G 1 then w'.heap[b]? else V2 b
 have hV4 : lH V V4 := fun b o hb => by
  have h3:b ∉ F j:=fun hf=>by have:=(k2 b hf).1; rw [hb] at this; cases this
  have h4:=m1 _ _ (hle _ _ hb)
  have h5:b ∉ G 1:=fun hg=>by rw [(r2 b hg).1] at h4; cases h4
  simp only [V4,if_neg h3,if_neg h5]; exact h4
 have hkeep : Cl V2 V4 := fun b o hb => by
  by_cases hf:b ∈ F j
  ·obtain ⟨o', q1, q2, _⟩ := hFj b hf
   rw [hb] at q2; obtain rfl:=Option.some.inj q2
   exact .inr (hni _ _ _ k1 b hf o q1)
  ·have h5 : b ∉ G 1 := fun hg => by rw [(r2 b hg).1] at hb; cases hb
   exact .inl (by simp only [V4,if_neg hf,if_neg h5]; exact hb)
 have hres : (B x).h (G 1) V4 V4 := (B x).loc (hB x _ _ _ _ r1 hkeep) fun b hb => by
  simp only [V4,if_neg (hGF b hb),if_pos hb]; rfl
 refine hK v w' V4 ⟨fun b o hb=>?_,fun b o hb=>hV4 b o (hi.le b o hb),fun b o hb h0=>?_,m2.bel,F,fun i B' hB'=>?_,fun i l b hil hll hbi hbl=>h2 i l b hil hll hbi hbl⟩ hV4 (hT x v (G 1) V4 ((hU x).ins m3 hkeep) hres)
 ·by_cases hf : b ∈ F j
  ·simp only [V4,if_pos hf] at hb; cases hb
  ·by_cases hg : b ∈ G 1
   ·simp only [V4,if_neg hf,if_pos hg] at hb; exact hb
   ·simp only [V4,if_neg hf,if_neg hg] at hb; exact m2.on b o hb
 ·by_cases hf : b ∈ F j
  ·simp only [V4,if_pos hf] at hb; cases hb
  ·by_cases hg : b ∈ G 1
   ·exact (r2 b hg).2.1
   ·simp only [V4,if_neg hf,if_neg hg] at hb; exact m2.new b o hb h0
 ·have hlt := (List.getElem?_eq_some_iff.1 hB').1
  obtain ⟨q1,q2⟩:=h1 i B' hB'
  by_cases ej:i = j
  ·subst ej
   rw [hAX] at hB'; obtain rfl:=Option.some.inj hB'
   refine ⟨A.mono (A.loc k1 fun b hb=>?_) hV4,fun b hb=>?_⟩
   ·obtain ⟨o', p1, _, p3⟩ := hFj b hb
    show w'.heap[b]? = w.heap[b]?
    rw [p1,p3]
   ·obtain ⟨o', p1, _, p3⟩ := hFj b hb
    exact ⟨by simp only [V4,if_pos hb],(k2 b hb).2.1,(Array.getElem?_eq_some_iff.1 p3).1⟩
  ·have hsub : ∀ b, b ∈ F i → b ∈ S0 := fun b hb => (hS0 b).2 ⟨i, hlt, ej, hb⟩
   refine ⟨B'.mono (B'.loc q1 fun b hb=>g4 b (hsub b hb)) hV4,fun b hb=>?_⟩
   have hnf:b ∉ F j:=fun hf=>ej (h2 i j b hlt hjl hb hf)
   have hng : b ∉ G 1 := fun hg => by
    have h0:b ∈ G 0:=by rw [g3]; exact hsub b hb
    have:=g2 0 1 b (by simp) (by simp) h0 hg
    omega
   have:=g5 b (by rw [g3]; exact hsub b hb)
   exact ⟨by simp only [V4,if_neg hnf,if_neg hng]; exact this.1,this.2⟩
end
end
end Go.Proofs.YtdlciihkiefckaaGreat
