/- What functions of the program compute, proved by walks over their code, and the plain mathematics of it; a part of the proof in the last text. -/
import Derived.Test.YteohomnhncjcnaaGreatP03
set_option linter.unusedVariables false
set_option linter.unusedSimpArgs false
set_option maxRecDepth 100000
set_option maxHeartbeats 4000000
namespace Go.Proofs.YteohomnhncjcnaaGreat
section
open Go Go.RowKit
theorem Aj {M:List (List Qi)} {n m L B:Nat} (hs:bM M n m) (hf:aL M L) (hL:1 ≤ L) (hg:6 * bh L n + 4 ≤ 17592186044415) (hnm:n ≤ m) (hm:m ≤ 1000):dy Tryz.prog 194 [Is (.slice (some ⟨B,0,none⟩) n n)] [gt B 29 51 5 (bq ab M)] (Unit) (fun _=>bo [NT .i64 (b5 M n).2.1,aa .i64 (b5 M n).2.2]) (fun _=>[gt B 29 51 5 (bq ab (b5 M n).1)]) (fun _=>True):=by
 have hs1:=hs.1
 refine dy.intro Tryz.func194 rfl Tryz.ntmps194 rfl (fun cx Z=>(ts (ro rfl (cQ (cJ 0)) (ro rfl (cQ (cJ 0)) (eZ (ts (ro rfl (cQ (cJ 0)) (eZ (cK (ts (rm rfl (ro rfl (dS U_30 (Ht rfl)) (ro rfl (cX (cJ 0)) (eZ (eK (sS 1 rfl (fun vs hvs=>?_)))))))))))))))))
 have hvs2:AT vs n:=by have h:=hvs; rw [List.length_map,hs1] at h; exact h
 refine kX (fun (c : Nat) (sw : Nat) (vs : List Value) (A : List (List Qi)) => (c ≤ n ∧ sw ≤ c) ∧ b5 M c = (A, sw, -1) ∧ AT vs n) (fun (c : Nat) (sw : Nat) (vs : List Value) (A : List (List Qi)) => n - c) (fun (c : Nat) (sw : Nat) (vs : List Value) (A : List (List Qi)) => [(0, Is (.slice (some ⟨B, 0, none⟩) n n)), (4, NT .i64 sw), (12, NT .i64 n), (13, NT .i64 c)]) (fun (c : Nat) (sw : Nat) (vs : List Value) (A : List (List Qi)) => [Z, ed B 29 51 5 vs vs (bq ab A)]) 0 0 vs M ⟨⟨Nat.zero_le _, Nat.le_refl _⟩, rfl, hvs2⟩
  (zS rfl) (br.refl _) (fun c sw vs A ⟨⟨hc,hsw⟩,hA,hvs⟩=>?_)
 refine ts (ro rfl (gV (Ht rfl) (Ht rfl)) (eZ (cK (dQ (Ht rfl) (fun hcn=>?_) (fun hcn=>?_)))))
 ·simp only [decide_eq_true_eq] at hcn
  have hvl:=hvs.len
  have hAs:bM A n m:=by have h:=iS hs hc; rw [hA] at h; exact h
  have hAf:aL A (bh L c):=by have h:=nK hs hf hL hc; rw [hA] at h; exact h
  have hAl:=hAs.1
  have hgr:bh L c ≤ bh L n:=iU L hc
  have hG1:1 ≤ bh L c:=Nat.le_trans hL (jZ L c)
  refine cU (cK (eK (ts (rm rfl (ra rfl (eZ (ts (rm rfl (ra rfl (eZ (cK (eK ?_))))))))))))
  refine b8 (fun (p : Nat) => (c ≤ p ∧ p ≤ n) ∧ ∀ r, c ≤ r → r < p → gm A r c = Qi.zero) (fun (p : Nat) => n - p) (fun (p : Nat) => [(0, Is (.slice (some ⟨B, 0, none⟩) n n)), (4, NT .i64 sw), (5, NT .i64 c), (6, NT .i64 p), (12, NT .i64 n), (13, NT .i64 c)]) (fun (p : Nat) => [Z, ed B 29 51 5 vs vs (bq ab A)]) c ⟨⟨Nat.le_refl _, hc⟩, fun r h1 h2 => by omega⟩
   (zS rfl) (br.refl _) (fun p ⟨⟨hcp,hpn⟩,hz⟩=>?_)
  haveI fp:an (gm A p c) (bh L c):=hAf.get hG1 p c
  refine cK (ts (rm rfl (rm rfl (ro rfl (dS U_30 (Ht rfl)) (ro rfl (gV (Ht rfl) (Ht rfl)) (rm rfl (fX rfl rfl (eU rfl rfl (Ht rfl) (fun h=>cX (Ht rfl))) (fX rfl rfl (eU rfl rfl (Ht rfl) (fun h=>cX (Ht rfl))) (fX rfl rfl (eU rfl rfl (Ht rfl) (fun h=>gX U_30 Z_29 (fW rfl h) (fW rfl h) rfl (by first | omega | (simp at h; omega)) (by rw [Nat.mul_one,Nat.zero_add]))) ?_)))))))))
  refine fX rfl rfl (eU rfl rfl (Ht rfl) (fun h=>f7 A_29 Z_29 (fW rfl h) (j:=1) rfl (by simp at h; omega))) ?_
  refine fX rfl rfl (eU rfl rfl (Ht rfl) (fun h=>cX (Ht rfl))) (fX rfl rfl (eU rfl rfl (Ht rfl) (fun h=>gu U_29 Z_51 (fW rfl h) (fW rfl h) rfl (j:=1) rfl zo (by simp at h; omega) (by simp at h; rw [hAs.row h]; omega))) ?_)
  refine fX rfl rfl (eU rfl rfl (Ht rfl) (fun h=>jw A_51 Z_51 (fW rfl h) (j:=1) rfl zo (by simp at h; omega) (by simp at h; rw [hAs.row h]; omega))) ?_
  refine fX rfl rfl (eU rfl rfl (Ht rfl) (fun h=>ay aF (fW rfl h))) (fX rfl rfl (eU rfl rfl (Ht rfl) (fun h=>ap iz K_27 (jS (x:=gm A p c) (L:=bh L c) zo) (fW rfl h) trivial)) (fX rfl rfl (eU rfl rfl (Ht rfl) (fun h=>bD (fW rfl h))) (ro rfl (bx (Ht rfl) (fun h=>(fW rfl h))) (eZ (dQ (Ht rfl) (fun he=>?_) (fun he=>?_))))))
  ·have he2 : p < n ∧ gm A p c = Qi.zero := by simpa using he
   refine cU (eK (cY (rm rfl (ro rfl (dW (Ht rfl) (cJ 1) z6) (ra rfl (eZ (aB ?_)))))))
   refine gQ (p + 1) ⟨⟨by omega, by omega⟩, fun r h1 h2 => by
     by_cases e:r = p
     ·rw [e]; exact he2.2
     ·exact hz r h1 zo⟩ zo (zS rfl) (br.refl _)
  ·have hpv : pv A c n = p := DM hcp hpn hz (fun h => by simp at he; exact he h)
   refine gK rfl (cK (ts (rm rfl (rm rfl (ro rfl (dS U_30 (Ht rfl)) (ro rfl (aO (Ht rfl) (Ht rfl)) (eZ (dQ (Ht rfl) (fun hp=>?_) (fun hp=>?_)))))))))
   ·have hp2 : p = n := by simpa using hp
    have hend:=xo hs1 hA (by rw [hpv]; exact hp2) hcn
    refine ts (rm rfl (rm rfl (ra rfl (ra rfl (eZ ?_)))))
    exact fo () trivial [0,1] ⟨⟨_,rfl,fun _ _ _ h=>h⟩,⟨_,rfl,(fun S w V h=>bO (by rw [hend]) S w V (n7 (by rw [List.length_map]; omega) S w V h))⟩,trivial⟩ (by decide) (C2 rfl (fJ (eY rfl) (fe (by rw [hend]))) (fJ (eY rfl) (am (by rw [hend]))))
   ·have hp2 : p < n := by simp at hp; omega
    have hpz:=(j6 (M:=A) (c:=c) (n:=n) hc).2.2.2 (by rw [hpv]; exact hp2)
    rw [hpv] at hpz
    have hnx:=uc hs1 hA hpv hp2
    refine cU (cK (Ab (fun (q:Nat) (us:List Value) (D:List (List Qi))=>(q = sw + (if p = c then 0 else 1) ∧ D = (if p = c then A else swp [] A p c)) ∧ AT us n) (fun (q:Nat) (us:List Value) (D:List (List Qi))=>[(0,Is (.slice (some ⟨B,0,none⟩) n n)),(4,NT .i64 q),(5,NT .i64 c),(12,NT .i64 n),(13,NT .i64 c)]) (fun (q:Nat) (us:List Value) (D:List (List Qi))=>[Z,ed B 29 51 5 us us (bq ab D)]) ?_ (fun q us D ⟨⟨hq,hD⟩,hus⟩=>?_)))
    ·refine ts (rm rfl (rm rfl (ro rfl (db (Ht rfl) (Ht rfl)) (eZ (dQ (Ht rfl) (fun hpc => ?_) (fun hpc => ?_))))))
     ·have hpc2 : ¬ p = c := by simpa using hpc
      refine cK (Y.D_start (m:=14) [(13,1,ed B 29 51 5 (vs.set p (hd vs c)) vs (bq ab A))] (Y.D_step (Ei:=[(0,_)]) rfl rfl (bQ (bJ rfl rfl) bX) rfl rfl (by kernel_rfl) (dX rfl (cX (Ht rfl))) (Y.D_step (Ei:=[(6,_)]) rfl rfl (bQ (bJ rfl rfl) bX) rfl rfl (by kernel_rfl) (dX rfl (cX (Ht rfl))) (bY (Ei:=[(0,_)]) rfl rfl (bQ (bJ rfl rfl) bX) rfl rfl (dX rfl (cX (Ht rfl))) (bY (Ei:=[(5,_)]) rfl rfl (bQ (bJ rfl rfl) bX) rfl rfl (dX rfl (cX (Ht rfl))) ?_)))))
      refine Y.D_step (Ei:=[(0,_)]) rfl rfl (bQ (bJ rfl rfl) bX) rfl rfl (by kernel_rfl) (dX rfl (cX (Ht rfl))) (Y.D_step (Ei:=[(5,_)]) rfl rfl (bQ (bJ rfl rfl) bX) rfl rfl (by kernel_rfl) (dX rfl (cX (Ht rfl))) (Y.D_step (Ei:=[(48,_),(49,_)]) rfl rfl (bQ (bZ 4 rfl rfl) (bQ (bZ 5 rfl rfl) bX)) rfl rfl (by kernel_rfl) (dX rfl (gX U_30 Z_29 (Ht rfl) (Ht rfl) rfl zo (by rw [Nat.mul_one,Nat.zero_add]))) ?_))
      refine Y.D_step (Ei:=[(50,_)]) rfl rfl (bQ (bZ 6 rfl rfl) bX) rfl rfl (by kernel_rfl) (dX rfl (f7 A_29 Z_29 (Ht rfl) (j:=1) rfl zo)) (Y.D_step (Ei:=[(0,_)]) rfl rfl (bQ (bJ rfl rfl) bX) rfl rfl (by kernel_rfl) (dX rfl (cX (Ht rfl))) (Y.D_step (Ei:=[(6,_)]) rfl rfl (bQ (bJ rfl rfl) bX) rfl rfl (by kernel_rfl) (dX rfl (cX (Ht rfl))) (Y.D_step (Ei:=[(52,_),(53,_)]) rfl rfl (bQ (bZ 8 rfl rfl) (bQ (bZ 9 rfl rfl) bX)) rfl rfl (by kernel_rfl) (dX rfl (gX U_30 Z_29 (Ht rfl) (Ht rfl) rfl zo (by rw [Nat.mul_one,Nat.zero_add]))) ?_)))
      refine Y.D_step (Ei:=[(54,_)]) rfl rfl (bQ (bZ 10 rfl rfl) bX) rfl rfl (by kernel_rfl) (dX rfl (f7 A_29 Z_29 (Ht rfl) (j:=1) rfl zo)) (Y.D_step (Ei:=[(44,_),(45,_)]) rfl rfl (bQ (bZ 0 rfl rfl) (bQ (bZ 1 rfl rfl) bX)) rfl rfl (by kernel_rfl) (dX rfl (gX U_30 Z_29 (Ht rfl) (Ht rfl) rfl zo (by rw [Nat.mul_one,Nat.zero_add]))) ?_)
      refine Y.D_putI (Ei:=[(56,_),(51,_)]) 1 rfl rfl rfl (bQ (bZ 12 rfl rfl) (bQ (bZ 7 rfl rfl) bX)) (.head _) rfl (ve Z_29 (Ht rfl) (Ht rfl) (hvs.pl c zo) (i:=p) (hs:=vs) zo) (Y.D_done aA rfl (by kernel_rfl) rfl (by simp [Y.okP]) rfl rfl (bU (bU (bU (bU (bU (bU (bU (bU (bU (bU (bU (bU (bU (Y.F_putI (Y.F_nil ?_))))))))))))))))
      refine ro rfl (gX U_30 Z_29 (Ht rfl) (Ht rfl) rfl zo (by rw [Nat.mul_one,Nat.zero_add])) ?_
      refine Ca Z_29 (Ht rfl) (Ht rfl) (j:=1) rfl (hvs.pl p zo) (by rw [List.length_set]; omega) rfl ?_
      refine eZ (fw 1 rfl (uI (hs:=swp ph vs p c) (p:=p) (c:=c) zo zo zo) (cY (rm rfl (ro rfl (dW (Ht rfl) (cJ 1) z6) (ra rfl (eZ (au (sw + 1,swp ph vs p c,swp [] A p c) ⟨⟨by rw [if_neg hpc2],by rw [if_neg hpc2]⟩,hvs.swp hp2 hcn⟩ (zS rfl) (br.refl _))))))))
     ·have hpc2 : p = c := by simpa using hpc
      refine cU (au (sw,vs,A) ⟨⟨by rw [if_pos hpc2]; rfl,by rw [if_pos hpc2]⟩,hvs⟩ (zS rfl) (br.refl _))
    ·have hul := hus.len
     rw [← hq,← hD] at hnx
     have hDs:bM D n m:=by rw [hD]; split; exact hAs; exact mG hAs hp2 hcn
     have hDf:aL D (bh L c):=by rw [hD]; split; exact hAf; exact tu hAf
     have hDl:=hDs.1
     have hDz : gm D c c ≠ Qi.zero := by
      rw [hD]; split
      ·rename_i e; rw [e] at hpz; exact hpz
      ·show gv (c7 (swp [] A p c) c) c ≠ _
       rw [pF zo]; exact hpz
     refine ts (rm rfl (ro rfl (dW (Ht rfl) (cJ 1) z6) (ra rfl (eZ (eK ?_)))))
     refine b8 (fun (r : Nat) => c < r ∧ r ≤ n) (fun (r : Nat) => n - r) (fun (r : Nat) => [(0, Is (.slice (some ⟨B, 0, none⟩) n n)), (4, NT .i64 q), (5, NT .i64 c), (7, NT .i64 r), (12, NT .i64 n), (13, NT .i64 c)]) (fun (r : Nat) => [Z, ed B 29 51 5 us us (bq ab (fA D c r))]) (c + 1) ⟨Nat.lt_succ_self _, hcn⟩
      (zS rfl) (aU (fun _ _ _ h=>h) (aU (mC (congrArg _ sC)) aY)) (fun r ⟨hcr,hrn⟩=>?_)
     refine cK (ts (rm rfl (rm rfl (ro rfl (dS U_30 (Ht rfl)) (ro rfl (gV (Ht rfl) (Ht rfl)) (eZ (dQ (Ht rfl) (fun hr=>?_) (fun hr=>?_))))))))
     ·simp only [decide_eq_true_eq] at hr
      obtain ⟨X,hX⟩:∃ X,X = fA D c r:=⟨_,rfl⟩
      have hXr:c7 X r = c7 D r:=by rw [hX]; exact la zo zo
      have hXc:c7 X c = c7 D c:=by rw [hX]; exact la zo zo
      have hXl:X.length = n:=by rw [hX,jr]; exact hDl
      have hXrl:(c7 X r).length = m:=by rw [hXr]; exact hDs.row hr
      have hXcl:(c7 X c).length = m:=by rw [hXc]; exact hDs.row hcn
      have hXrg:(X.getD r []).length = m:=hXrl
      have hXcg:(X.getD c []).length = m:=hXcl
      have hXfr:aP (c7 X r) (bh L c):=by rw [hXr]; exact hDf.row r
      have hXfc:aP (c7 X c) (bh L c):=by rw [hXc]; exact hDf.row c
      haveI g1:an (gm X r c) (bh L c):=hXfr.get hG1 c
      haveI g2:an (gm X c c) (bh L c):=hXfc.get hG1 c
      have hXz:gm X c c ≠ Qi.zero:=by show gv (c7 X c) c ≠ _; rw [hXc]; exact hDz
      haveI g3:an (gm X r c / gm X c c) (bh L c + 3 * bh L c + 2):=⟨g1.fit.div g2.fit hXz⟩
      have hend:=wX (D:=D) (r:=r) (c:=c) zo hcr
      rw [← hX] at hend ⊢
      refine cU (cK (eK (cK (Y.D_start (m:=21) [] (bY (Ei:=[(0,_)]) rfl rfl (bQ (bJ rfl rfl) bX) rfl rfl (dX rfl (cX (Ht rfl))) (bY (Ei:=[(7,_)]) rfl rfl (bQ (bJ rfl rfl) bX) rfl rfl (dX rfl (cX (Ht rfl))) (bY (Ei:=[(69,_),(70,_)]) rfl rfl (bQ (bZ 0 rfl rfl) (bQ (bZ 1 rfl rfl) bX)) rfl rfl (dX rfl (gX U_30 Z_29 (Ht rfl) (Ht rfl) rfl zo (by rw [Nat.mul_one,Nat.zero_add]))) ?_)))))))
      refine bY (Ei:=[(71,_)]) rfl rfl (bQ (bZ 2 rfl rfl) bX) rfl rfl (dX rfl (f7 A_29 Z_29 (Ht rfl) (j:=1) rfl zo)) (bY (Ei:=[(5,_)]) rfl rfl (bQ (bJ rfl rfl) bX) rfl rfl (dX rfl (cX (Ht rfl))) (bY (Ei:=[(72,_),(73,_)]) rfl rfl (bQ (bZ 3 rfl rfl) (bQ (bZ 4 rfl rfl) bX)) rfl rfl (dX rfl (gu U_29 Z_51 (Ht rfl) (Ht rfl) rfl (j:=1) rfl zo zo zo)) (bY (Ei:=[(74,_)]) rfl rfl (bQ (bZ 5 rfl rfl) bX) rfl rfl (dX rfl (jw A_51 Z_51 (Ht rfl) (j:=1) rfl zo zo zo)) ?_)))
      refine bY (Ei:=[(75,_)]) rfl rfl (bQ (bZ 6 rfl rfl) bX) rfl rfl (dX rfl (ay aF (Ht rfl))) (bY (Ei:=[(0,_)]) rfl rfl (bQ (bJ rfl rfl) bX) rfl rfl (dX rfl (cX (Ht rfl))) (bY (Ei:=[(5,_)]) rfl rfl (bQ (bJ rfl rfl) bX) rfl rfl (dX rfl (cX (Ht rfl))) (bY (Ei:=[(77,_),(78,_)]) rfl rfl (bQ (bZ 8 rfl rfl) (bQ (bZ 9 rfl rfl) bX)) rfl rfl (dX rfl (gX U_30 Z_29 (Ht rfl) (Ht rfl) rfl zo (by rw [Nat.mul_one,Nat.zero_add]))) ?_)))
      refine bY (Ei:=[(79,_)]) rfl rfl (bQ (bZ 10 rfl rfl) bX) rfl rfl (dX rfl (f7 A_29 Z_29 (Ht rfl) (j:=1) rfl zo)) (bY (Ei:=[(5,_)]) rfl rfl (bQ (bJ rfl rfl) bX) rfl rfl (dX rfl (cX (Ht rfl))) (bY (Ei:=[(80,_),(81,_)]) rfl rfl (bQ (bZ 11 rfl rfl) (bQ (bZ 12 rfl rfl) bX)) rfl rfl (dX rfl (gu U_29 Z_51 (Ht rfl) (Ht rfl) rfl (j:=1) rfl zo zo zo)) (bY (Ei:=[(82,_)]) rfl rfl (bQ (bZ 13 rfl rfl) bX) rfl rfl (dX rfl (jw A_51 Z_51 (Ht rfl) (j:=1) rfl zo zo zo)) ?_)))
      refine bY (Ei:=[(76,_),(83,_)]) rfl rfl (bQ (bZ 7 rfl rfl) (bQ (bZ 14 rfl rfl) bX)) rfl rfl (dX rfl (ap dO K_40 (mg (x:=gm X r c) (y:=gm X c c) (L:=bh L c) (M:=bh L c) zo) (Ht rfl) ⟨(Ht rfl),trivial⟩)) (bY (Ei:=[(84,_)]) rfl rfl (bQ (bZ 15 rfl rfl) bX) rfl rfl (dX rfl (cX (Ht rfl))) (bY (Ei:=[(68,_)]) rfl rfl (bQ (bZ 16 rfl rfl) bX) rfl rfl (dX rfl (dU (Ht rfl) rfl)) (bY (Ei:=[(68,_)]) rfl rfl (bQ (bZ 16 rfl rfl) bX) rfl rfl (dX rfl (dU (Ht rfl) rfl)) ?_)))
      refine Y.D_newp (Ei:=[]) (fun bb=>box bb 51 [a9 (decide ((gm X r c / gm X c c).a < 0)),ah (gm X r c / gm X c c).a.natAbs,a9 (decide ((gm X r c / gm X c c).b < 0)),ah (gm X r c / gm X c c).b.natAbs,ah (du (gm X r c / gm X c c))]) 20 rfl rfl rfl bX rfl rfl (by kernel_rfl) (eG (Ts:=[Is (.bool false),Is (.slice none 0 0),Is (.bool false),Is (.slice none 0 0),Is (.slice none 0 0)]) O_51 rfl (fun V=>aW zd (aW zd (aW zd (aW zd (aW zd (aG))))))) ?_
      refine Y.D_putN (Ei:=[(85,_)]) 19 rfl rfl rfl rfl rfl rfl (bQ (bZ 17 rfl rfl) bX) (fun bb=>ft Z_51 (Ht rfl) (Ht rfl) rfl (i:=0) rfl (aK rfl) rfl rfl) (Y.D_done aA rfl (by kernel_rfl) rfl (by simp [Y.okP]) rfl rfl (bU (bU (bU (bU (bU (bU (bU (bU (bU (bU (bU (bU (bU (bU (bU (bU (bU (bU (bU (Y.F_newp (fun B8=>Y.F_putN (Y.F_nil ?_)))))))))))))))))))))))
      refine ra rfl (eZ (ts (rm rfl (ro rfl (dW (Ht rfl) (cJ 1) z6) (ra rfl (eZ (eK ?_)))))))
      refine b8 (fun (k : Nat) => c < k ∧ k ≤ m) (fun (k : Nat) => m - k) (fun (k : Nat) => [(0, Is (.slice (some ⟨B, 0, none⟩) n n)), (4, NT .i64 q), (5, NT .i64 c), (7, NT .i64 r), (8, aH B8 0), (10, NT .i64 k), (12, NT .i64 n), (13, NT .i64 c)]) (fun (k : Nat) => [Z, ed B 29 51 5 us us (bq ab (X.set r (eR (c7 X r) (c7 X c) c k))), box B8 51 [a9 (decide ((gm X r c / gm X c c).a < 0)), ah (gm X r c / gm X c c).a.natAbs, a9 (decide ((gm X r c / gm X c c).b < 0)), ah (gm X r c / gm X c c).b.natAbs, ah (du (gm X r c / gm X c c))]]) (c + 1) ⟨Nat.lt_succ_self _, by omega⟩
       (zS rfl) (aU (fun _ _ _ h=>h) (aU (mC (by rw [← so,C6 zo])) (aU (a8 rfl) aY))) (fun k ⟨hck,hkm⟩=>?_)
      obtain ⟨Y,hY⟩:∃ Y,Y = (X.set r (eR (c7 X r) (c7 X c) c k)):=⟨_,rfl⟩
      have hYl:Y.length = n:=by rw [hY,List.length_set]; exact hXl
      have hYrl:(c7 Y r).length = m:=by rw [hY,pt zo,lu]; exact hXrl
      have hYcl:(c7 Y c).length = m:=by rw [hY,lW zo]; exact hXcl
      have hYrg:(Y.getD r []).length = m:=hYrl
      have hYcg:(Y.getD c []).length = m:=hYcl
      rw [← hY]
      refine cK (ts (rm rfl (rm rfl (rm rfl (ro rfl (gX U_30 Z_29 (Ht rfl) (Ht rfl) rfl zo (by rw [Nat.mul_one,Nat.zero_add])) ?_)))))
      refine ro rfl (f7 A_29 Z_29 (Ht rfl) (j:=1) rfl zo) (ro rfl (y6 U_29 (Ht rfl) (j:=1) rfl zo zo) (ro rfl (gV (Ht rfl) (Ht rfl)) (eZ (dQ (Ht rfl) (fun hk=>?_) (fun hk=>?_)))))
      ·have hk2 : k < m := by simp only [decide_eq_true_eq] at hk; omega
       have e1:gm Y r k = gv (c7 X r) k:=by rw [hY]; exact DI zo zo hck
       have e2:gm Y c k = gv (c7 X c) k:=by rw [hY]; exact Dt zo
       haveI y1:an (gm Y r k) (bh L c):=by rw [e1]; exact hXfr.get hG1 k
       haveI y2:an (gm Y c k) (bh L c):=by rw [e2]; exact hXfc.get hG1 k
       have hst:=vh (X:=X) (r:=r) (c:=c) (k:=k) zo zo zo hck
       rw [← hY] at hst
       refine cU (cK (eK (fV (m:=24) (dp 0 rfl (cX (Ht rfl)) (dp 7 rfl (cX (Ht rfl)) (bv 98 0 99 1 rfl (gX U_30 Z_29 (Ht rfl) (Ht rfl) rfl zo (by rw [Nat.mul_one,Nat.zero_add])) ?_))))))
       refine dq 100 2 rfl (f7 A_29 Z_29 (Ht rfl) (j:=1) rfl zo) (dp 10 rfl (cX (Ht rfl)) (dp 0 rfl (cX (Ht rfl)) (dp 7 rfl (cX (Ht rfl)) (bv 103 5 104 6 rfl (gX U_30 Z_29 (Ht rfl) (Ht rfl) rfl zo (by rw [Nat.mul_one,Nat.zero_add])) ?_))))
       refine dq 105 7 rfl (f7 A_29 Z_29 (Ht rfl) (j:=1) rfl zo) (dp 10 rfl (cX (Ht rfl)) (bv 106 8 107 9 rfl (gu U_29 Z_51 (Ht rfl) (Ht rfl) rfl (j:=1) rfl zo zo zo) (dq 108 10 rfl (jw A_51 Z_51 (Ht rfl) (j:=1) rfl zo zo zo) (dq 109 11 rfl (ay aF (Ht rfl)) (dp 8 rfl (eW A_51 Z_51 (Ht rfl) (i:=2) rfl rfl rfl) (dq 111 13 rfl (ay aF (Ht rfl)) (dp 0 rfl (cX (Ht rfl)) (dp 5 rfl (cX (Ht rfl)) (bv 113 15 114 16 rfl (gX U_30 Z_29 (Ht rfl) (Ht rfl) rfl zo (by rw [Nat.mul_one,Nat.zero_add])) ?_)))))))))
       refine dq 115 17 rfl (f7 A_29 Z_29 (Ht rfl) (j:=1) rfl zo) (dp 10 rfl (cX (Ht rfl)) (bv 116 18 117 19 rfl (gu U_29 Z_51 (Ht rfl) (Ht rfl) rfl (j:=1) rfl zo zo zo) (dq 118 20 rfl (jw A_51 Z_51 (Ht rfl) (j:=1) rfl zo zo zo) (bv 112 14 119 21 rfl (ap b7 K_45 (eS (x:=gm X r c / gm X c c) (y:=gm Y c k) (L:=bh L c + 3 * bh L c + 2) (M:=bh L c) zo) (Ht rfl) ⟨(Ht rfl),trivial⟩) (bv 110 12 120 22 rfl (ap dv K_44 (kZ (x:=gm Y r k) (y:=gm X r c / gm X c c * gm Y c k) (L:=bh L c) (M:=bh L c + 3 * bh L c + 2 + bh L c + 1) zo) (Ht rfl) ⟨(Ht rfl),trivial⟩) ?_)))))
       refine fG aA rfl (by kernel_rfl) (zF (zF (zF (zF (zF (zF (aV (ro rfl (gu U_29 Z_51 (Ht rfl) (Ht rfl) rfl (j:=1) rfl zo zo zo) (Dk Z_51 (Ht rfl) (Ht rfl) (j:=1) rfl (El.ag rfl) (F:=ab) (z:=gm Y r k - gm X r c / gm X c c * gm Y c k) zo zo zo rfl (eZ (aB (cY ?_))))))))))))
       refine rm rfl (ro rfl (dW (Ht rfl) (cJ 1) z6) (ra rfl (eZ (gQ (k + 1) ⟨by omega,hk2⟩ zo (zS rfl) (aU (fun _ _ _ h=>h) (aU (mC (congrArg _ hst)) (aU (a8 rfl) aY)))))))
      ·have hk3 : k = m := by simp only [decide_eq_false_iff_not] at hk; omega
       subst hk3
       refine gK rfl (aB (cY (rm rfl (ro rfl (dW (Ht rfl) (cJ 1) z6) (ra rfl (eZ (aD [0,1] rfl (by decide) (gQ (r + 1) ⟨by omega,hr⟩ zo (zS rfl) (aU (fun _ _ _ h=>h) (aU (mC (by rw [hY,← hend,hDs.row hr])) aY))))))))))
     ·simp only [decide_eq_false_iff_not] at hr
      obtain rfl:r = n:=Nat.le_antisymm hrn zo
      refine gK rfl (aB (cY (ro rfl (dW (Ht rfl) (cJ 1) z6) (rm rfl (eZ (gQ (c + 1,q,us,fA D c r) ⟨⟨hcn,by show q ≤ c + 1; rw [hq]; split <;> omega⟩,hnx,hus⟩ (by dsimp only; omega) (zS rfl) (br.refl _)))))))
 ·simp only [decide_eq_false_iff_not] at hcn
  obtain rfl:c = n:=Nat.le_antisymm hc zo
  have hvl:=hvs.len
  have hAs:bM A c m:=by have h:=iS hs hc; rw [hA] at h; exact h
  refine gK rfl (ts (rm rfl (ra rfl (ro rfl (cQ cV) (eZ ?_)))))
  exact fo () trivial [0,1] ⟨⟨_,rfl,fun _ _ _ h=>h⟩,⟨_,rfl,(fun S w V h=>bO (by rw [hA]) S w V (n7 (by rw [List.length_map,hAs.1]; exact hvl) S w V h))⟩,trivial⟩ (by decide) (C2 rfl (fJ (eY rfl) (fe (by rw [hA]))) (fJ (eY rfl) (am (by rw [hA]))))
end
section
open Go Go.RowKit
abbrev rb (M bs:List (List Qi)) (i:Nat):List Qi:=c7 M i ++ bs.map fun b=>gv b i
def fa (M bs:List (List Qi)) (n:Nat):List (List Qi):=tab n (rb M bs)
theorem Ah {r:List Qi} {bs:List (List Qi)} {i j:Nat} (h:j < bs.length):(r ++ (bs.take j).map fun b=>gv b i) ++ [gv (bs.getD j []) i] = r ++ (bs.take (j + 1)).map fun b=>gv b i:=by
 rw [List.append_assoc,List.take_add_one,List.map_append]
 simp [List.getD,h]
theorem gU {M bs:List (List Qi)} {n m:Nat} (h:bM M n m):bM (fa M bs n) n (m + bs.length):=by
 refine ⟨ao _ _,fun r hr=>?_⟩
 obtain ⟨i,hi,rfl⟩:=dt.1 hr
 rw [List.length_append,List.length_map,h.row hi]
theorem oC {M bs : List (List Qi)} {n L : Nat} (h : aL M L) (hb : aL bs L) (hL : 1 ≤ L) : aL (fa M bs n) L := fun r hr x hx => by
 obtain ⟨i,hi,rfl⟩:=dt.1 hr
 rcases List.mem_append.1 hx with h1 | h1
 ·exact h.row i x h1
 ·obtain ⟨b, hb1, rfl⟩ := List.mem_map.1 h1
  exact aP.get (hb b hb1) hL i
theorem uw {M:List (List Qi)} {n m:Nat} (h:bM M n m):fa M [] n = M:=by
 have:fa M [] n = tab n (c7 M):=ba fun i _=>by simp [rb]
 rw [this]; exact (nx (h:=h.1)).symm
def gn (U : List (List Qi)) (x : List Qi) (n c : Nat) : Nat → Qi
 | 0=>gm U c n
 | k + 1=>gn U x n c k - gm U c (c + 1 + k) * gv x (c + 1 + k)
def iu (U : List (List Qi)) (n : Nat) : Nat → List Qi
 | 0=>tab n fun _=>Qi.zero
 | j + 1=>(iu U n j).set (n - (j + 1)) (gn U (iu U n j) n (n - (j + 1)) j / gm U (n - (j + 1)) (n - (j + 1)))
theorem kY (U : List (List Qi)) (n : Nat) : ∀ j, (iu U n j).length = n
 | 0=>ao _ _
 | j + 1=>by rw [iu,List.length_set,kY U n j]
def kb (M:List (List Qi)) (b:List Qi) (n:Nat):List (List Qi) × Nat × Int:=b5 (fa M [b] n) n
def fB (M:List (List Qi)) (b:List Qi) (n:Nat):Int:=if 0 ≤ (kb M b n).2.2 then 6 else 0
def fC (M:List (List Qi)) (b:List Qi) (n:Nat):List Qi:=iu (kb M b n).1 n n
def iB (G : Nat) : Nat → Nat
 | 0=>G
 | j + 1=>j * (iB G j + G + 2) + 4 * G + 2
theorem l6 (G j:Nat):iB G j ≤ iB G (j + 1):=by
 cases j with
 | zero=>simp only [iB]; omega
 | succ j =>
  have:iB G (j + 1) + G + 2 ≤ (j + 1) * (iB G (j + 1) + G + 2):=Nat.le_mul_of_pos_left _ zo
  rw [show iB G (j + 1 + 1) = (j + 1) * (iB G (j + 1) + G + 2) + 4 * G + 2 from rfl]
  omega
theorem pR (G : Nat) : ∀ j, G ≤ iB G j
 | 0=>Nat.le_refl _
 | j + 1=>Nat.le_trans (pR G j) (l6 G j)
theorem ny (G : Nat) : ∀ {i j : Nat}, i ≤ j → iB G i ≤ iB G j
 | i,0,h=>by rw [show i = 0 by omega]; exact Nat.le_refl _
 | i, j + 1, h => by
  by_cases e:i = j + 1
  ·rw [e]; exact Nat.le_refl _
  ·exact Nat.le_trans (ny G (show i ≤ j by omega)) (l6 G j)
theorem iR {M : List (List Qi)} {n m : Nat} (hs : bM M n m) : ∀ {c : Nat}, c ≤ n → (b5 M c).2.2 < 0 → ∀ i, i < c → gm (b5 M c).1 i i ≠ Qi.zero
 | 0,_,_,i,hi=>by omega
 | c + 1, hc, hst, i, hi => by
  have sh:=iS hs (c:=c) zo
  obtain ⟨_,i2,i3,i4⟩:=j6 (M:=(b5 M c).1) (c:=c) (n:=M.length) (by rw [hs.1]; omega)
  simp only [b5] at hst ⊢
  split at hst
  ·rename_i h0; omega
  ·rename_i h0
   rw [if_neg h0]
   split at hst
   ·simp at hst; omega
   ·rename_i h1
    rw [if_neg h1]
    have ih:=iR hs (c:=c) zo zo
    have hl : ∀ X : List (List Qi), X.length = n → gm (fA X c M.length) i i = gm X i i := fun X hX => by
     show gv (c7 (fA X c M.length) i) i = _
     rw [la zo zo]
    by_cases e:pv (b5 M c).1 c M.length = c
    ·rw [if_pos e, hl _ sh.1]
     by_cases e2:i = c
     ·rw [e2]; have:=i4 (by have:=hs.1; omega); rw [e] at this; exact this
     ·exact ih i zo
    ·have hpl : pv (b5 M c).1 c M.length < n := by rw [← hs.1]; omega
     rw [if_neg e,hl _ ((pb _ _ _ _).trans sh.1)]
     by_cases e2:i = c
     ·rw [e2]
      show gv (c7 (swp [] _ _ c) c) c ≠ _
      rw [pF (by rw [sh.1]; omega)]
      exact i4 (by have:=hs.1; omega)
     ·have : c7 (swp [] (b5 M c).1 (pv (b5 M c).1 c M.length) c) i = c7 (b5 M c).1 i := by
       simp only [c7,swp,List.getD]
       rw [List.getElem?_set_ne (Ne.symm e2),List.getElem?_set_ne zo]
      show gv (c7 (swp [] _ _ c) i) i ≠ _
      rw [this]; exact ih i zo
theorem ms {U : List (List Qi)} {x : List Qi} {n c G X : Nat} (hU : aL U G) (hx : aP x X) (hG : 1 ≤ G) (hX : 1 ≤ X) : ∀ k, an (gn U x n c k) (G + k * (G + X + 2))
 | 0=>(hU.get hG c n).le zo
 | k + 1 => by
  haveI f1:=ms (n:=n) (c:=c) hU hx hG hX k
  haveI f2:=hU.get hG c (c + 1 + k)
  haveI f3:=hx.get hX (c + 1 + k)
  have:an (gn U x n c (k + 1)) (G + k * (G + X + 2) + (G + X + 1) + 1):=by unfold gn; infer_instance
  exact this.le (by rw [Nat.add_mul]; omega)
theorem Co {U:List (List Qi)} {x:List Qi} {n c G X j:Nat} (hU:aL U G) (hx:aP x X) (hG:1 ≤ G) (hX:1 ≤ X) (hz:gm U c c ≠ Qi.zero):an (gn U x n c j / gm U c c) (j * (X + G + 2) + 4 * G + 2):=by
 have f1:=ms (n:=n) (c:=c) hU hx hG hX j
 have f2:=hU.get hG c c
 have:an (gn U x n c j / gm U c c) (G + j * (G + X + 2) + 3 * G + 2):=⟨f1.fit.div f2.fit hz⟩
 exact this.le (by rw [Nat.add_comm X G]; omega)
theorem s6 {U : List (List Qi)} {n G : Nat} (hU : aL U G) (hG : 1 ≤ G) (hz : ∀ i, i < n → gm U i i ≠ Qi.zero) : ∀ j, j ≤ n → aP (iu U n j) (iB G j)
 | 0,_=>aP.tab fun _ _=>an.zero hG
 | j + 1, hj => fun y hy => by
  have ih:=s6 hU hG hz j zo
  rcases List.mem_or_eq_of_mem_set hy with h1 | h1
  ·exact (ih y h1).le (l6 G j)
  ·rw [h1]; exact Co hU ih hG (Nat.le_trans hG (pR G j)) (hz _ zo)
theorem wJ {M:List (List Qi)} {b:List Qi} {n:Nat} (h:bM M n n):bM (kb M b n).1 n (n + 1):=iS (gU h) (Nat.le_refl n)
theorem qM {M:List (List Qi)} {b:List Qi} {n L:Nat} (h:bM M n n) (hM:aL M L) (hb:aP b L) (hL:1 ≤ L):aL (kb M b n).1 (bh L n):=nK (gU h) (oC hM (fun r hr=>by simp at hr; subst hr; exact hb) hL) hL (Nat.le_refl n)
theorem wU {M : List (List Qi)} {b : List Qi} {n L : Nat} (h : bM M n n) (hM : aL M L) (hb : aP b L) (hL : 1 ≤ L) (hE : (kb M b n).2.2 < 0) : aP (fC M b n) (iB (bh L n) n) :=
 s6 (qM h hM hb hL) (Nat.le_trans hL (jZ L n)) (iR (gU h) (Nat.le_refl n) hE) n (Nat.le_refl n)
def o3 (n i:Nat):List Qi:=(tab n fun _=>Qi.zero).set i (Qi.ofInt 1)
def v9 (n:Nat):List (List Qi):=tab n (o3 n)
theorem lc (n:Nat):bM (v9 n) n n:=⟨ao _ _,fun r hr=>by obtain ⟨i,_,rfl⟩:=dt.1 hr; rw [o3,List.length_set,ao]⟩
theorem gr:an (Qi.ofInt 1) 1:=⟨Qi.Fit.int (L:=1) (by decide) (by decide)⟩
theorem uK {n i L : Nat} (h : 1 ≤ L) : aP (o3 n i) L := fun x hx => by
 rcases List.mem_or_eq_of_mem_set hx with h1 | h1
 ·obtain ⟨_,_,rfl⟩:=dt.1 h1; exact an.zero h
 ·rw [h1]; exact gr.le h
theorem sK {n L:Nat} (h:1 ≤ L):aL (v9 n) L:=fun r hr=>by obtain ⟨i,_,rfl⟩:=dt.1 hr; exact uK h
theorem z9 {M:List (List Qi)} {b:List Qi} {n:Nat} (h:¬ 0 ≤ (kb M b n).2.2):(kb M b n).2.2 < 0:=by omega
theorem gL (F:Qi → Ty) (n:Nat):List.replicate n (F Qi.zero) = (tab n fun _=>Qi.zero).map F:=by rw [g5,lm]
theorem CU {n j:Nat} (h:(0:Int) ≤ (n:Int) - 1 - (j:Int)):j < n:=by omega
theorem CL {n j:Nat} (h:(n:Int) - 1 - (j:Int) < 0):n ≤ j:=by omega
theorem xk {G X k j:Nat} (h:k < j):k * (G + X + 2) + (G + X + 2) ≤ j * (X + G + 2):=by
 rw [Nat.add_comm X G,← Nat.succ_mul]; exact Nat.mul_le_mul_right _ h
end
section
open Go Go.RowKit
theorem ry {M:List (List Qi)} {n:Nat} (h:bM M n n) (h1:1 ≤ n) (hn:n ≤ 32):aw Tryz.prog 174 [bp M] (a9 true):=by
 have hl:=h.1
 refine aw.intro Tryz.func174 rfl Tryz.ntmps174 rfl (fun cx=>(ts (ro rfl (cQ cV) (eZ (ts (rm rfl (ro rfl (cZ Tryz.call240 (uj h h1 hn hn) ⟨(Ht rfl),trivial⟩) (rm rfl (ro rfl (dU (Ht rfl) rfl) (ro rfl (dU (Ht rfl) rfl) (ra rfl (ra rfl (eZ (ts (rm rfl (rm rfl (fX rfl rfl (eU rfl rfl (Ht rfl) (fun h=>cX (Ht rfl))) (fX rfl rfl (eU rfl rfl (Ht rfl) (fun h=>cX (Ht rfl))) (fX rfl rfl (eU rfl rfl (Ht rfl) (fun h=>dK U_30 (fW rfl h) a7)) (fX rfl rfl (eU rfl rfl (Ht rfl) (fun h=>aO (fW rfl h) (fW rfl h))) ?_))))))))))))))))))))
 refine ro rfl (bx (Ht rfl) (fun h=>(fW rfl h))) (ra rfl (eZ (fK rfl (fJ (eY rfl) ?_))))
 exact (bL (by simp [hl]))
theorem oo {M bs:List (List Qi)} {n m:Nat} (hM:bM M n m) (hb:∀ b,b ∈ bs → n ≤ b.length) (hn:n ≤ 1000) (hm:m ≤ 1000) (hbl:bs.length ≤ 1000):dy Tryz.prog 193 [bp M,bp bs] [] (Nat) (fun B=>Is (.slice (some ⟨B,0,none⟩) n n)) (fun B=>[gt B 29 51 5 (bq ab (fa M bs n))]) (fun _=>True):=by
 have hMl:=hM.1
 refine dy.intro Tryz.func193 rfl Tryz.ntmps193 rfl (fun cx Z=>(ts (ro rfl (cQ cV) (eZ (ts (rm rfl (ro rfl (dK U_30 (Ht rfl) a7) (rn rfl (ck (T:=Is (.slice none 0 0)) (i:=Tryz.t29) V_30 jY rfl rfl (Ht rfl) rfl (fun _=>rfl) trivial (by show 24 * _ ≤ _; omega) zo) fun B12=>(ra rfl (eZ (cK (ts (rm rfl (ro rfl (dK U_30 (Ht rfl) a7) (ro rfl (cX (cJ 0)) (eZ (eK (fw 1 rfl (l8 (e:=51) (s:=5)) ?_))))))))))))))))))
 refine b8 (fun (i : Nat) => i ≤ M.length) (fun (i : Nat) => M.length - i) (fun (i : Nat) => [(0, bp M), (1, bp bs), (5, Is (.slice (some ⟨B12, 0, none⟩) M.length M.length)), (13, bp M), (14, NT .i64 M.length), (15, NT .i64 i)]) (fun (i : Nat) => [Z, gt B12 29 51 5 (bq ab (dN (rb M bs) [] M.length i))]) 0 (Nat.zero_le _)
  (zS rfl) (aU (fun _ _ _ h=>h) (aU (bO (by rw [← cP,iC]; exact jp ab M.length)) aY)) (fun i hi=>?_)
 refine ts (ro rfl (gV (Ht rfl) (Ht rfl)) (eZ (cK (dQ (Ht rfl) (fun hd0=>?_) (fun hd0=>?_)))))
 ·simp only [decide_eq_true_eq] at hd0
  have hrl:(c7 M i).length = m:=hM.row zo
  have hrl2:(M.getD i []).length = m:=hrl
  refine ip 1 (i) rfl (l7 hd0) (fun v0=>(cU (cK (eK (ts (rm rfl (ro rfl (dZ U_30 Z_29 (Ht rfl) (Ht rfl) rfl (eQ (dY (d:=[]) hd0))) (ro rfl (dV A_29 Z_29 (Ht rfl)) (ra rfl (ra rfl (eZ (ts (rm rfl (rm rfl (rm rfl (gD Tryz.call158 (qd (l:=M.getD i []) zo) ⟨(Ht rfl),trivial⟩ rfl (fun v1 _=>(ro rfl (gX U_30 Z_29 (Ht rfl) (Ht rfl) rfl zo (by rw [Nat.mul_one,Nat.zero_add])) ?_))))))))))))))))))
  refine nw Z_29 (Ht rfl) (Ht rfl) (by simp only [bq,List.length_map,b9]; omega) (j:=1) (l:=3) rfl rfl rfl ?_
  refine eZ (ts (rm rfl (ro rfl (dK U_30 (Ht rfl) a7) (ro rfl (cX (cJ 0)) (eZ (eK (aD [0,1,3] rfl (by decide) ?_)))))))
  refine ci (fun (j : Nat) (v : Value) => j ≤ bs.length) (fun (j : Nat) (v : Value) => bs.length - j) (fun (j : Nat) (v : Value) => [(0, bp M), (1, bp bs), (5, Is (.slice (some ⟨B12, 0, none⟩) M.length M.length)), (6, NT .i64 i), (13, bp M), (14, NT .i64 M.length), (15, NT .i64 i), (25, bp bs), (26, NT .i64 bs.length), (27, NT .i64 j)]) (fun (j : Nat) (v : Value) => [Z, qL B12 29 51 5 (bq ab (dN (rb M bs) [] M.length i)) i v, aE 51 5 v ((c7 M i ++ (bs.take j).map fun b => gv b i).map ab)]) 0 v1 (Nat.zero_le _)
   (zS rfl) (aU (fun _ _ _ h=>h) (aU (fun _ _ _ h=>h) (aU (ar (by simp)) aY))) (fun j v hj=>?_)
  refine ts (ro rfl (gV (Ht rfl) (Ht rfl)) (eZ (cK (dQ (Ht rfl) (fun he=>?_) (fun he=>?_)))))
  ·simp only [decide_eq_true_eq] at he
   have hbj:i < (bs.getD j []).length:=by have h1:=hb (bs.getD j []) (by rw [oU he]; exact List.getElem_mem _); omega
   refine cU (cK (eK (ts (ro rfl (dZ U_30 Z_29 (Ht rfl) (Ht rfl) rfl (eQ (dY (d:=[]) he))) (ro rfl (dV A_29 Z_29 (Ht rfl)) (ra rfl (eZ (Y.D_startA (m:=12) [] 11 2 rfl rfl (bY (Ei:=[(5,_)]) rfl rfl (bQ (bJ rfl rfl) bX) rfl rfl (dX rfl (cX (Ht rfl))) (bY (Ei:=[(6,_)]) rfl rfl (bQ (bJ rfl rfl) bX) rfl rfl (dX rfl (cX (Ht rfl))) (bY (Ei:=[(5,_)]) rfl rfl (bQ (bJ rfl rfl) bX) rfl rfl (dX rfl (cX (Ht rfl))) ?_)))))))))))
   refine bY (Ei:=[(6,_)]) rfl rfl (bQ (bJ rfl rfl) bX) rfl rfl (dX rfl (cX (Ht rfl))) (bY (Ei:=[(33,_),(34,_)]) rfl rfl (bQ (bZ 2 rfl rfl) (bQ (bZ 3 rfl rfl) bX)) rfl rfl (dX rfl (gX U_30 Z_29 (Ht rfl) (Ht rfl) rfl zo (by rw [Nat.mul_one,Nat.zero_add]))) ?_)
   refine bY (Ei:=[(35,_)]) rfl rfl (bQ (bZ 4 rfl rfl) bX) rfl rfl (dX rfl (fO A_29 Z_29 (Ht rfl) (j:=1) rfl)) (bY (Ei:=[(9,_)]) rfl rfl (bQ (bJ rfl rfl) bX) rfl rfl (dX rfl (cX (Ht rfl))) (bY (Ei:=[(6,_)]) rfl rfl (bQ (bJ rfl rfl) bX) rfl rfl (dX rfl (cX (Ht rfl))) (bY (Ei:=[(37,_),(38,_)]) rfl rfl (bQ (bZ 6 rfl rfl) (bQ (bZ 7 rfl rfl) bX)) rfl rfl (dX rfl (dZ U_29 Z_51 (Ht rfl) (Ht rfl) rfl (eQ (dY (d:=Qi.zero) hbj)))) ?_)))
   refine bY (Ei:=[(39,_)]) rfl rfl (bQ (bZ 8 rfl rfl) bX) rfl rfl (dX rfl (dV A_51 Z_51 (Ht rfl))) (bY (Ei:=[(40,_)]) rfl rfl (bQ (bZ 9 rfl rfl) bX) rfl rfl (dX rfl (bm (xs:=[.tmp 40]) U_29 Z_51 O_51 (cW (Ht rfl) cG) rfl rfl rfl)) (Y.D_app (Ei:=[(36,_),(41,_)]) rfl rfl rfl rfl (bQ (bZ 5 rfl rfl) (bQ (bZ 10 rfl rfl) bX)) rfl (qi (inf:=Tryz.t51) ef de rfl rfl rfl (Ht rfl) (Ht rfl) (by simp) (fun T hT=>by simp at hT; subst hT; exact El.ag rfl) (by show _ * 88 ≤ _; simp only [List.length_map,List.length_append,List.length_take,List.length_cons,List.length_nil]; omega) (by simp only [List.length_map,List.length_append,List.length_take,List.length_cons,List.length_nil]; omega)) ?_))
   refine Y.D_done aA rfl (by kernel_rfl) rfl (by simp [Y.okP]) rfl rfl (bU (bU (bU (bU (bU (bU (bU (bU (bU (bU (bU (Y.F_app (fun v2=>Y.F_nil ?_)))))))))))))
   refine ro rfl (gX U_30 Z_29 (Ht rfl) (Ht rfl) rfl zo (by rw [Nat.mul_one,Nat.zero_add])) ?_
   refine nw Z_29 (Ht rfl) (Ht rfl) (by simp only [bq,List.length_map,b9]; omega) (j:=1) (l:=3) rfl rfl rfl ?_
   refine eZ (aB (cY (ro rfl (dW (Ht rfl) (cJ 1) z6) (rm rfl (eZ (aD [0,1,3] rfl (by decide) (gQ (j + 1,v2) he (by dsimp only; omega) (zS rfl) (aU (fun _ _ _ h=>h) (aU (fun _ _ _ h=>h) (aU (ar ((vq ab _ (gv (bs.getD j []) i)).trans (congrArg _ (Ah he)))) aY))))))))))
  ·simp only [decide_eq_false_iff_not] at he
   obtain rfl:bs.length = j:=Nat.le_antisymm zo hj
   refine gK rfl (aB (eH 1 2 rfl rfl (by decide) (by simp only [bq,List.length_map,b9]; omega) ?_))
   refine cY (ro rfl (dW (Ht rfl) (cJ 1) z6) (rm rfl (eZ (aD [0,1] rfl (by decide) (gQ (i + 1) hd0 zo (zS rfl) (aU (fun _ _ _ h=>h) (aU (bO (by rw [List.take_length,eN,← dC (f:=rb M bs)])) aY)))))))
 ·simp only [decide_eq_false_iff_not] at hd0
  obtain rfl:i = M.length:=Nat.le_antisymm hi zo
  subst hMl
  refine gK rfl (ts (rm rfl (ra rfl (eZ ?_))))
  exact fo B12 trivial [0,1] ⟨⟨_,rfl,fun _ _ _ h=>h⟩,⟨_,rfl,(bO (by rw [dD]; rfl))⟩,trivial⟩ (by decide) (nt rfl (eY rfl))
end
section
open Go Go.RowKit
theorem CV {n:Nat} (hn:n ≤ 32):dy Tryz.prog 94 [NT .i64 n] [] (Nat) (fun B=>Is (.slice (some ⟨B,0,none⟩) n n)) (fun B=>[ke lU B 29 51 5 (bq ab (v9 n))]) (fun _=>True):=by
 refine dy.intro Tryz.func94 rfl Tryz.ntmps94 rfl (fun cx Z=>(ts (ro rfl (cQ cV) (eZ (ts (rn rfl (eG (Ts:=[Is (.bool false),Is (.slice none 0 0),Is (.bool false),Is (.slice none 0 0),Is (.slice none 0 0)]) O_51 rfl (fun V=>aW zd (aW zd (aW zd (aW zd (aW zd (aG))))))) fun B3=>(eZ (ts (rm rfl (ro rfl (ae.nat (zH (Ht rfl) (cJ 0)) (show max n 0 = n by omega)) (ro rfl (ae.nat (tE (Ht rfl) (cJ 32)) (show min n 32 = n by omega)) ?_)))))))))))
 refine rn rfl (ck (T:=Is (.slice none 0 0)) (i:=Tryz.t29) V_30 jY rfl rfl (Ht rfl) rfl (fun _=>rfl) trivial (by show 24 * _ ≤ _; omega) zo) fun B9=>ra rfl (eZ (cK (ts (rm rfl (ro rfl (dS U_30 (Ht rfl)) (ro rfl (cX (cJ 0)) (eZ (eK (fw 2 rfl (qt lU ⟨none,0,rfl⟩ (e:=51) (s:=5)) ?_)))))))))
 refine b8 (fun (k : Nat) => k ≤ n) (fun (k : Nat) => n - k) (fun (k : Nat) => [(3, aH B3 0), (4, Is (.slice (some ⟨B9, 0, none⟩) n n)), (11, NT .i64 n), (12, NT .i64 k)]) (fun (k : Nat) => [Z, box B3 51 [Is (.bool false), Is (.slice none 0 0), Is (.bool false), Is (.slice none 0 0), Is (.slice none 0 0)], ke lU B9 29 51 5 (bq ab (dN (o3 n) [] n k))]) 0 (Nat.zero_le _)
  (zS rfl) (aU (fun _ _ _ h=>h) (aU (fun _ _ _ h=>h) (aU (bO (by rw [← cP,iC]; exact jp ab n)) aY))) (fun k hk=>?_)
 refine ts (ro rfl (gV (Ht rfl) (Ht rfl)) (eZ (cK (dQ (Ht rfl) (fun hd=>?_) (fun hd=>?_)))))
 ·simp only [decide_eq_true_eq] at hd
  refine xt 2 (k) rfl (l7 hd) (fun v hv=>(cU (cK (eK (ts (rm rfl (ra rfl (eZ (cK (fV (m:=10) (dp 4 rfl (cX (Ht rfl)) (dp 5 rfl (cX (Ht rfl)) (dp 3 rfl (eW A_51 Z_51 (Ht rfl) (i:=1) rfl rfl rfl) (dq 17 2 rfl (ay aF (Ht rfl)) (d0 rfl (cZ Tryz.call77 (th (n:=0) (by decide) (by decide)) ⟨(cJ 0),trivial⟩) (bv 18 3 19 4 rfl (ap ko Tryz.call302 wW (Ht rfl) ⟨(Ht rfl),trivial⟩) (dq 20 5 rfl (bm (xs:=[.tmp 20]) U_29 Z_51 O_51 (cW (Ht rfl) cG) rfl rfl rfl) ?_)))))))))))))))))
  refine dp 4 rfl (cX (Ht rfl)) (dq 22 7 rfl (dS U_30 (Ht rfl)) (C.D_new (Ei:=[(21,_),(23,_)]) rfl rfl rfl (bV (bG 6 rfl rfl) (bV (bG 8 rfl rfl) bW)) (oc Tryz.call191 (Bc (m:=n) zo zo) ⟨(Ht rfl),(Ht rfl),trivial⟩) (fG aA rfl (by kernel_rfl) (zF (zF (aJ (C.F_new (fun B24=>aV (ro rfl (gX U_30 Z_29 (Ht rfl) (Ht rfl) rfl zo (by rw [Nat.mul_one,Nat.zero_add])) ?_)))))))))
  refine nw Z_29 (Ht rfl) (Ht rfl) (by simp only [bq,List.length_map,b9]; omega) (j:=2) (l:=4) rfl rfl rfl ?_
  refine eZ ?_
  have hB24:=B24.1.2
  refine fV (m:=9) (dp 4 rfl (cX (Ht rfl)) (dp 5 rfl (cX (Ht rfl)) (bv 26 0 27 1 rfl (gX U_30 Z_29 (Ht rfl) (Ht rfl) rfl zo (by rw [Nat.mul_one,Nat.zero_add])) ?_)))
  refine dq 28 2 rfl (fO A_29 Z_29 (Ht rfl) (j:=2) rfl) (dp 5 rfl (cX (Ht rfl)) (dp 3 rfl (eW A_51 Z_51 (Ht rfl) (i:=1) rfl rfl rfl) (dq 31 5 rfl (ay aF (Ht rfl)) (d0 rfl (cZ Tryz.call77 (th (n:=1) (by decide) (by decide)) ⟨(cJ 1),trivial⟩) (bv 32 6 33 7 rfl (ap ko Tryz.call302 wW (Ht rfl) ⟨(Ht rfl),trivial⟩) (fG aA rfl (by kernel_rfl) (zF (zF (aJ (aV (ro rfl (bi U_29 Z_51 (Ht rfl) (Ht rfl) rfl (i:=4) rfl (by simp only [List.length_map,ao]; omega) rfl) ?_)))))))))))
  refine eL Z_51 (Ht rfl) (Ht rfl) (El.ag rfl) (i:=4) rfl rfl (by simp only [List.length_map,ao]; omega) rfl ?_
  refine eZ (aB (eH 2 4 rfl rfl (by decide) (by simp only [bq,List.length_map,b9]; omega) ?_))
  refine cY (ro rfl (dW (Ht rfl) (cJ 1) z6) (rm rfl (eZ (aD [0,1,2] rfl (by decide) (gQ (k + 1) hd zo (zS rfl) (aU (fun _ _ _ h=>h) (aU (fun _ _ _ h=>h) (aU (bO (by rw [← dC (f:=o3 n),← eN,o3,← c9])) aY))))))))
 ·simp only [decide_eq_false_iff_not] at hd
  obtain rfl:n = k:=Nat.le_antisymm zo hk
  refine gK rfl (ts (rm rfl (ra rfl (eZ ?_))))
  exact fo B9 trivial [0,2] ⟨⟨_,rfl,fun _ _ _ h=>h⟩,⟨_,rfl,(bO (by rw [dD]; rfl))⟩,trivial⟩ (by decide) (nt rfl (eY rfl))
theorem Da {n:Nat} (hn:n ≤ 32):aw Tryz.prog 94 [NT .i64 n] (bp (v9 n)):=(CV hn).fun fun B _ v S V h1 h2=>jx (s:=5) (M:=v9 n) (lc n).1.symm v S V h1 h2
theorem tF {M:List (List Qi)} {b:List Qi} {n L:Nat} (hM:bM M n n) (hb:b.length = n) (hf:aL M L) (hfb:aP b L) (hL:1 ≤ L) (h1:1 ≤ n) (hn:n ≤ 32) (hg:6 * bh L n + 4 ≤ 17592186044415) (hx:iB (bh L n) (n + 1) ≤ 17592186044415):aw Tryz.prog 96 [bp M,av b] (bo [av (cL (fB M b n) (fC M b n)),aa .i64 (fB M b n)]):=by
 have hMl:=hM.1
 have hcs:bM (fa M [b] n) n (n + 1):=gU hM
 have hcf:aL (fa M [b] n) L:=oC hf (fun r hr=>by simp at hr; subst hr; exact hfb) hL
 obtain ⟨U,hU⟩:∃ U,U = (kb M b n).1:=⟨_,rfl⟩
 have hUs:bM U n (n + 1):=by rw [hU]; exact wJ hM
 have hUl:=hUs.1
 have hUf:aL U (bh L n):=by rw [hU]; exact qM hM hf hfb hL
 have hG1:1 ≤ bh L n:=Nat.le_trans hL (jZ L n)
 refine aw.intro Tryz.func96 rfl Tryz.ntmps96 rfl (fun cx=>(ts (ro rfl (cQ cV) (ro rfl (cQ (cJ 0)) (eZ (cK (ts (rm rfl (ro rfl (cZ Tryz.call174 (ry hM h1 hn) ⟨(Ht rfl),trivial⟩) (ro rfl (bD (Ht rfl)) (rm rfl (fX rfl rfl (eU rfl rfl (Ht rfl) (fun h=>cX (Ht rfl))) (fX rfl rfl (eU rfl rfl (Ht rfl) (fun h=>dK U_29 (fW rfl h) a7)) (fX rfl rfl (eU rfl rfl (Ht rfl) (fun h=>cX (Ht rfl))) (fX rfl rfl (eU rfl rfl (Ht rfl) (fun h=>dK U_30 (fW rfl h) a7)) ?_)))))))))))))))
 refine fX rfl rfl (eU rfl rfl (Ht rfl) (fun h=>db (fW rfl h) (fW rfl h))) (ro rfl (eP (Ht rfl) (fun h=>(fW rfl h))) (eZ (cb (Ht rfl) (by simp [hMl,hb]) ?_)))
 refine cU (ts (rm rfl (ro rfl (dK U_30 (Ht rfl) (by rw [List.length_map,hMl])) ?_)))
 refine ra rfl (eZ (ts (rm rfl (rm rfl (ro rfl (bm (xs:=[.tmp 26]) U_30 Z_29 O_29 (cW (Ht rfl) cG) rfl rfl rfl) (gD Tryz.call193 (oo (M:=M) (bs:=[b]) (n:=n) (m:=n) hM (fun r hr=>by simp at hr; subst hr; omega) zo zo (by simp)) ⟨(Ht rfl),(Ht rfl),trivial⟩ rfl (fun B28 _=>?_)))))))
 refine ra rfl (eZ (cK (ts (rm rfl (pU Tryz.call194 (Aj (n:=n) (m:=n + 1) (L:=L) hcs hcf hL hg zo zo) (i:=0) rfl ⟨(Ht rfl),trivial⟩ rfl (fun uu _=>(rm rfl (ro rfl (dU (Ht rfl) rfl) (ro rfl (dU (Ht rfl) rfl) (ra rfl (ra rfl (eZ (ts (rm rfl (ro rfl (fu (Ht rfl) cV) (eZ (dQ (Ht rfl) (fun hs=>?_) (fun hs=>?_))))))))))))))))))
 ·have he : fB M b n = 6 := by rw [fB, if_pos (show 0 ≤ (kb M b n).2.2 from of_decide_eq_true hs)]
  refine ts (ro rfl (cQ cV) (ro rfl (cQ (cJ 6)) (eZ (aC rfl (fJ (eY rfl) ?_) (fJ (eY rfl) ?_)))))
  ·exact (fun v V k=>by rw [he]; exact dc v V k)
  ·exact (am he.symm)
 ·have hst : ¬ 0 ≤ (kb M b n).2.2 := of_decide_eq_false hs
  have he:fB M b n = 0:=by rw [fB,if_neg hst]
  have hdz:∀ i,i < n → gm U i i ≠ Qi.zero:=by rw [hU]; exact iR hcs (Nat.le_refl n) (z9 hst)
  refine cU (ts (rm rfl (rn rfl (cy (T:=ab Qi.zero) (i:=Tryz.t51) ef de rfl rfl (Ht rfl) rfl cw (El.ag rfl) (by show 88 * _ ≤ _; omega) zo) fun B37=>(ra rfl (eZ (cK (ts (rm rfl (ro rfl (dG (Ht rfl) (cJ 1) zo z6) (ra rfl (eZ (eK (fw 0 rfl (bO (show bq ab (b5 (fa M [b] n) n).1 = bq ab U by rw [hU]; rfl)) (sS 0 rfl (fun vs hvs=>?_)))))))))))))))
  have hvl:vs.length = n:=by have h:=hvs.len; rw [List.length_map,hUl] at h; exact h
  refine b8 (fun (j : Nat) => j ≤ n) (fun (j : Nat) => n - j) (fun (j : Nat) => [(0, Is (.slice (some ⟨B28, 0, none⟩) n n)), (6, NT .i64 n), (9, Is B37), (10, aa .i64 ((n : Int) - 1 - (j : Int)))]) (fun (j : Nat) => [ed B28 29 51 5 vs vs (bq ab U), aE 51 5 B37 ((iu U n j).map ab)]) 0 (Nat.zero_le _)
   (aQ rfl (aQ rfl (aQ rfl (aZ rfl (am zo) aX)))) (aU (fun _ _ _ h=>h) (aU (ar (by rw [iu]; exact gL ab n)) aY)) (fun j hj=>?_)
  refine cK (ts (rm rfl (ro rfl (fu (Ht rfl) cV) (eZ (dQ (Ht rfl) (fun hc=>?_) (fun hc=>?_))))))
  ·have hjn : j < n := CU (of_decide_eq_true hc)
   obtain ⟨q,hq⟩:∃ q,q = n - (j + 1):=⟨_,rfl⟩
   have hqi:(n:Int) - 1 - (j:Int) = (q:Int):=by omega
   have hqr:(U.getD q []).length = n + 1:=hUs.row zo
   have hXf:=s6 hUf hG1 hdz j hj
   have hXl:=kY U n j
   have hX1:1 ≤ iB (bh L n) j:=Nat.le_trans hG1 (pR _ _)
   have hxm:=ny (bh L n) (show j + 1 ≤ n + 1 by omega)
   refine cU (cK (eK (ts (rm rfl (rm rfl (ro rfl (gX U_30 Z_29 (Ht rfl) (Ht rfl) hqi zo (by rw [Nat.mul_one,Nat.zero_add])) ?_))))))
   refine ro rfl (f7 A_29 Z_29 (Ht rfl) (j:=0) rfl zo) (rm rfl (ro rfl (gu U_29 Z_51 (Ht rfl) (Ht rfl) rfl (j:=0) rfl zo zo zo) (ro rfl (jw A_51 Z_51 (Ht rfl) (j:=0) rfl zo zo zo) (rn rfl (eG (Ts:=[Is (.bool false),Is (.slice none 0 0),Is (.bool false),Is (.slice none 0 0),Is (.slice none 0 0)]) O_51 rfl (fun V=>aW zd (aW zd (aW zd (aW zd (aW zd (aG))))))) fun B11=>?_))))
   refine gJ Z_51 (Ht rfl) (Ht rfl) rfl (i:=2) rfl (aK rfl) rfl rfl (eZ (cK (ts (rm rfl (ro rfl (mK (Ht rfl) cV (r:=((q + 1:Nat):Int)) ((kq (z:=(n:Int) - 1 - (j:Int) + 1) zo).trans zo)) ?_)))))
   refine ra rfl (eZ (eK ?_))
   refine b8 (fun (k : Nat) => k ≤ j) (fun (k : Nat) => j - k) (fun (k : Nat) => [(0, Is (.slice (some ⟨B28, 0, none⟩) n n)), (6, NT .i64 n), (9, Is B37), (10, aa .i64 ((n : Int) - 1 - (j : Int))), (11, aH B11 0), (12, NT .i64 (q + 1 + k))]) (fun (k : Nat) => [ed B28 29 51 5 vs vs (bq ab U), aE 51 5 B37 ((iu U n j).map ab), box B11 51 [a9 (decide ((gn U (iu U n j) n q k).a < 0)), ah (gn U (iu U n j) n q k).a.natAbs, a9 (decide ((gn U (iu U n j) n q k).b < 0)), ah (gn U (iu U n j) n q k).b.natAbs, ah (du (gn U (iu U n j) n q k))]]) 0 (Nat.zero_le _)
    (zS rfl) (aU (fun _ _ _ h=>h) (aU (fun _ _ _ h=>h) (aU (a8 rfl) aY))) (fun k hk=>?_)
   refine cK (ts (rm rfl (rm rfl (ro rfl (gV (Ht rfl) (Ht rfl)) (eZ (dQ (Ht rfl) (fun hf=>?_) (fun hf=>?_)))))))
   ·have hkj : k < j := by simp only [decide_eq_true_eq] at hf; omega
    haveI f1:an (gn U (iu U n j) n q k) (bh L n + k * (bh L n + iB (bh L n) j + 2)):=ms hUf hXf hG1 hX1 k
    haveI f2:an (gm U q (q + 1 + k)) (bh L n):=hUf.get hG1 _ _
    haveI f3:an (gv (iu U n j) (q + 1 + k)) (iB (bh L n) j):=hXf.get hX1 _
    have hb1:=xk (G:=bh L n) (X:=iB (bh L n) j) hkj
    have hb2:iB (bh L n) (j + 1) = j * (iB (bh L n) j + bh L n + 2) + 4 * bh L n + 2:=rfl
    refine cU (cK (eK (fV (m:=15) (dp 11 rfl (eW A_51 Z_51 (Ht rfl) (i:=2) rfl rfl rfl) (dq 58 0 rfl (ay aF (Ht rfl)) (dp 0 rfl (cX (Ht rfl)) (dp 10 rfl (cX (Ht rfl)) (bv 60 2 61 3 rfl (gX U_30 Z_29 (Ht rfl) (Ht rfl) hqi zo (by rw [Nat.mul_one,Nat.zero_add])) ?_))))))))
    refine dq 62 4 rfl (f7 A_29 Z_29 (Ht rfl) (j:=0) rfl zo) (dp 12 rfl (cX (Ht rfl)) (bv 63 5 64 6 rfl (gu U_29 Z_51 (Ht rfl) (Ht rfl) rfl (j:=0) rfl zo zo zo) (dq 65 7 rfl (jw A_51 Z_51 (Ht rfl) (j:=0) rfl zo zo zo) (dq 66 8 rfl (ay aF (Ht rfl)) (dp 9 rfl (cX (Ht rfl)) (dp 12 rfl (cX (Ht rfl)) (bv 68 10 69 11 rfl (bi U_29 Z_51 (Ht rfl) (Ht rfl) rfl (i:=1) rfl (by rw [List.length_map]; omega) rfl) ?_)))))))
    refine dq 70 12 rfl (ku A_51 Z_51 (Ht rfl) (i:=1) rfl rfl (eQ (dY (d:=Qi.zero) zo))) (bv 67 9 71 13 rfl (ap b7 K_45 (eS (x:=gm U q (q + 1 + k)) (y:=gv (iu U n j) (q + 1 + k)) (L:=bh L n) (M:=iB (bh L n) j) zo) (Ht rfl) ⟨(Ht rfl),trivial⟩) (fG aA rfl (by kernel_rfl) (zF (zF (zF (aJ (aJ (aJ (aV (ro rfl (ap dv K_44 (kZ (x:=(gn U (iu U n j) n q k)) (y:=gm U q (q + 1 + k) * gv (iu U n j) (q + 1 + k)) (L:=bh L n + k * (bh L n + iB (bh L n) j + 2)) (M:=bh L n + iB (bh L n) j + 1) zo) (Ht rfl) ⟨(Ht rfl),trivial⟩) ?_))))))))))
    refine gJ Z_51 (Ht rfl) (Ht rfl) rfl (i:=2) rfl (aK rfl) rfl rfl (eZ (aB (cY (rm rfl (ro rfl (dW (Ht rfl) (cJ 1) z6) (ra rfl (eZ (gQ (k + 1) hkj zo (zS rfl) (aU (fun _ _ _ h=>h) (aU (fun _ _ _ h=>h) (aU (a8 rfl) aY)))))))))))
   ·obtain rfl : k = j := Nat.le_antisymm hk (by simp only [decide_eq_false_iff_not] at hf; omega)
    haveI f1:an (gn U (iu U n k) n q k) (bh L n + k * (bh L n + iB (bh L n) k + 2)):=ms hUf hXf hG1 hX1 k
    haveI f2:an (gm U q q) (bh L n):=hUf.get hG1 _ _
    have hb3:k * (iB (bh L n) k + bh L n + 2) = k * (bh L n + iB (bh L n) k + 2):=by rw [Nat.add_comm (iB _ _)]
    have hb2:iB (bh L n) (k + 1) = k * (iB (bh L n) k + bh L n + 2) + 4 * bh L n + 2:=rfl
    refine gK rfl (Y.D_start (m:=17) [(16,1,aE 51 5 B37 (((iu U n k).map ab).set q (ab ((gn U (iu U n k) n q k) / gm U q q))))] (Y.D_step (Ei:=[(9,_)]) rfl rfl (bQ (bJ rfl rfl) bX) rfl rfl (by kernel_rfl) (dX rfl (cX (Ht rfl))) (Y.D_step (Ei:=[(10,_)]) rfl rfl (bQ (bJ rfl rfl) bX) rfl rfl (by kernel_rfl) (dX rfl (cX (Ht rfl))) (Y.D_step (Ei:=[(11,_)]) rfl rfl (bQ (bJ rfl rfl) bX) rfl rfl (by kernel_rfl) (dX rfl (eW A_51 Z_51 (Ht rfl) (i:=2) rfl rfl rfl)) ?_))))
    refine Y.D_step (Ei:=[(77,_)]) rfl rfl (bQ (bZ 2 rfl rfl) bX) rfl rfl (by kernel_rfl) (dX rfl (ay aF (Ht rfl))) (Y.D_step (Ei:=[(0,_)]) rfl rfl (bQ (bJ rfl rfl) bX) rfl rfl (by kernel_rfl) (dX rfl (cX (Ht rfl))) (Y.D_step (Ei:=[(10,_)]) rfl rfl (bQ (bJ rfl rfl) bX) rfl rfl (by kernel_rfl) (dX rfl (cX (Ht rfl))) (Y.D_step (Ei:=[(79,_),(80,_)]) rfl rfl (bQ (bZ 4 rfl rfl) (bQ (bZ 5 rfl rfl) bX)) rfl rfl (by kernel_rfl) (dX rfl (gX U_30 Z_29 (Ht rfl) (Ht rfl) hqi zo (by rw [Nat.mul_one,Nat.zero_add]))) ?_)))
    refine Y.D_step (Ei:=[(81,_)]) rfl rfl (bQ (bZ 6 rfl rfl) bX) rfl rfl (by kernel_rfl) (dX rfl (f7 A_29 Z_29 (Ht rfl) (j:=0) rfl zo)) (Y.D_step (Ei:=[(10,_)]) rfl rfl (bQ (bJ rfl rfl) bX) rfl rfl (by kernel_rfl) (dX rfl (cX (Ht rfl))) (Y.D_step (Ei:=[(82,_),(83,_)]) rfl rfl (bQ (bZ 7 rfl rfl) (bQ (bZ 8 rfl rfl) bX)) rfl rfl (by kernel_rfl) (dX rfl (gu U_29 Z_51 (Ht rfl) (Ht rfl) hqi (j:=0) rfl zo zo zo)) ?_))
    refine Y.D_step (Ei:=[(84,_)]) rfl rfl (bQ (bZ 9 rfl rfl) bX) rfl rfl (by kernel_rfl) (dX rfl (jw A_51 Z_51 (Ht rfl) (j:=0) rfl zo zo zo)) (Y.D_step (Ei:=[(78,_),(85,_)]) rfl rfl (bQ (bZ 3 rfl rfl) (bQ (bZ 10 rfl rfl) bX)) rfl rfl (by kernel_rfl) (dX rfl (ap dO K_40 (mg (x:=(gn U (iu U n k) n q k)) (y:=gm U q q) (L:=bh L n + k * (bh L n + iB (bh L n) k + 2)) (M:=bh L n) zo) (Ht rfl) ⟨(Ht rfl),trivial⟩)) (Y.D_step (Ei:=[(86,_)]) rfl rfl (bQ (bZ 11 rfl rfl) bX) rfl rfl (by kernel_rfl) (dX rfl (cX (Ht rfl))) ?_))
    refine Y.D_step (Ei:=[(74,_)]) rfl rfl (bQ (bZ 12 rfl rfl) bX) rfl rfl (by kernel_rfl) (dX rfl (dU (Ht rfl) rfl)) (bY (Ei:=[(74,_)]) rfl rfl (bQ (bZ 12 rfl rfl) bX) rfl rfl (dX rfl (dU (Ht rfl) rfl)) (Y.D_step (Ei:=[(75,_),(76,_)]) rfl rfl (bQ (bZ 0 rfl rfl) (bQ (bZ 1 rfl rfl) bX)) rfl rfl (by kernel_rfl) (dX rfl (bi U_29 Z_51 (Ht rfl) (Ht rfl) hqi (i:=1) rfl (by rw [List.length_map]; omega) rfl)) ?_))
    refine Y.D_putI (Ei:=[(89,_),(87,_)]) 1 rfl rfl rfl (bQ (bZ 15 rfl rfl) (bQ (bZ 13 rfl rfl) bX)) (.head _) rfl (ol Z_51 (Ht rfl) (Ht rfl) (El.ag rfl) (i:=0) rfl rfl (by rw [List.length_map]; omega)) ?_
    refine Y.D_done aA rfl (by kernel_rfl) rfl (by simp [Y.okP]) rfl rfl (bU (bU (bU (bU (bU (bU (bU (bU (bU (bU (bU (bU (bU (bU (bU (bU (Y.F_putI (Y.F_nil ?_))))))))))))))))))
    refine eZ (aB (cY (rm rfl (ro rfl (cq (Ht rfl) cV (kq zo)) (ra rfl (eZ (aD [0,1] rfl (by decide) (gQ (k + 1) hjn zo (aQ rfl (aQ rfl (aQ rfl (aZ rfl (am zo) aX)))) (aU (fun _ _ _ h=>h) (aU (ar (by rw [c9,iu,← hq])) aY))))))))))
  ·obtain rfl : j = n := Nat.le_antisymm hj (CL (by have h := of_decide_eq_false hc; omega))
   refine gG (i:=1) (tt:=9) rfl rfl cg (gK rfl (ts (rm rfl (ra rfl (ro rfl (cQ (cJ 0)) (eZ (aC rfl (fJ (eY rfl) ?_) (fJ (eY rfl) ?_))))))))
   ·exact (ee (by rw [he,fC,← hU]; rfl))
   ·exact (am he.symm)
end
section
open Go Go.RowKit
abbrev ek (n k:Nat):List Qi:=(v9 n).getD k []
theorem Bn {n k:Nat} (h:k < n):(ek n k).length = n:=(lc n).row h
theorem Cg {n k L:Nat} (h:1 ≤ L):aP (ek n k) L:=(sK h).row k
def s8 (M:List (List Qi)) (n:Nat):Int:=dL (fun k=>fB M (ek n k) n) n
def CK (M:List (List Qi)) (n:Nat):List (List Qi):=tab n fun r=>tab n fun j=>gv (fC M (ek n j) n) r
theorem iJ {α:Type} {n i:Nat} {f:Nat → α} {d:α} (h:i < n):(tab n f).getD i d = f i:=by simp [List.getD,aS h]
def jA (M:List (List Qi)) (n k i:Nat):List (List Qi):=tab n fun r=>tab n fun j=>if j < k ∨ j = k ∧ r < i then gv (fC M (ek n j) n) r else gm M r j
theorem iE (M:List (List Qi)) (n k i:Nat):bM (jA M n k i) n n:=bM.tab
theorem um {M:List (List Qi)} {n:Nat} (h:bM M n n):M = jA M n 0 0:=by
 rw [jA]
 conv=>lhs; rw [jd h]
 exact ba fun r _=>ba fun j _=>by rw [if_neg zo]
theorem wT (M : List (List Qi)) (n k : Nat) : jA M n k n = jA M n (k + 1) 0 := ba fun r hr => ba fun j _ => by
 by_cases h:j < k ∨ j = k ∧ r < n
 ·rw [if_pos h,if_pos zo]
 ·rw [if_neg h,if_neg zo]
theorem xz (M:List (List Qi)) (n:Nat):jA M n n 0 = CK M n:=ba fun r _=>ba fun j hj=>by rw [if_pos zo]
theorem uk {M:List (List Qi)} {n k i:Nat} (hi:i < n) (hk:k < n):(jA M n k i).set i (((jA M n k i).getD i []).set k (gv (fC M (ek n k) n) i)) = jA M n k (i + 1):=by
 apply List.ext_getElem?
 intro r
 by_cases hr:r < n
 ·by_cases e : r = i
  ·subst e
   rw [List.getElem?_set_self (by rw [(iE _ _ _ _).1]; exact hr),jA,jA,aS (f:=fun r=>tab n fun j=>if j < k ∨ j = k ∧ r < _ + 1 then gv (fC M (ek n j) n) r else gm M r j) hr]
   congr 1
   have:(tab n fun x=>tab n fun j=>if j < k ∨ j = k ∧ x < r then gv (fC M (ek n j) n) x else gm M x j).getD r [] = tab n fun j=>if j < k ∨ j = k ∧ r < r then gv (fC M (ek n j) n) r else gm M r j:=iJ hr
   rw [this]
   apply List.ext_getElem?
   intro j
   by_cases hj:j < n
   ·by_cases e2 : j = k
    ·subst e2
     rw [List.getElem?_set_self (by rw [ao]; exact hj),aS hj,if_pos zo]
    ·rw [List.getElem?_set_ne (Ne.symm e2), aS hj, aS hj]
     by_cases e3:j < k
     ·rw [if_pos (.inl e3),if_pos (.inl e3)]
     ·rw [if_neg zo,if_neg zo]
   ·rw [List.getElem?_eq_none (by rw [List.length_set,ao]; omega),List.getElem?_eq_none (by rw [ao]; omega)]
  ·rw [List.getElem?_set_ne (Ne.symm e), jA, jA, aS hr, aS hr]
   congr 1
   refine ba fun j _=>?_
   by_cases e3:j < k ∨ j = k ∧ r < i
   ·rw [if_pos e3,if_pos zo]
   ·rw [if_neg e3,if_neg zo]
 ·rw [List.getElem?_eq_none (by rw [List.length_set,(iE _ _ _ _).1]; omega),List.getElem?_eq_none (by rw [(iE _ _ _ _).1]; omega)]
theorem zh {M:List (List Qi)} {n k:Nat} (h:∀ i,i < k → fB M (ek n i) n = 0) (hk:k < n) (hx:fB M (ek n k) n ≠ 0):s8 M n = fB M (ek n k) n:=iN h hx hk
theorem uE {M:List (List Qi)} {n:Nat} (h:∀ i,i < n → fB M (ek n i) n = 0):s8 M n = 0:=d8 h
def CF (m:Bool) (a b:List (List Qi)) (n:Nat):List (List Qi):=tab n fun i=>tab n fun j=>if m = true then gm a i j - gm b i j else gm a i j + gm b i j
theorem yZ {m:Bool} {a b:List (List Qi)} {n:Nat}:bM (CF m a b n) n n:=bM.tab
theorem yj {m : Bool} {a b : List (List Qi)} {n L M : Nat} (ha : aL a L) (hb : aL b M) (h1 : 1 ≤ L) (h2 : 1 ≤ M) : aL (CF m a b n) (L + M + 1) := aL.tab fun i j _ _ => by
 haveI:=ha.get h1 i j; haveI:=hb.get h2 i j
 split
 ·infer_instance
 ·infer_instance
theorem x6 {T : Ty} {s : Nat} : ∀ vs V, cr [T, Is (.slice none 0 0)] vs V → cr [T, dP s []] vs V
 | [_,_],_,⟨h1,h2,h3⟩=>⟨h1,dc _ _ h2,h3⟩
 | [],_,h=>h.elim
 | [_],_,h=>h.2.elim
 | _ :: _ :: _ :: _,_,h=>h.2.2.elim
theorem dy.arg {P : Program} {f : FuncId} {Ts Ts' : List Ty} {As : Hp} {γ : Type} {U : γ → Ty} {As' : γ → Hp} {Q : γ → Prop} (h : dy P f Ts As γ U As' Q) (i : ∀ vs V, cr Ts' vs V → cr Ts vs V) : dy P f Ts' As γ U As' Q :=
 fun cx Z vs V w h1 h2=>h cx Z vs V w h1 (i _ _ h2)
end
section
open Go Go.RowKit
theorem ur {M:List (List Qi)} {n m:Nat} (hM:bM M n m) (hn:n ≤ 1000) (hm:m ≤ 1000):dy Tryz.prog 193 [bp M,Is (.slice none 0 0)] [] Nat (fun B=>Is (.slice (some ⟨B,0,none⟩) n n)) (fun B=>[gt B 29 51 5 (bq ab M)]) (fun _=>True):=by
 have h:=oo (M:=M) (bs:=[]) hM (fun b hb=>by cases hb) hn hm (by simp)
 rw [uw hM] at h
 exact h.arg x6
theorem DD {M:List (List Qi)} {n L:Nat} (hM:bM M n n) (hf:aL M L) (hL:1 ≤ L) (h1:1 ≤ n) (hn:n ≤ 32) (hg:6 * bh L n + 4 ≤ 17592186044415) (hx:iB (bh L n) (n + 1) ≤ 17592186044415):aw Tryz.prog 248 [bp M] (bo [bp (cL (s8 M n) (CK M n)),aa .i64 (s8 M n)]):=by
 have hMl:=hM.1
 refine aw.intro Tryz.func248 rfl Tryz.ntmps248 rfl (fun cx=>(ts (ro rfl (cQ cV) (ro rfl (cQ (cJ 0)) (eZ (cK (ts (rm rfl (ro rfl (cZ Tryz.call174 (ry hM h1 hn) ⟨(Ht rfl),trivial⟩) (ro rfl (bD (Ht rfl)) (eZ (cb (Ht rfl) (by rfl) ?_))))))))))))
 refine cU (ts (rm rfl (gD Tryz.call193 (ur hM zo zo) ⟨(Ht rfl),cV,trivial⟩ rfl (fun B14 _=>(ra rfl (eZ (cK (ts (rm rfl (ro rfl (dK U_30 (Ht rfl) (by rw [List.length_map,hMl])) ?_))))))))))
 refine ro rfl (cZ Tryz.call94 (Da (n:=n) hn) ⟨(Ht rfl),trivial⟩) (ro rfl (dK U_30 (Ht rfl) a7) (ro rfl (cX (cJ 0)) (eZ (eK ?_))))
 refine b8 (fun (k : Nat) => k ≤ n ∧ ∀ i, i < k → fB M (ek n i) n = 0) (fun (k : Nat) => n - k) (fun (k : Nat) => [(0, bp M), (4, Is (.slice (some ⟨B14, 0, none⟩) n n)), (17, bp (v9 n)), (18, NT .i64 n), (19, NT .i64 k)]) (fun (k : Nat) => [gt B14 29 51 5 (bq ab (jA M n k 0))]) 0 ⟨Nat.zero_le _, fun i h => by omega⟩
  (aQ rfl (aQ rfl (aQ rfl (aZ rfl (fe (lc n).1) (zS rfl))))) (aU (bO (congrArg _ (um hM))) aY) (fun k ⟨hk,h0⟩=>?_)
 refine ts (ro rfl (gV (Ht rfl) (Ht rfl)) (eZ (cK (dQ (Ht rfl) (fun hd0=>?_) (fun hd0=>?_)))))
 ·simp only [decide_eq_true_eq] at hd0
  have hel:=Bn hd0
  refine cU (cK (eK (ts (rm rfl (ro rfl (dZ U_30 Z_29 (Ht rfl) (Ht rfl) rfl (eQ (dY (d:=[]) (by rw [(lc n).1]; exact hd0)))) ?_)))))
  refine ro rfl (dV A_29 Z_29 (Ht rfl)) (ra rfl (ra rfl (eZ (ts (rm rfl (rm rfl (ro rfl (cZ Tryz.call96 (tF (M:=M) (b:=ek n k) (n:=n) (L:=L) hM hel hf (Cg hL) hL h1 hn hg hx) ⟨(Ht rfl),(Ht rfl),trivial⟩) (rm rfl (ro rfl (dU (Ht rfl) rfl) (ro rfl (dU (Ht rfl) rfl) (ra rfl (ra rfl (eZ (cK (ts (rm rfl (ro rfl (bT (Ht rfl) cV) (eZ (dQ (Ht rfl) (fun he=>?_) (fun he=>?_))))))))))))))))))))
  ·have he2 : ¬ fB M (ek n k) n = 0 := by simpa using he
   have hi:=zh h0 hd0 he2
   refine ts (rm rfl (ro rfl (cQ cV) (ra rfl (eZ (aC rfl (fJ (eY rfl) ?_) (fJ (eY rfl) ?_))))))
   ·exact (fun v V h=>by rw [hi,cL,if_neg he2]; exact dc v V h)
   ·exact (am hi.symm)
  ·have he2 : fB M (ek n k) n = 0 := by simpa using he
   have hxl:(fC M (ek n k) n).length = n:=kY _ _ _
   refine nf (E':=[(0,_),(4,_),(5,_),(7,_),(17,_),(18,_),(19,_)]) (aQ rfl (aQ rfl (aQ rfl (aZ rfl (ee (Us:=(fC M (ek n k) n).map ab) (by rw [he2]; rfl)) (zS rfl))))) ?_
   refine cU (ts (rm rfl (ro rfl (dK U_29 (Ht rfl) a7) (ro rfl (cX (cJ 0)) (eZ (eK ?_))))))
   refine b8 (fun (i : Nat) => i ≤ n) (fun (i : Nat) => n - i) (fun (i : Nat) => [(0, bp M), (4, Is (.slice (some ⟨B14, 0, none⟩) n n)), (5, NT .i64 k), (7, av (fC M (ek n k) n)), (17, bp (v9 n)), (18, NT .i64 n), (19, NT .i64 k), (34, NT .i64 n), (35, NT .i64 i)]) (fun (i : Nat) => [gt B14 29 51 5 (bq ab (jA M n k i))]) 0 (Nat.zero_le _)
    (aQ rfl (aQ rfl (aQ rfl (aQ rfl (aQ rfl (aQ rfl (aQ rfl (aZ rfl (fe hxl) (zS rfl))))))))) (br.refl _) (fun i hi=>?_)
   refine ts (ro rfl (gV (Ht rfl) (Ht rfl)) (eZ (cK (dQ (Ht rfl) (fun hf2=>?_) (fun hf2=>?_)))))
   ·simp only [decide_eq_true_eq] at hf2
    have hpl:=(iE M n k i).1
    have hpr:((jA M n k i).getD i []).length = n:=(iE M n k i).row hf2
    refine ip 0 (i) rfl (gc zo) (fun v=>(cU (cK (eK (ts (rm rfl (ra rfl (eZ (fV (m:=9) (dp 4 rfl (cX (Ht rfl)) (dp 9 rfl (cX (Ht rfl)) (bv 38 0 39 1 rfl (gX U_30 Z_29 (Ht rfl) (Ht rfl) rfl zo (by rw [Nat.mul_one,Nat.zero_add])) ?_))))))))))))
    refine dq 40 2 rfl (fO A_29 Z_29 (Ht rfl) (j:=0) rfl) (dp 5 rfl (cX (Ht rfl)) (dp 7 rfl (cX (Ht rfl)) (dp 9 rfl (cX (Ht rfl)) (bv 43 5 44 6 rfl (dZ U_29 Z_51 (Ht rfl) (Ht rfl) rfl (eQ (dY (d:=Qi.zero) zo))) (dq 45 7 rfl (dV A_51 Z_51 (Ht rfl)) (fG aA rfl (by kernel_rfl) (zF (zF (aJ (aV (ro rfl (bi U_29 Z_51 (Ht rfl) (Ht rfl) rfl (i:=1) rfl (by rw [List.length_map]; omega) rfl) ?_)))))))))))
    refine eL Z_51 (Ht rfl) (Ht rfl) (El.ag rfl) (i:=1) rfl rfl (by rw [List.length_map]; omega) rfl ?_
    refine eZ (aB (eH 0 1 rfl rfl (by decide) (by simp only [bq,List.length_map]; omega) ?_))
    refine cY (ro rfl (dW (Ht rfl) (cJ 1) z6) (rm rfl (eZ (aD [0] rfl (by decide) (gQ (i + 1) hf2 zo (zS rfl) (aU (bO (by rw [c9,eN,uk hf2 hd0])) aY))))))
   ·simp only [decide_eq_false_iff_not] at hf2
    obtain rfl:n = i:=Nat.le_antisymm zo hi
    refine gK rfl (aB (cY (ro rfl (dW (Ht rfl) (cJ 1) z6) (rm rfl (eZ ?_)))))
    refine gQ (k + 1) ⟨hd0, fun j h => by
     by_cases e:j = k
     ·rw [e]; exact he2
     ·exact h0 j zo⟩ zo (zS rfl) (aU (bO (by rw [wT])) aY)
 ·simp only [decide_eq_false_iff_not] at hd0
  obtain rfl:n = k:=Nat.le_antisymm zo hk
  have hi:=uE h0
  refine gG (i:=0) (tt:=4) rfl rfl (jx (s:=5) (M:=jA M n n 0) (iE M n n 0).1.symm) (gK rfl (ts (rm rfl (ra rfl (ro rfl (cQ (cJ 0)) (eZ (aC rfl (fJ (eY rfl) ?_) (fJ (eY rfl) ?_))))))))
  ·exact (ee (by rw [hi,xz]; rfl))
  ·exact (am hi.symm)
theorem C5 {m:Bool} {a b:List (List Qi)} {n i j L M:Nat} (ha:bM a n n) (hb:bM b n n) (hfa:aL a L) (hfb:aL b M) (h1:1 ≤ L) (h2:1 ≤ M) (hg:L + M + 1 ≤ 17592186044415) (hi:i < n) (hj:j < n):aw Tryz.prog 252 [NT .i64 i,NT .i64 j,PT (a9 m),PT (bp a),PT (bp b)] (ab (if m = true then gm a i j - gm b i j else gm a i j + gm b i j)):=by
 have hal:=ha.1
 have hbl:=hb.1
 have har:=ha.row hi
 have hbr:=hb.row hi
 haveI f1:an (gm a i j) L:=hfa.get h1 i j
 haveI f2:an (gm b i j) M:=hfb.get h2 i j
 refine aw.intro Tryz.func252 rfl Tryz.ntmps252 rfl (fun cx=>(ts (rn rfl (eG (Ts:=[Is (.bool false),Is (.slice none 0 0),Is (.bool false),Is (.slice none 0 0),Is (.slice none 0 0)]) O_51 rfl (fun V=>aW zd (aW zd (aW zd (aW zd (aW zd (aG))))))) fun B7=>(eZ (cK (ts (ro rfl (dV A_4 Z_4 (Ht rfl)) (eZ (dQ (Ht rfl) (fun hm=>?_) (fun hm=>?_))))))))))
 ·refine cK (fV (m := 15) (dp 3 rfl (dV A_30 Z_30 (Ht rfl)) (dp 0 rfl (cX (Ht rfl)) (bv 9 0 10 1 rfl (dZ U_30 Z_29 (Ht rfl) (Ht rfl) rfl (eQ (dY (d := []) zo))) (dq 11 2 rfl (dV A_29 Z_29 (Ht rfl)) (dp 1 rfl (cX (Ht rfl)) (bv 12 3 13 4 rfl (dZ U_29 Z_51 (Ht rfl) (Ht rfl) rfl (eQ (dY (d := Qi.zero) zo))) (dq 14 5 rfl (dV A_51 Z_51 (Ht rfl)) (dq 15 6 rfl (ay aF (Ht rfl)) (dp 4 rfl (dV A_30 Z_30 (Ht rfl)) ?_))))))))))
  refine dp 0 rfl (cX (Ht rfl)) (bv 17 8 18 9 rfl (dZ U_30 Z_29 (Ht rfl) (Ht rfl) rfl (eQ (dY (d:=[]) zo))) (dq 19 10 rfl (dV A_29 Z_29 (Ht rfl)) (dp 1 rfl (cX (Ht rfl)) (bv 20 11 21 12 rfl (dZ U_29 Z_51 (Ht rfl) (Ht rfl) rfl (eQ (dY (d:=Qi.zero) zo))) (dq 22 13 rfl (dV A_51 Z_51 (Ht rfl)) (fG aA rfl (by kernel_rfl) (zF (zF (zF (aJ (aJ (aJ (aV ?_)))))))))))))
  refine ro rfl (ap dv K_44 (kZ (x:=gm a i j) (y:=gm b i j) (L:=L) (M:=M) hg) (Ht rfl) ⟨(Ht rfl),trivial⟩) (gJ Z_51 (Ht rfl) (Ht rfl) rfl (i:=0) rfl (aK rfl) rfl rfl (eZ (fK rfl (fJ (fY A_51 Z_51 rfl (i:=0) rfl rfl) ?_))))
  exact (cv (by rw [if_pos hm]))
 ·refine cU (cK (fV (m := 15) (dp 3 rfl (dV A_30 Z_30 (Ht rfl)) (dp 0 rfl (cX (Ht rfl)) (bv 25 0 26 1 rfl (dZ U_30 Z_29 (Ht rfl) (Ht rfl) rfl (eQ (dY (d := []) zo))) (dq 27 2 rfl (dV A_29 Z_29 (Ht rfl)) (dp 1 rfl (cX (Ht rfl)) (bv 28 3 29 4 rfl (dZ U_29 Z_51 (Ht rfl) (Ht rfl) rfl (eQ (dY (d := Qi.zero) zo))) (dq 30 5 rfl (dV A_51 Z_51 (Ht rfl)) (dq 31 6 rfl (ay aF (Ht rfl)) (dp 4 rfl (dV A_30 Z_30 (Ht rfl)) ?_)))))))))))
  refine dp 0 rfl (cX (Ht rfl)) (bv 33 8 34 9 rfl (dZ U_30 Z_29 (Ht rfl) (Ht rfl) rfl (eQ (dY (d:=[]) zo))) (dq 35 10 rfl (dV A_29 Z_29 (Ht rfl)) (dp 1 rfl (cX (Ht rfl)) (bv 36 11 37 12 rfl (dZ U_29 Z_51 (Ht rfl) (Ht rfl) rfl (eQ (dY (d:=Qi.zero) zo))) (dq 38 13 rfl (dV A_51 Z_51 (Ht rfl)) (fG aA rfl (by kernel_rfl) (zF (zF (zF (aJ (aJ (aJ (aV ?_)))))))))))))
  refine ro rfl (ap fd K_46 (n8 (x:=gm a i j) (y:=gm b i j) (L:=L) (M:=M) hg) (Ht rfl) ⟨(Ht rfl),trivial⟩) (gJ Z_51 (Ht rfl) (Ht rfl) rfl (i:=0) rfl (aK rfl) rfl rfl (eZ (fK rfl (fJ (fY A_51 Z_51 rfl (i:=0) rfl rfl) ?_))))
  exact (cv (by rw [if_neg (by rw [hm]; decide)]))
theorem Ap {m:Bool} {a b:List (List Qi)} {n L M:Nat} (ha:bM a n n) (hb:bM b n n) (hfa:aL a L) (hfb:aL b M) (h1:1 ≤ L) (h2:1 ≤ M) (hg:L + M + 1 ≤ 17592186044415) (hn:n ≤ 1000):aw Tryz.prog 207 [bp a,bp b,a9 m] (bp (CF m a b n)):=by
 have hal:=ha.1
 refine aw.intro Tryz.func207 rfl Tryz.ntmps207 rfl (fun cx=>(ts (rn rfl (iQ (Ht rfl)) fun B3=>(rn rfl (iQ (Ht rfl)) fun B4=>(rn rfl (iQ (Ht rfl)) fun B5=>(ro rfl (cQ cV) (eZ (cK (gG (i:=0) (tt:=3) rfl rfl cC (gG (i:=1) (tt:=4) rfl rfl cC (gG (i:=2) (tt:=5) rfl rfl cC (cY (ro rfl (dV A_30 Z_30 (Ht rfl)) (ro rfl (dK U_30 (Ht rfl) (by rw [List.length_map,hal])) ?_))))))))))))))
 refine ro rfl (fm (γ:=Fin n × Fin n) (Ts:=fun x=>[NT .i64 x.1.1,NT .i64 x.2.1]) (U:=fun x=>ab (if m = true then gm a x.1.1 x.2.1 - gm b x.1.1 x.2.1 else gm a x.1.1 x.2.1 + gm b x.1.1 x.2.1)) Tryz.call252 (fun x=>C5 ha hb hfa hfb h1 h2 hg x.1.2 x.2.2) ⟨(Ht rfl),(Ht rfl),(Ht rfl),trivial⟩) (ro rfl (cZ K_114 (mY (n:=n) (f:=fun i j=>if m = true then gm a i j - gm b i j else gm a i j + gm b i j) hn) ⟨(Ht rfl),(Ht rfl),trivial⟩) (ra rfl (eZ ?_)))
 exact fK rfl (eY rfl)
theorem zq {Y M:List (List Qi)} {n L:Nat} (hM:bM M n n) (hf:aL M L) (hL:1 ≤ L) (h1:1 ≤ n) (hn:n ≤ 32) (hg:6 * bh L n + 4 ≤ 17592186044415) (hx:iB (bh L n) (n + 1) ≤ 17592186044415) (hE:s8 M n ≠ 0):aw Tryz.prog 186 [bp Y,bp M] (bo [bp [],aa .i64 5]):=by
 refine aw.intro Tryz.func186 rfl Tryz.ntmps186 rfl (fun cx=>(ts (ro rfl (cQ cV) (ro rfl (cQ (cJ 0)) (eZ (ts (rm rfl (ro rfl (cZ Tryz.call248 (DD hM hf hL h1 hn hg hx) ⟨(Ht rfl),trivial⟩) (rm rfl (ro rfl (dU (Ht rfl) rfl) (ro rfl (dU (Ht rfl) rfl) (ra rfl (ra rfl (eZ (cK (ts (rm rfl (ro rfl (bT (Ht rfl) cV) (eZ (gN (Ht rfl) (by simp [hE]) ?_))))))))))))))))))))
 refine ts (ro rfl (cQ cV) (ro rfl (cQ (cJ 5)) (eZ (aC rfl (fJ (eY rfl) ?_) (eY rfl)))))
 exact (fun v V h=>dc v V h)
theorem BC {z:List Qi} {s:List (List Qi)} {L:Nat} (hs:bM s z.length z.length) (hf:aL s L) (hL:1 ≤ L) (h1:1 ≤ z.length) (hn:z.length ≤ 8) (hg:6 * bh (L + 2) z.length + 4 ≤ 17592186044415) (hx:iB (bh (L + 2) z.length) (z.length + 1) ≤ 17592186044415) (hE:s8 (CF true (v9 z.length) s z.length) z.length ≠ 0):aw Tryz.prog 124 [aM z s] (bo [bp [],aa .i64 5]):=by
 have hgl:=jZ (L + 2) z.length
 have hid:=lc z.length
 have hif:aL (v9 z.length) 1:=sK (Nat.le_refl 1)
 have hpf:aL (CF true (v9 z.length) s z.length) (L + 2):=by have h:=yj (m:=true) (n:=z.length) hif hf (Nat.le_refl 1) hL; rw [show L + 2 = 1 + L + 1 by omega]; exact h
 refine aw.intro Tryz.func124 rfl Tryz.ntmps124 rfl (fun cx=>(ts (rn rfl (fU (Ht rfl)) fun B1=>(ro rfl (cQ cV) (ro rfl (cQ (cJ 0)) (eZ (ts (ro rfl (eJ bH (Ht rfl) rfl) (ro rfl (fQ A_29 Z_29 (Ht rfl) (i:=0) rfl rfl) (ro rfl (dK U_29 (Ht rfl) a7) (ro rfl (cZ Tryz.call94 (Da (n:=z.length) zo) ⟨(Ht rfl),trivial⟩) (ra rfl (eZ (cK (fV (m:=13) (dp 4 rfl (cX (Ht rfl)) (dp 1 rfl (eJ bn (Ht rfl) rfl) (dq 13 1 rfl (fQ A_30 Z_30 (Ht rfl) (i:=0) rfl rfl) ?_))))))))))))))))))
 refine bv 12 0 14 2 rfl (cZ Tryz.call207 (Ap (m:=false) (n:=z.length) (L:=1) (M:=L) hid hs hif hf (Nat.le_refl 1) hL zo zo) ⟨(Ht rfl),(Ht rfl),cV,trivial⟩) (dp 4 rfl (cX (Ht rfl)) (dp 1 rfl (eJ bn (Ht rfl) rfl) (dq 17 5 rfl (fQ A_30 Z_30 (Ht rfl) (i:=0) rfl rfl) (bv 16 4 18 6 rfl (cZ Tryz.call207 (Ap (m:=true) (n:=z.length) (L:=1) (M:=L) hid hs hif hf (Nat.le_refl 1) hL zo zo) ⟨(Ht rfl),(Ht rfl),cV,trivial⟩) (bv 15 3 19 7 rfl (cZ Tryz.call186 (zq (n:=z.length) (L:=L + 2) yZ hpf zo h1 zo hg hx hE) ⟨(Ht rfl),(Ht rfl),trivial⟩) ?_)))))
 refine dq 20 8 rfl (cX (Ht rfl)) (dq 11 9 rfl (dU (Ht rfl) rfl) (dq 11 9 rfl (dU (Ht rfl) rfl) (dq 21 10 rfl (cQ (Ht rfl)) (fG aA rfl (by kernel_rfl) (zF (zF (zF (aJ (aV (ra rfl (eZ (cK (ts (rm rfl (ro rfl (bT (Ht rfl) cV) (eZ (gN (Ht rfl) (by rfl) ?_)))))))))))))))))
 refine ts (rm rfl (ro rfl (cQ cV) (ra rfl (eZ (aC rfl (fJ (eY rfl) ?_) (eY rfl))))))
 exact (fun v V h=>dc v V h)
end
section
open Go Go.RowKit
section
variable {P:Program} {R:cO} {cx:Cx} {n:Nat} {k:List It} {E:aT} {H:Hp}
theorem ky (i l off : Nat) {B : Nat} {BT : TypeId} {Us : List Ty} {v : Value} {A : SA} {T : Ty} (hB : H[i]? = some (box B BT Us)) (hU : Us[off]? = some (Is v)) (hL : H[l]? = some A) (hne : i ≠ l) (hT : ∀ S V, A.h S V V → T.p v V)
  (h:Tr P R cx n k E ((H.set l SA.emp).set i (box B BT (Us.set off T)))):Tr P R cx n k E H:=fun a w ⟨V,hi,hs⟩=>by
 obtain ⟨V',S,hle,hi',hA⟩:=hi.freeze hL
 have hT:=hT S V' hA
 refine h a w ⟨V',hi'.withHH ?_,hs.mono hle⟩
 obtain ⟨F,h1,h2⟩:=hi'.hp
 have hB':(H.set l SA.emp)[i]? = some (box B BT Us):=by rw [List.getElem?_set_ne (Ne.symm hne)]; exact hB
 have hil:=(List.getElem?_eq_some_iff.1 hB').1
 refine ⟨F,fun q A hq=>?_,fun q r b hq hr=>h2 q r b (by simpa using hq) (by simpa using hr)⟩
 by_cases c:i = q
 ·subst c
  rw [List.getElem?_set_self hil] at hq
  obtain rfl:=Option.some.inj hq
  obtain ⟨⟨k1,cs,k2,k3⟩,k4⟩:=h1 i _ hB'
  obtain ⟨u,u1,u2⟩:=k3.get hU
  obtain rfl:u = v:=u2
  have hset : cs.set off u = cs := by
   apply List.ext_getElem?
   intro j
   by_cases cj:off = j
   ·subst cj; rw [List.getElem?_set_self (List.getElem?_eq_some_iff.1 u1).1,u1]
   ·rw [List.getElem?_set_ne cj]
  refine ⟨⟨k1,cs,k2,?_⟩,k4⟩
  have:=k3.set off (v:=u) hT (k3.pl u (List.mem_of_getElem? u1))
  rwa [hset] at this
 ·rw [List.getElem?_set_ne c] at hq
  exact h1 q A hq
theorem BN {B e l : Nat} {BT : TypeId} {F : Qi → Ty} {q : Value → Prop} {M : List (List Qi)} (hl : l = M.length) : ∀ S V, (ke q B BT e 5 (bq F M)).h S V V → (dP 1 (M.map fun r => dP 5 (r.map F))).p (.slice (some ⟨B, 0, none⟩) l l) V := fun S V h =>
 jx (s:=5) (M:=M) hl _ S V rfl h
end
def fN (p i:Nat):Nat:=if i < p then i else i + 1
abbrev cD (l:List Nat):Ty:=dP 1 (l.map (NT .i64))
def mN (p n:Nat):List Nat:=tab n fun j=>fN p j + 1
def uR (p i:Nat):Nat:=if i ≤ p then i else i - 1
theorem tl {p n:Nat} (h:p < n):uR p n = n - 1:=by unfold uR; split <;> omega
theorem sn {p i n:Nat} (h:i < n - 1) (hp:p < n):fN p i < n:=by unfold fN; split <;> omega
theorem tk {p n j:Nat} (h:j < n):(mN p n)[j]? = some (fN p j + 1):=aS h
def uG (z:List Qi) (p m:Nat):List Qi:=tab m fun i=>gv z (fN p i)
def DJ (s:List (List Qi)) (p m:Nat):List (List Qi):=tab m fun i=>tab m fun j=>gm s (fN p i) (fN p j)
def rP (s:List (List Qi)) (p:Nat) (f:Qi) (i j:Nat):Qi:=gm s (fN p i) (fN p j) + gm s (fN p i) p * (f * gm s p (fN p j))
def C7 (s:List (List Qi)) (p m:Nat) (f:Qi):List (List Qi):=tab m fun i=>tab m fun j=>rP s p f i j
def fk (s:List (List Qi)) (p:Nat) (g:Qi):Qi:=g / (Qi.ofInt 1 - gm s p p * g)
def jh (z : List Qi) (s : List (List Qi)) (port : Int) (g : Qi) : Int :=
 if ¬ (1 ≤ port ∧ port ≤ z.length) then 1 else if z.length = 1 then 4 else if Qi.ofInt 1 - gm s (port - 1).toNat (port - 1).toNat * g = Qi.zero then 6 else 0
def nI (z:List Qi) (s:List (List Qi)) (port:Int) (g:Qi):List Qi:=cL (jh z s port g) (uG z (port - 1).toNat (z.length - 1))
def mP (z:List Qi) (s:List (List Qi)) (port:Int) (g:Qi):List (List Qi):=cL (jh z s port g) (C7 s (port - 1).toNat (z.length - 1) (fk s (port - 1).toNat g))
theorem oZ {z:List Qi} {s:List (List Qi)} {port:Int} {g:Qi} {e:Int} (h:jh z s port g = e) (he:e ≠ 0):∀ v V,(aM [] []).p v V → (aM (nI z s port g) (mP z s port g)).p v V:=by
 rw [nI,mP,cL,cL,h,if_neg he,if_neg he]; exact fun _ _ k=>k
theorem Am (p:Nat):((p:Int) + 1 - 1).toNat = p:=by omega
theorem xl {z:List Qi} {s:List (List Qi)} {p:Nat} {g:Qi} (h:jh z s ((p:Int) + 1) g = 0):∀ v V,(aM (uG z p (z.length - 1)) (C7 s p (z.length - 1) (fk s p g))).p v V → (aM (nI z s ((p:Int) + 1) g) (mP z s ((p:Int) + 1) g)).p v V:=by
 rw [nI,mP,cL,cL,h,if_pos rfl,if_pos rfl,Am]; exact fun _ _ k=>k
theorem Bx {z:List Qi} {s:List (List Qi)} {port:Int} {g:Qi} (h:¬ (1 ≤ port ∧ port ≤ z.length)):jh z s port g = 1:=by rw [jh,if_pos h]
theorem Cz {z:List Qi} {s:List (List Qi)} {port:Int} {g:Qi} (h:1 ≤ port ∧ port ≤ z.length) (h1:z.length = 1):jh z s port g = 4:=by rw [jh,if_neg (fun k=>k h),if_pos h1]
theorem Cj {z:List Qi} {s:List (List Qi)} {p:Nat} {g:Qi} (h:p < z.length) (h1:¬ z.length = 1):jh z s ((p:Int) + 1) g = if Qi.ofInt 1 - gm s p p * g = Qi.zero then 6 else 0:=by
 rw [jh,if_neg (fun k=>k zo),if_neg h1,Am]
theorem wC {s:List (List Qi)} {p L:Nat} {g:Qi} (hs:aL s L) (hg:an g L) (hL:1 ≤ L) (hd:Qi.ofInt 1 - gm s p p * g ≠ Qi.zero):an (fk s p g) (7 * L + 11):=by
 haveI f0:=gr
 haveI f1:=hs.get hL p p
 haveI f2:=hg
 have f3:an (Qi.ofInt 1 - gm s p p * g) (1 + (L + L + 1) + 1):=@fitSub _ _ _ _ f0 inferInstance
 have:an (fk s p g) (L + 3 * (1 + (L + L + 1) + 1) + 2):=⟨f2.fit.div f3.fit hd⟩
 exact this.le zo
end
section
open Go Go.RowKit
abbrev AP (G:List Nat):List Int:=G.map fun (q:Nat)=>(q:Int) + 1
def gx (G : List Nat) : Nat → List Nat
 | 0=>[]
 | k + 1=>gx G k ++ (if k ∈ G then [] else [k])
theorem mu (G : List Nat) : ∀ k, (gx G k).length ≤ k
 | 0=>Nat.le_refl _
 | k + 1 => by
  have:=mu G k
  simp only [gx,List.length_append]
  split
  ·simp; omega
  ·simp; omega
theorem pw {G : List Nat} : ∀ {k x : Nat}, x ∈ gx G k → x < k
 | 0,x,h=>by cases h
 | k + 1, x, h => by
  rcases List.mem_append.1 h with h1 | h1
  ·have:=pw h1; omega
  ·split at h1
   ·cases h1
   ·have:=List.mem_singleton.1 h1; omega
theorem pk {p : Nat} : ∀ {k : Nat}, gx [p] k = tab (uR p k) (fN p)
 | 0=>by rw [gx,show uR p 0 = 0 by unfold uR; split <;> omega]; rfl
 | k + 1 => by
  rw [gx,pk]
  by_cases c:k = p
  ·subst c
   rw [if_pos (by simp),List.append_nil,show uR k (k + 1) = uR k k by unfold uR; split <;> split <;> omega]
  ·rw [if_neg (by simpa using c)]
   have e1:fN p (uR p k) = k:=by unfold fN uR; split <;> split <;> omega
   have e2:uR p (k + 1) = uR p k + 1:=by unfold uR; split <;> split <;> omega
   rw [e2,e9,e1]
theorem yI {p n:Nat} (h:p < n):(gx [p] n).map Nat.succ = mN p (n - 1):=by rw [pk,tl h,g5]; rfl
theorem xn {G:List Nat} {i:Nat}:((AP G).any fun x=>decide (((i + 1:Nat):Int) = x)) = decide (i ∈ G):=by
 rw [Bool.eq_iff_iff]
 simp only [AP,List.any_map,List.any_eq_true,Function.comp,decide_eq_true_eq]
 constructor
 ·rintro ⟨q, h1, h2⟩
  obtain rfl:i = q:=by omega
  exact h1
 ·intro h; exact ⟨i,h,by omega⟩
abbrev c4 (Q:List Nat) (i:Nat):Nat:=Q.getD i 0
def gz (z:List Qi) (Q:List Nat):List Qi:=tab Q.length fun i=>gv z (c4 Q i)
def kI (s:List (List Qi)) (Q:List Nat):List (List Qi):=tab Q.length fun i=>tab Q.length fun j=>gm s (c4 Q i) (c4 Q j)
theorem oR {Q:List Nat} {n i:Nat} (h:∀ x,x ∈ Q → x < n) (hi:i < Q.length):c4 Q i < n:=h _ (by rw [show c4 Q i = Q[i] by simp [c4,List.getD,hi]]; exact List.getElem_mem hi)
theorem gM {Q:List Nat} {i:Nat} (h:i < Q.length):(Q.map Nat.succ)[i]? = some (c4 Q i + 1):=by simp [c4,List.getD,h]
theorem mV {m i:Nat} {p:Nat} (h:i < m):c4 (tab m (fN p)) i = fN p i:=iJ h
theorem w5 (z:List Qi) (p m:Nat):gz z (tab m (fN p)) = uG z p m:=by
 rw [gz,ao]; exact ba fun i hi=>by rw [mV hi]
theorem xm (s:List (List Qi)) (p m:Nat):kI s (tab m (fN p)) = DJ s p m:=by
 rw [kI,ao]; exact ba fun i hi=>ba fun j hj=>by rw [mV hi,mV hj]
theorem yo {p m n : Nat} (hp : p < n) (hm : m = n - 1) : ∀ x, x ∈ tab m (fN p) → x < n := fun x hx => by
 obtain ⟨i,hi,rfl⟩:=dt.1 hx; exact sn zo hp
theorem zR (p m:Nat):(tab m (fN p)).map Nat.succ = mN p m:=by rw [g5]; rfl
end
section
open Go Go.RowKit
theorem nm:Tryz.prog.info? 3 = some Tryz.t3:=by kernel_rfl
theorem nE:Tryz.prog.underlying 72 = some (.slice 3):=by kernel_rfl
end
section
open Go Go.RowKit
theorem sy {l:List Int} {v:Int} (hl:l.length ≤ 1000000):aw Tryz.prog 192 [dP 1 (l.map (aa .i64)),aa .i64 v] (aa .i64 (oQ (fun x=>decide (v = x)) l)):=by
 refine aw.intro Tryz.func192 rfl Tryz.ntmps192 rfl (fun cx=>(ts (ro rfl (cQ (cJ 0)) (eZ (cK (ts (rm rfl (ro rfl (dK U_72 (Ht rfl) a7) (ro rfl (cX (cJ 0)) (eZ (eK ?_)))))))))))
 refine b8 (fun (k : Nat) => k ≤ l.length ∧ ∀ (i : Nat) (x : Int), i < k → l[i]? = some x → decide (v = x) = false) (fun (k : Nat) => l.length - k) (fun (k : Nat) => [(0, dP 1 (l.map (aa .i64))), (1, aa .i64 v), (7, NT .i64 l.length), (8, NT .i64 k)]) (fun (k : Nat) => []) 0 ⟨Nat.zero_le _, fun i x h => by omega⟩
  (zS rfl) aY (fun k ⟨hk,hn⟩=>?_)
 refine ts (ro rfl (gV (Ht rfl) (Ht rfl)) (eZ (cK (dQ (Ht rfl) (fun hb=>?_) (fun hb=>?_)))))
 ·simp only [decide_eq_true_eq] at hb
  refine cU (cK (eK (ts (rm rfl (ra rfl (eZ (ts (rm rfl (rm rfl (rm rfl (ro rfl (dZ U_72 Z_3 (Ht rfl) (Ht rfl) rfl (eQ (ji hb))) (ro rfl (dV A_3 Z_3 (Ht rfl)) (ro rfl (di (Ht rfl) (Ht rfl)) (eZ (dQ (Ht rfl) (fun hc=>?_) (fun hc=>?_))))))))))))))))
  ·refine ts (rm rfl (ra rfl (eZ (fK rfl (fJ (eY rfl) ?_)))))
   exact (am (p5 (p:=fun x=>decide (v = x)) (ji hb) hc hn).symm)
  ·refine cU (aB (cY (ro rfl (dW (Ht rfl) (cJ 1) z6) (rm rfl (eZ ?_)))))
   refine gQ (k + 1) ⟨hb, fun i x h1 h2 => by
    by_cases e:i = k
    ·subst e; rw [ji hb] at h2; obtain rfl:=Option.some.inj h2; exact hc
    ·exact hn i x zo h2⟩ zo (zS rfl) aY
 ·simp only [decide_eq_false_iff_not] at hb
  refine gK rfl (ts (ro rfl (cQ cV) (eZ (fK rfl (fJ (eY rfl) ?_)))))
  exact (am (m0 (p:=fun x=>decide (v = x)) (fun i x h=>hn i x (by have:=(List.getElem?_eq_some_iff.1 h).1; omega) h)).symm)
theorem kg {l:List Int} {v:Int} (hl:l.length ≤ 1000000):aw Tryz.prog 95 [dP 1 (l.map (aa .i64)),aa .i64 v] (a9 (l.any fun x=>decide (v = x))):=by
 refine aw.intro Tryz.func95 rfl Tryz.ntmps95 rfl (fun cx=>(ts (ro rfl (cQ cV) (eZ (ts (rm rfl (rm rfl (ro rfl (cZ Tryz.call192 (sy zo) ⟨(Ht rfl),(Ht rfl),trivial⟩) (ro rfl (fu (Ht rfl) cV) (ra rfl (eZ (fK rfl (fJ (eY rfl) ?_)))))))))))))
 exact (bL (nC _ l))
theorem pS {z:List Qi} {s:List (List Qi)} {G:List Nat} (hl:z.length ≤ 1000) (hG:G.length ≤ 1000):aw Tryz.prog 121 [aM z s,dP 1 ((AP G).map (aa .i64))] (cD ((gx G z.length).map Nat.succ)):=by
 refine aw.intro Tryz.func121 rfl Tryz.ntmps121 rfl (fun cx=>(ts (rn rfl (fU (Ht rfl)) fun B2=>(ro rfl (cQ cV) (eZ (ts (ro rfl (cQ cV) (eZ (cK (ts (ro rfl (cQ (cJ 1)) (eZ (eK (jk 3 1 ?_))))))))))))))
 refine ci (fun (i : Nat) (v : Value) => i ≤ z.length) (fun (i : Nat) (v : Value) => z.length - i) (fun (i : Nat) (v : Value) => [(1, dP 1 ((AP G).map (aa .i64))), (2, aH B2 0), (5, Is v), (6, NT .i64 (i + 1))]) (fun (i : Nat) (v : Value) => [box B2 32 [av z, bp s], aE 3 1 v (((gx G i).map Nat.succ).map (NT .i64))]) 0 (.slice none 0 0) (Nat.zero_le _)
  (zS rfl) (aU (a8 rfl) (aU (ar rfl) aY)) (fun i v hi=>?_)
 refine cK (ts (rm rfl (ro rfl (eJ bH (Ht rfl) rfl) (ro rfl (fQ A_29 Z_29 (Ht rfl) (i:=0) rfl rfl) (ro rfl (dK U_29 (Ht rfl) a7) (ro rfl (kR (Ht rfl) (Ht rfl)) (eZ (dQ (Ht rfl) (fun hd=>?_) (fun hd=>?_)))))))))
 ·simp only [decide_eq_true_eq] at hd
  have hcl:=mu G i
  refine cU (cK (eK (dz (fun (v2:Value)=>True) (fun (v2:Value)=>[(1,dP 1 ((AP G).map (aa .i64))),(2,aH B2 0),(5,Is v2),(6,NT .i64 (i + 1))]) (fun (v2:Value)=>[box B2 32 [av z,bp s],aE 3 1 v2 (((gx G (i + 1)).map Nat.succ).map (NT .i64))]) ?_ (fun v2 _=>?_))))
  ·refine ts (rm rfl (rm rfl (ro rfl (cZ Tryz.call95 (kg (l := AP G) (v := ((i + 1 : Nat) : Int)) (by rw [List.length_map]; omega)) ⟨(Ht rfl), (Ht rfl), trivial⟩) ?_)))
   refine ro rfl (bD (Ht rfl)) (eZ (dQ (Ht rfl) (fun he=>?_) (fun he=>?_)))
   ·rw [xn] at he
    have he2:i ∉ G:=by simpa using he
    have hnx:gx G (i + 1) = gx G i ++ [i]:=by rw [gx,if_neg he2]
    refine cY (rm rfl (rm rfl (ro rfl (bm (xs:=[.tmp 19]) U_72 Z_3 O_3 (cW (Ht rfl) cG) rfl rfl rfl) (gd (inf:=Tryz.t3) nE nm rfl rfl rfl (Ht rfl) (Ht rfl) (i:=1) rfl (by simp) (fun T hT=>by simp at hT; subst hT; exact El.one) (by show _ * 8 ≤ _; simp only [List.length_map,List.length_cons,List.length_nil]; omega) (by simp only [List.length_map,List.length_cons,List.length_nil]; omega) rfl (fun v3=>?_)))))
    refine ra rfl (eZ (au v3 trivial (zS rfl) (aU (a8 rfl) (aU (ar (by rw [hnx,List.map_append,List.map_append]; rfl)) aY))))
   ·rw [xn] at he
    have he2:i ∈ G:=by simpa using he
    have hnx:gx G (i + 1) = gx G i:=by rw [gx,if_pos he2,List.append_nil]
    refine cU (au v trivial (zS rfl) (aU (a8 rfl) (aU (ar (by rw [hnx])) aY)))
  ·refine aB (cY (rm rfl (ro rfl (dW (Ht rfl) (cJ 1) z6) (ra rfl (eZ (gQ (i + 1,v2) hd (by dsimp only; omega) (zS rfl) (br.refl _)))))))
 ·simp only [decide_eq_false_iff_not] at hd
  obtain rfl:z.length = i:=Nat.le_antisymm zo hi
  refine gK rfl (gG (i:=1) (tt:=5) rfl rfl cg (ts (rm rfl (ra rfl (eZ ?_)))))
  exact fK rfl (eY rfl)
theorem C3 {z:List Qi} {s:List (List Qi)} {p:Nat} (hp:p < z.length) (hl:z.length ≤ 1000):aw Tryz.prog 121 [aM z s,dP 1 [aa .i64 ((p:Int) + 1)]] (cD (mN p (z.length - 1))):=by
 rw [← yI hp]; exact pS (G:=[p]) hl (by simp)
theorem sZ {z:List Qi} {s:List (List Qi)} {Q:List Nat} {m:Nat} (hs:bM s z.length z.length) (hQ:∀ x,x ∈ Q → x < z.length) (hm:Q.length = m) (hm2:m ≤ 1000) (hl:z.length ≤ 1000) {i j:Nat} (hi:i < m) (hj:j < m):aw Tryz.prog 206 [NT .i64 i,NT .i64 j,PT (aM z s),PT (cD (Q.map Nat.succ))] (ab (gm s (c4 Q i) (c4 Q j))):=by
 have hki:c4 Q i < z.length:=oR hQ zo
 have hkj:c4 Q j < z.length:=oR hQ zo
 have hsl:=hs.1
 have hsr:=hs.row hki
 refine aw.intro Tryz.func206 rfl Tryz.ntmps206 rfl (fun cx=>(ts (rn rfl (eG (Ts:=[Is (.bool false),Is (.slice none 0 0),Is (.bool false),Is (.slice none 0 0),Is (.slice none 0 0)]) O_51 rfl (fun V=>aW zd (aW zd (aW zd (aW zd (aW zd (aG))))))) fun B6=>(eZ (cK (fV (m:=14) (dp 2 rfl (dB bn (Ht rfl) rfl) (dq 7 0 rfl (dV A_30 Z_30 (Ht rfl)) (dp 3 rfl (dV A_72 Z_72 (Ht rfl)) (dp 0 rfl (cX (Ht rfl)) ?_))))))))))
 refine bv 9 2 10 3 rfl (dZ U_72 Z_3 (Ht rfl) (Ht rfl) rfl (eQ (gM zo))) (dq 11 4 rfl (dV A_3 Z_3 (Ht rfl)) (dq 12 5 rfl (ae.nat (dG (Ht rfl) (cJ 1) zo z6) (show c4 Q i + 1 - 1 = c4 Q i by omega)) (bv 8 1 13 6 rfl (dZ U_30 Z_29 (Ht rfl) (Ht rfl) rfl (eQ (dY (d:=[]) zo))) (dq 14 7 rfl (dV A_29 Z_29 (Ht rfl)) (dp 3 rfl (dV A_72 Z_72 (Ht rfl)) ?_)))))
 refine dp 1 rfl (cX (Ht rfl)) (bv 16 9 17 10 rfl (dZ U_72 Z_3 (Ht rfl) (Ht rfl) rfl (eQ (gM zo))) (dq 18 11 rfl (dV A_3 Z_3 (Ht rfl)) (dq 19 12 rfl (ae.nat (dG (Ht rfl) (cJ 1) zo z6) (show c4 Q j + 1 - 1 = c4 Q j by omega)) (fG aA rfl (by kernel_rfl) (zF (zF (zF (aJ (aJ (aV (ro rfl (dZ U_29 Z_51 (Ht rfl) (Ht rfl) rfl (eQ (dY (d:=Qi.zero) zo))) ?_)))))))))))
 refine ro rfl (dV A_51 Z_51 (Ht rfl)) (gJ Z_51 (Ht rfl) (Ht rfl) rfl (i:=0) rfl (aK rfl) rfl rfl (eZ ?_))
 exact fK rfl (fY A_51 Z_51 rfl (i:=0) rfl rfl)
theorem oV {z:List Qi} {s:List (List Qi)} {Q:List Nat} {m:Nat} (hs:bM s z.length z.length) (hQ:∀ x,x ∈ Q → x < z.length) (hm:Q.length = m) (hm2:m ≤ 1000) (hl:z.length ≤ 1000):dy Tryz.prog 122 [aM z s,cD (Q.map Nat.succ)] [] (Nat) (fun B=>bB [av (gz z Q),Is (.slice (some ⟨B,0,none⟩) m m)]) (fun B=>[gt B 29 51 5 (bq ab (kI s Q))]) (fun _=>True):=by
 have hll:(Q.map Nat.succ).length = m:=by rw [List.length_map]; exact hm
 refine dy.intro Tryz.func122 rfl Tryz.ntmps122 rfl (fun cx Z=>(ts (rn rfl (fU (Ht rfl)) fun B2=>(rn rfl (iQ (Ht rfl)) fun B3=>(rn rfl (eG (Ts:=[Is (.slice none 0 0),Is (.slice none 0 0)]) O_32 rfl (fun V=>aW zd (aW zd (aG)))) fun B4=>(eZ (cK (gG (i:=1) (tt:=2) rfl rfl cf (gG (i:=2) (tt:=3) rfl rfl cC (cY (ro rfl (dV A_72 Z_72 (Ht rfl)) (ro rfl (dK U_72 (Ht rfl) (by rw [List.length_map,hll])) ?_))))))))))))
 refine rn rfl (cy (T:=ab Qi.zero) (i:=Tryz.t51) ef de rfl rfl (Ht rfl) rfl cw (El.ag rfl) (by show 88 * _ ≤ _; omega) zo) fun B10=>ra rfl (eZ (cK (ts (ro rfl (dV A_72 Z_72 (Ht rfl)) (ro rfl (dK U_72 (Ht rfl) (by rw [List.length_map,hll])) ?_)))))
 refine ro rfl (cX (cJ 0)) (eZ (eK (aD [0,3,4] rfl (by decide) ?_)))
 refine b8 (fun (i : Nat) => i ≤ m) (fun (i : Nat) => m - i) (fun (i : Nat) => [(2, PT (aM z s)), (3, PT (cD (Q.map Nat.succ))), (4, aH B4 0), (5, Is B10), (11, cD (Q.map Nat.succ)), (12, NT .i64 m), (13, NT .i64 i)]) (fun (i : Nat) => [Z, box B4 32 [Is (.slice none 0 0), Is (.slice none 0 0)], aE 51 5 B10 ((dN (fun i => gv z (c4 Q i)) Qi.zero m i).map ab)]) 0 (Nat.zero_le _)
  (zS rfl) (aU (fun _ _ _ h=>h) (aU (fun _ _ _ h=>h) (aU (ar (by rw [← cP]; exact gL ab m)) aY))) (fun i hi=>?_)
 refine ts (ro rfl (gV (Ht rfl) (Ht rfl)) (eZ (cK (dQ (Ht rfl) (fun hd=>?_) (fun hd=>?_)))))
 ·simp only [decide_eq_true_eq] at hd
  have hki:c4 Q i < z.length:=oR hQ zo
  refine cU (cK (eK (ts (rm rfl (ro rfl (dZ U_72 Z_3 (Ht rfl) (Ht rfl) rfl (eQ (gM zo))) (ro rfl (dV A_3 Z_3 (Ht rfl)) (ra rfl (ra rfl (eZ (cY (rm rfl (rm rfl (ro rfl (dB bH (Ht rfl) rfl) (ro rfl (dV A_29 Z_29 (Ht rfl)) (rm rfl (ro rfl (ae.nat (dG (Ht rfl) (cJ 1) zo z6) (show c4 Q i + 1 - 1 = c4 Q i by omega)) (ro rfl (dZ U_29 Z_51 (Ht rfl) (Ht rfl) rfl (eQ (dY (d:=Qi.zero) hki))) ?_)))))))))))))))))
  refine ro rfl (dV A_51 Z_51 (Ht rfl)) (ro rfl (bi U_29 Z_51 (Ht rfl) (Ht rfl) rfl (i:=2) rfl (by rw [List.length_map,b9]; omega) rfl) ?_)
  refine eL Z_51 (Ht rfl) (Ht rfl) (El.ag rfl) (i:=2) rfl rfl (by rw [List.length_map,b9]; omega) rfl ?_
  refine eZ (aB (cY (ro rfl (dW (Ht rfl) (cJ 1) z6) (rm rfl (eZ (gQ (i + 1) hd zo (zS rfl) (aU (fun _ _ _ h=>h) (aU (fun _ _ _ h=>h) (aU (ar (by rw [c9,← dC (f:=(fun i=>gv z (c4 Q i)))])) aY)))))))))
 ·simp only [decide_eq_false_iff_not] at hd
  obtain rfl:m = i:=Nat.le_antisymm zo hi
  rw [dD]
  refine gK rfl (gG (i:=2) (tt:=5) rfl rfl cg ?_)
  rw [show gz z Q = tab m fun i=>gv z (c4 Q i) from by rw [gz,hm],show kI s Q = tab m fun i=>tab m fun j=>gm s (c4 Q i) (c4 Q j) from by rw [kI,hm]]
  refine ts (rm rfl (ro rfl (dV A_72 Z_72 (Ht rfl)) (ro rfl (dK U_72 (Ht rfl) (by rw [List.length_map,hll])) ?_)))
  refine ro rfl (fm (γ:=Fin m × Fin m) (Ts:=fun x=>[NT .i64 x.1.1,NT .i64 x.2.1]) (U:=fun x=>ab (gm s (c4 Q x.1.1) (c4 Q x.2.1))) Tryz.call206 (fun x=>sZ hs hQ hm hm2 hl x.1.2 x.2.2) ⟨(Ht rfl),(Ht rfl),trivial⟩) (gD K_114 (po (n:=m) (f:=fun i j=>gm s (c4 Q i) (c4 Q j)) zo) ⟨(Ht rfl),(Ht rfl),trivial⟩ rfl (fun B32 _=>(ro rfl (j0 (Ht rfl) (Ht rfl)) (gJ Z_32 (Ht rfl) (Ht rfl) rfl (i:=1) rfl (aK rfl) rfl rfl (eZ ?_)))))
  exact fo B32 trivial [0,3] ⟨⟨_,rfl,fun _ _ _ h=>h⟩,⟨_,rfl,fun _ _ _ h=>h⟩,trivial⟩ (by decide) (nt rfl (fY A_32 Z_32 rfl (i:=1) rfl rfl))
theorem zQ {z:List Qi} {s:List (List Qi)} {p m:Nat} (hs:bM s z.length z.length) (hp:p < z.length) (hm:m = z.length - 1) (hl:z.length ≤ 1000):dy Tryz.prog 122 [aM z s,cD (mN p m)] [] Nat (fun B=>bB [av (uG z p m),Is (.slice (some ⟨B,0,none⟩) m m)]) (fun B=>[gt B 29 51 5 (bq ab (DJ s p m))]) (fun _=>True):=by
 have h:=oV (Q:=tab m (fN p)) hs (yo hp hm) (ao _ _) zo hl
 rw [w5,xm,zR] at h
 exact h
theorem jT {n:Int} (h1:-9223372036854775808 ≤ n) (h2:n ≤ 9223372036854775807):aw Tryz.prog 109 [aa .i64 n] (ab (Qi.ofInt n)):=by
 refine aw.intro Tryz.func109 rfl Tryz.ntmps109 rfl (fun cx=>(ts (rn rfl (eG (Ts:=[Is (.bool false),Is (.slice none 0 0),Is (.bool false),Is (.slice none 0 0),Is (.slice none 0 0)]) O_51 rfl (fun V=>aW zd (aW zd (aW zd (aW zd (aW zd (aG))))))) fun B2=>(eZ (ts (rn rfl (eG (Ts:=[Is (.bool false),Is (.slice none 0 0),Is (.bool false),Is (.slice none 0 0),Is (.slice none 0 0)]) O_51 rfl (fun V=>aW zd (aW zd (aW zd (aW zd (aW zd (aG))))))) fun B3=>?_))))))
 refine eZ (cK (fV (m:=4) (dp 3 rfl (eW A_51 Z_51 (Ht rfl) (i:=1) rfl rfl rfl) (dq 4 0 rfl (ay aF (Ht rfl)) (dp 0 rfl (cX (Ht rfl)) (dq 6 2 rfl (cZ Tryz.call77 (th (n:=n) h1 h2) ⟨(Ht rfl),trivial⟩) (fG aA rfl (by kernel_rfl) (zF (aV (ro rfl (ap ko Tryz.call302 wW (Ht rfl) ⟨(Ht rfl),trivial⟩) (gJ Z_51 (Ht rfl) (Ht rfl) rfl (i:=0) rfl (aK rfl) rfl rfl (eZ ?_))))))))))))
 exact fK rfl (fY A_51 Z_51 rfl (i:=0) rfl rfl)
end
section
open Go Go.RowKit
theorem Bk {z:List Qi} {s:List (List Qi)} {port:Int} {g:Qi} {L:Nat} (hs:bM s z.length z.length) (hf:aL s L) (hg:an g L) (hL:1 ≤ L) (hLb:L ≤ 1000000) (hl:z.length ≤ 1000):aw Tryz.prog 41 [aM z s,aa .i64 port,ab g] (bo [aM (nI z s port g) (mP z s port g),aa .i64 (jh z s port g)]):=by
 haveI:=hg
 have hsl:=hs.1
 refine aw.intro Tryz.func41 rfl Tryz.ntmps41 rfl (fun cx=>(ts (rn rfl (fU (Ht rfl)) fun B3=>(rn rfl (fU (Ht rfl)) fun B5=>(rn rfl (eG (Ts:=[Is (.slice none 0 0),Is (.slice none 0 0)]) O_32 rfl (fun V=>aW zd (aW zd (aG)))) fun B6=>(ro rfl (cQ (cJ 0)) (eZ (cK (eK (ts (ro rfl (eW A_32 Z_32 (Ht rfl) (i:=0) rfl rfl rfl) (rm rfl (ro rfl (cZ K_106 og ⟨(Ht rfl),(Ht rfl),trivial⟩) (ro rfl (bD (Ht rfl)) (ra rfl (eZ (dQ (Ht rfl) (fun hb=>?_) (fun hb=>?_))))))))))))))))))
 ·have he : jh z s port g = 1 := Bx (by simpa only [Bool.not_eq_true', decide_eq_false_iff_not] using hb)
  refine ts (ro rfl (ae.imp (d9 ) da) (gJ Z_32 (Ht rfl) (Ht rfl) rfl (i:=2) rfl (aK rfl) rfl rfl (ro rfl (cQ (cJ 1)) (eZ (aC rfl (fJ (fY A_32 Z_32 rfl (i:=2) rfl rfl) ?_) (fJ (eY rfl) ?_))))))
  ·exact (oZ he (by decide))
  ·exact (am he.symm)
 ·have hb2 : 1 ≤ port ∧ port ≤ (z.length : Int) := by simpa using hb
  obtain ⟨p,rfl⟩:∃ p:Nat,port = (p:Int) + 1:=⟨(port - 1).toNat,by omega⟩
  have hp:p < z.length:=by omega
  refine ts (ro rfl (eJ bH (Ht rfl) rfl) (ro rfl (fQ A_29 Z_29 (Ht rfl) (i:=0) rfl rfl) (ro rfl (dK U_29 (Ht rfl) a7) (ro rfl (aO (Ht rfl) (cJ 1)) (ra rfl (eZ (dQ (Ht rfl) (fun hc=>?_) (fun hc=>?_))))))))
  ·have he : jh z s ((p : Int) + 1) g = 4 := Cz hb2 (by simpa using hc)
   refine ts (ro rfl (ae.imp (d9 ) da) (gJ Z_32 (Ht rfl) (Ht rfl) rfl (i:=2) rfl (aK rfl) rfl rfl (ro rfl (cQ (cJ 4)) (eZ (aC rfl (fJ (fY A_32 Z_32 rfl (i:=2) rfl rfl) ?_) (fJ (eY rfl) ?_))))))
   ·exact (oZ he (by decide))
   ·exact (am he.symm)
  ·have hn1 : ¬ z.length = 1 := by simpa using hc
   have htd:=Cj (s:=s) (g:=g) hp hn1
   obtain ⟨m,hm⟩:∃ m,m = z.length - 1:=⟨_,rfl⟩
   have hspl:=hs.row hp
   haveI f0:an (Qi.ofInt 1) 1:=gr
   haveI f1:an (gm s p p) L:=hf.get hL p p
   refine cU (aB (ts (rm rfl (ro rfl (cq (Ht rfl) cV (r:=((p:Nat):Int)) ((kq (z:=(p:Int) + 1 - 1) zo).trans zo)) ?_))))
   refine ra rfl (eZ (cK (Y.D_start (m:=22) [] (bY (Ei:=[(5,_)]) rfl rfl (bQ (bJ rfl rfl) bX) rfl rfl (dX rfl (eW A_51 Z_51 (Ht rfl) (i:=1) rfl rfl rfl)) (bY (Ei:=[(32,_)]) rfl rfl (bQ (bZ 0 rfl rfl) bX) rfl rfl (dX rfl (ay aF (Ht rfl))) (bY (Ei:=[]) rfl rfl bX rfl rfl (dX rfl (cZ K_109 (jT (n:=1) (by decide) (by decide)) ⟨(cJ 1),trivial⟩)) (bY (Ei:=[(34,_)]) rfl rfl (bQ (bZ 2 rfl rfl) bX) rfl rfl (dX rfl (ay aF (Ht rfl))) ?_)))))))
   refine bY (Ei:=[(3,_)]) rfl rfl (bQ (bJ rfl rfl) bX) rfl rfl (dX rfl (eJ bn (Ht rfl) rfl)) (bY (Ei:=[(36,_)]) rfl rfl (bQ (bZ 4 rfl rfl) bX) rfl rfl (dX rfl (fQ A_30 Z_30 (Ht rfl) (i:=0) rfl rfl)) (bY (Ei:=[(8,_)]) rfl rfl (bQ (bJ rfl rfl) bX) rfl rfl (dX rfl (cX (Ht rfl))) (bY (Ei:=[(37,_),(38,_)]) rfl rfl (bQ (bZ 5 rfl rfl) (bQ (bZ 6 rfl rfl) bX)) rfl rfl (dX rfl (dZ U_30 Z_29 (Ht rfl) (Ht rfl) rfl (eQ (dY (d:=[]) zo)))) ?_)))
   refine bY (Ei:=[(39,_)]) rfl rfl (bQ (bZ 7 rfl rfl) bX) rfl rfl (dX rfl (dV A_29 Z_29 (Ht rfl))) (bY (Ei:=[(8,_)]) rfl rfl (bQ (bJ rfl rfl) bX) rfl rfl (dX rfl (cX (Ht rfl))) (bY (Ei:=[(40,_),(41,_)]) rfl rfl (bQ (bZ 8 rfl rfl) (bQ (bZ 9 rfl rfl) bX)) rfl rfl (dX rfl (dZ U_29 Z_51 (Ht rfl) (Ht rfl) rfl (eQ (dY (d:=Qi.zero) zo)))) (bY (Ei:=[(42,_)]) rfl rfl (bQ (bZ 10 rfl rfl) bX) rfl rfl (dX rfl (dV A_51 Z_51 (Ht rfl))) ?_)))
   refine bY (Ei:=[(43,_)]) rfl rfl (bQ (bZ 11 rfl rfl) bX) rfl rfl (dX rfl (ay aF (Ht rfl))) (bY (Ei:=[(5,_)]) rfl rfl (bQ (bJ rfl rfl) bX) rfl rfl (dX rfl (eW A_51 Z_51 (Ht rfl) (i:=1) rfl rfl rfl)) (bY (Ei:=[(44,_),(45,_)]) rfl rfl (bQ (bZ 12 rfl rfl) (bQ (bZ 13 rfl rfl) bX)) rfl rfl (dX rfl (ap b7 K_45 (eS (x:=gm s p p) (y:=g) (L:=L) (M:=L) zo) (Ht rfl) ⟨(Ht rfl),trivial⟩)) (bY (Ei:=[(35,_),(46,_)]) rfl rfl (bQ (bZ 3 rfl rfl) (bQ (bZ 14 rfl rfl) bX)) rfl rfl (dX rfl (ap dv K_44 (kZ (x:=Qi.ofInt 1) (y:=gm s p p * g) (L:=1) (M:=L + L + 1) (hx:=f0) zo) (Ht rfl) ⟨(Ht rfl),trivial⟩)) ?_)))
   refine bY (Ei:=[(33,_),(47,_)]) rfl rfl (bQ (bZ 1 rfl rfl) (bQ (bZ 15 rfl rfl) bX)) rfl rfl (dX rfl (ap dO K_40 (mg (x:=g) (y:=Qi.ofInt 1 - gm s p p * g) (L:=L) (M:=1 + (L + L + 1) + 1) (hy:=@fitSub _ _ _ _ f0 inferInstance) zo) (Ht rfl) ⟨(Ht rfl),trivial⟩)) (bY (Ei:=[(48,_)]) rfl rfl (bQ (bZ 16 rfl rfl) bX) rfl rfl (dX rfl (cX (Ht rfl))) (bY (Ei:=[(31,_)]) rfl rfl (bQ (bZ 17 rfl rfl) bX) rfl rfl (dX rfl (dU (Ht rfl) rfl)) ?_))
   refine bY (Ei:=[(31,_)]) rfl rfl (bQ (bZ 17 rfl rfl) bX) rfl rfl (dX rfl (dU (Ht rfl) rfl)) (Y.D_newp (Ei:=[]) (fun bb=>box bb 51 [a9 (decide ((fk s p g).a < 0)),ah (fk s p g).a.natAbs,a9 (decide ((fk s p g).b < 0)),ah (fk s p g).b.natAbs,ah (du (fk s p g))]) 21 rfl rfl rfl bX rfl rfl (by kernel_rfl) (eG (Ts:=[Is (.bool false),Is (.slice none 0 0),Is (.bool false),Is (.slice none 0 0),Is (.slice none 0 0)]) O_51 rfl (fun V=>aW zd (aW zd (aW zd (aW zd (aW zd (aG))))))) ?_)
   refine Y.D_putN (Ei:=[(49,_)]) 20 rfl rfl rfl rfl rfl rfl (bQ (bZ 18 rfl rfl) bX) (fun bb=>ft Z_51 (Ht rfl) (Ht rfl) rfl (i:=0) rfl (aK rfl) rfl rfl) (Y.D_done aA rfl (by kernel_rfl) rfl (by simp [Y.okP]) rfl rfl (bU (bU (bU (bU (bU (bU (bU (bU (bU (bU (bU (bU (bU (bU (bU (bU (bU (bU (bU (bU (Y.F_newp (fun B9=>Y.F_putN (Y.F_nil ?_))))))))))))))))))))))))
   refine ra rfl (eZ (cK (ts (rm rfl (ro rfl (bT (Ht rfl) cV) (eZ (dQ (Ht rfl) (fun he=>?_) (fun he=>?_))))))))
   ·have hz : Qi.ofInt 1 - gm s p p * g = Qi.zero := by simp at he; exact he
    have he:jh z s ((p:Int) + 1) g = 6:=by rw [htd,if_pos hz]
    refine ts (ro rfl (ae.imp (d9 ) da) (gJ Z_32 (Ht rfl) (Ht rfl) rfl (i:=2) rfl (aK rfl) rfl rfl (ro rfl (cQ (cJ 6)) (eZ (aC rfl (fJ (fY A_32 Z_32 rfl (i:=2) rfl rfl) ?_) (fJ (eY rfl) ?_))))))
    ·exact (oZ he (by decide))
    ·exact (am he.symm)
   ·have hz : Qi.ofInt 1 - gm s p p * g ≠ Qi.zero := by simp at he; exact he
    have he:jh z s ((p:Int) + 1) g = 0:=by rw [htd,if_neg hz]
    haveI ff:an (fk s p g) (7 * L + 11):=wC hf hg hL hz
    have hll:(mN p m).length = m:=ao _ _
    refine cU (ts (ro rfl (eW A_32 Z_32 (Ht rfl) (i:=0) rfl rfl rfl) (rm rfl (ro rfl (bm (xs:=[.tmp 55]) U_72 Z_3 O_3 (cW (Ht rfl) cG) rfl rfl rfl) (ro rfl (cZ Tryz.call121 (eX (C3 (z:=z) (s:=s) (p:=p) hp hl) (ee (by rw [← hm]))) ⟨(Ht rfl),(Ht rfl),trivial⟩) ?_)))))
    refine ra rfl (eZ (ts (ro rfl (eW A_32 Z_32 (Ht rfl) (i:=0) rfl rfl rfl) (rm rfl (gD Tryz.call122 (zQ (p:=p) (m:=m) hs hp hm hl) ⟨(Ht rfl),(Ht rfl),trivial⟩ rfl (fun B60 _=>(rn rfl (eG (Ts:=[Is (.slice none 0 0),Is (.slice none 0 0)]) O_32 rfl (fun V=>aW zd (aW zd (aG)))) fun B12=>(gJ Z_32 (Ht rfl) (Ht rfl) rfl (i:=5) rfl (aK rfl) rfl rfl (eZ (cK (ts (rm rfl (ro rfl (dK U_72 (Ht rfl) (by rw [List.length_map,hll])) ?_)))))))))))))
    refine ro rfl (cX (cJ 0)) (eZ (eK (aD [0,2,3,4,5] rfl (by decide) ?_)))
    refine b8 (fun (i : Nat) => i ≤ m) (fun (i : Nat) => m - i) (fun (i : Nat) => [(3, aH B3 0), (6, aH B6 0), (8, NT .i64 p), (9, aH B9 0), (11, cD (mN p m)), (12, aH B12 0), (61, cD (mN p m)), (62, NT .i64 m), (63, NT .i64 i)]) (fun (i : Nat) => [box B3 32 [av z, bp s], box B6 32 [Is (.slice none 0 0), Is (.slice none 0 0)], box B9 51 [a9 (decide ((fk s p g).a < 0)), ah (fk s p g).a.natAbs, a9 (decide ((fk s p g).b < 0)), ah (fk s p g).b.natAbs, ah (du (fk s p g))], gt B60 29 51 5 (bq ab (gj (fun i => tab m fun j => rP s p (fk s p g) i j) (fun i => tab m fun j => gm s (fN p i) (fN p j)) m i)), box B12 32 [av (uG z p m), Is (.slice (some ⟨B60, 0, none⟩) m m)]]) 0 (Nat.zero_le _)
     (zS rfl) (aU (fun _ _ _ h=>h) (aU (fun _ _ _ h=>h) (aU (a8 rfl) (aU (bO (by rw [← jP]; rfl)) (aU (a8 rfl) aY))))) (fun i hi=>?_)
    refine ts (ro rfl (gV (Ht rfl) (Ht rfl)) (eZ (cK (dQ (Ht rfl) (fun hd=>?_) (fun hd=>?_)))))
    ·simp only [decide_eq_true_eq] at hd
     have hki:fN p i < z.length:=sn zo hp
     have hsr:=hs.row hki
     refine ip 3 (i) rfl (o7 hd) (fun v=>(cU (cK (eK (ts (rm rfl (ro rfl (dZ U_72 Z_3 (Ht rfl) (Ht rfl) rfl (eQ (tk hd))) (ro rfl (dV A_3 Z_3 (Ht rfl)) (ra rfl (ra rfl (eZ (ts (rm rfl (ro rfl (dK U_72 (Ht rfl) (by rw [List.length_map,hll])) ?_))))))))))))))
     refine ro rfl (cX (cJ 0)) (eZ (eK ?_))
     refine b8 (fun (j : Nat) => j ≤ m) (fun (j : Nat) => m - j) (fun (j : Nat) => [(3, aH B3 0), (6, aH B6 0), (8, NT .i64 p), (9, aH B9 0), (11, cD (mN p m)), (12, aH B12 0), (13, NT .i64 i), (14, NT .i64 (fN p i + 1)), (61, cD (mN p m)), (62, NT .i64 m), (63, NT .i64 i), (68, cD (mN p m)), (69, NT .i64 m), (70, NT .i64 j)]) (fun (j : Nat) => [box B3 32 [av z, bp s], box B6 32 [Is (.slice none 0 0), Is (.slice none 0 0)], box B9 51 [a9 (decide ((fk s p g).a < 0)), ah (fk s p g).a.natAbs, a9 (decide ((fk s p g).b < 0)), ah (fk s p g).b.natAbs, ah (du (fk s p g))], qL B60 29 51 5 (bq ab (gj (fun i => tab m fun j => rP s p (fk s p g) i j) (fun i => tab m fun j => gm s (fN p i) (fN p j)) m i)) i v, box B12 32 [av (uG z p m), Is (.slice (some ⟨B60, 0, none⟩) m m)], aE 51 5 v ((gj (fun j => rP s p (fk s p g) i j) (fun j => gm s (fN p i) (fN p j)) m j).map ab)]) 0 (Nat.zero_le _)
      (zS rfl) (aU (fun _ _ _ h=>h) (aU (fun _ _ _ h=>h) (aU (fun _ _ _ h=>h) (aU (fun _ _ _ h=>h) (aU (fun _ _ _ h=>h) (aU (ar (by rw [← jP])) aY)))))) (fun j hj=>?_)
     refine ts (ro rfl (gV (Ht rfl) (Ht rfl)) (eZ (cK (dQ (Ht rfl) (fun hf2=>?_) (fun hf2=>?_)))))
     ·simp only [decide_eq_true_eq] at hf2
      have hkj:fN p j < z.length:=sn zo hp
      have hrl:=hJ (fun j=>rP s p (fk s p g) i j) (fun j=>gm s (fN p i) (fN p j)) m j
      haveI g1:an (gm s (fN p i) (fN p j)) L:=hf.get hL _ _
      haveI g2:an (gm s (fN p i) p) L:=hf.get hL _ _
      haveI g3:an (gm s p (fN p j)) L:=hf.get hL _ _
      refine cU (cK (eK (ts (rm rfl (ro rfl (dZ U_72 Z_3 (Ht rfl) (Ht rfl) rfl (eQ (tk hf2))) (ro rfl (dV A_3 Z_3 (Ht rfl)) (ra rfl (ra rfl (eZ (fV (m:=39) (dp 12 rfl (eJ bn (Ht rfl) rfl) (dq 75 0 rfl (fQ A_30 Z_30 (Ht rfl) (i:=4) rfl rfl) (dp 13 rfl (cX (Ht rfl)) (bv 76 1 77 2 rfl (gX U_30 Z_29 (Ht rfl) (Ht rfl) rfl zo (by rw [Nat.mul_one,Nat.zero_add])) ?_))))))))))))))
      refine dq 78 3 rfl (fO A_29 Z_29 (Ht rfl) (j:=3) rfl) (dp 15 rfl (cX (Ht rfl)) (dp 12 rfl (eJ bn (Ht rfl) rfl) (dq 81 6 rfl (fQ A_30 Z_30 (Ht rfl) (i:=4) rfl rfl) (dp 13 rfl (cX (Ht rfl)) (bv 82 7 83 8 rfl (gX U_30 Z_29 (Ht rfl) (Ht rfl) rfl zo (by rw [Nat.mul_one,Nat.zero_add])) ?_)))))
      refine dq 84 9 rfl (fO A_29 Z_29 (Ht rfl) (j:=3) rfl) (dp 15 rfl (cX (Ht rfl)) (bv 85 10 86 11 rfl (bi U_29 Z_51 (Ht rfl) (Ht rfl) rfl (i:=5) rfl (by simp only [List.length_map,hrl]; omega) rfl) ?_))
      refine dq 87 12 rfl (ku A_51 Z_51 (Ht rfl) (i:=5) rfl rfl (eQ (mL hf2))) (dq 88 13 rfl (ay aF (Ht rfl)) (dp 3 rfl (eJ bn (Ht rfl) rfl) (dq 90 15 rfl (fQ A_30 Z_30 (Ht rfl) (i:=0) rfl rfl) (dp 14 rfl (cX (Ht rfl)) (dq 92 17 rfl (ae.nat (dG (Ht rfl) (cJ 1) zo z6) (show fN p i + 1 - 1 = fN p i by omega)) (bv 91 16 93 18 rfl (dZ U_30 Z_29 (Ht rfl) (Ht rfl) rfl (eQ (dY (d:=[]) zo))) ?_))))))
      refine dq 94 19 rfl (dV A_29 Z_29 (Ht rfl)) (dp 8 rfl (cX (Ht rfl)) (bv 95 20 96 21 rfl (dZ U_29 Z_51 (Ht rfl) (Ht rfl) rfl (eQ (dY (d:=Qi.zero) zo))) (dq 97 22 rfl (dV A_51 Z_51 (Ht rfl)) (dq 98 23 rfl (ay aF (Ht rfl)) (dp 9 rfl (eW A_51 Z_51 (Ht rfl) (i:=2) rfl rfl rfl) (dq 100 25 rfl (ay aF (Ht rfl)) (dp 3 rfl (eJ bn (Ht rfl) rfl) (dq 102 27 rfl (fQ A_30 Z_30 (Ht rfl) (i:=0) rfl rfl) (dp 8 rfl (cX (Ht rfl)) ?_)))))))))
      refine bv 103 28 104 29 rfl (dZ U_30 Z_29 (Ht rfl) (Ht rfl) rfl (eQ (dY (d:=[]) zo))) (dq 105 30 rfl (dV A_29 Z_29 (Ht rfl)) (dp 16 rfl (cX (Ht rfl)) (dq 107 32 rfl (ae.nat (dG (Ht rfl) (cJ 1) zo z6) (show fN p j + 1 - 1 = fN p j by omega)) (bv 106 31 108 33 rfl (dZ U_29 Z_51 (Ht rfl) (Ht rfl) rfl (eQ (dY (d:=Qi.zero) zo))) (dq 109 34 rfl (dV A_51 Z_51 (Ht rfl)) ?_)))))
      refine bv 101 26 110 35 rfl (ap b7 K_45 (eS (x:=fk s p g) (y:=gm s p (fN p j)) (L:=7 * L + 11) (M:=L) zo) (Ht rfl) ⟨(Ht rfl),trivial⟩) (bv 99 24 111 36 rfl (ap b7 K_45 (eS (x:=gm s (fN p i) p) (y:=fk s p g * gm s p (fN p j)) (L:=L) (M:=7 * L + 11 + L + 1) zo) (Ht rfl) ⟨(Ht rfl),trivial⟩) (bv 89 14 112 37 rfl (ap fd K_46 (n8 (x:=gm s (fN p i) (fN p j)) (y:=gm s (fN p i) p * (fk s p g * gm s p (fN p j))) (L:=L) (M:=L + (7 * L + 11 + L + 1) + 1) zo) (Ht rfl) ⟨(Ht rfl),trivial⟩) ?_))
      refine fG aA rfl (by kernel_rfl) (zF (zF (zF (zF (zF (zF (zF (zF (zF (aJ (aJ (aJ (aV (ro rfl (bi U_29 Z_51 (Ht rfl) (Ht rfl) rfl (i:=5) rfl (by simp only [List.length_map,hrl]; omega) rfl) ?_))))))))))))))
      refine eL Z_51 (Ht rfl) (Ht rfl) (El.ag rfl) (i:=5) rfl rfl (by simp only [List.length_map,hrl]; omega) rfl ?_
      refine eZ (aB (cY (ro rfl (dW (Ht rfl) (cJ 1) z6) (rm rfl (eZ (gQ (j + 1) hf2 zo (zS rfl) (aU (fun _ _ _ h=>h) (aU (fun _ _ _ h=>h) (aU (fun _ _ _ h=>h) (aU (fun _ _ _ h=>h) (aU (fun _ _ _ h=>h) (aU (ar (by rw [c9,← ll (f:=fun j=>rP s p (fk s p g) i j)]; rfl)) aY))))))))))))
     ·simp only [decide_eq_false_iff_not] at hf2
      obtain rfl:m = j:=Nat.le_antisymm zo hj
      refine gK rfl (aB (eH 3 5 rfl rfl (by decide) (by simp only [bq,List.length_map,hJ]; omega) ?_))
      refine cY (ro rfl (dW (Ht rfl) (cJ 1) z6) (rm rfl (eZ (aD [0,1,2,3,4] rfl (by decide) (gQ (i + 1) hd zo (zS rfl) (aU (fun _ _ _ h=>h) (aU (fun _ _ _ h=>h) (aU (fun _ _ _ h=>h) (aU (bO (by rw [eN,kS,← ll (f:=(fun i=>tab m fun j=>rP s p (fk s p g) i j))])) (aU (fun _ _ _ h=>h) aY))))))))))
    ·simp only [decide_eq_false_iff_not] at hd
     obtain rfl:m = i:=Nat.le_antisymm zo hi
     rw [kS]
     refine gK rfl (cK (ky 4 3 1 rfl rfl rfl (by decide) (BN (q:=fun _=>True) (M:=C7 s p m (fk s p g)) (ao _ _).symm) ?_))
     subst hm
     refine cY (ro rfl (eW A_32 Z_32 (Ht rfl) (i:=4) rfl rfl rfl) (gJ Z_32 (Ht rfl) (Ht rfl) rfl (i:=1) rfl (aK rfl) rfl rfl (ro rfl (cQ (cJ 0)) (eZ (aC rfl (fJ (fY A_32 Z_32 rfl (i:=1) rfl rfl) ?_) (fJ (eY rfl) ?_))))))
     ·exact (xl he)
     ·exact (am he.symm)
end
section
open Go Go.RowKit
def n1:List Qi:=[DO,DO].map Rt.q
def ot:List (List Qi):=rq [[md,md],[md,md]]
def oX:List Qi:=nI n1 ot 2 (Qi.ofInt 1)
def ut:List (List Qi):=mP n1 ot 2 (Qi.ofInt 1)
theorem vn:aR n1 ot = 0:=by decide +kernel
theorem vX:bM ot n1.length n1.length:=(fI vn).2.2.1
theorem Cn:jh n1 ot 2 (Qi.ofInt 1) = 0:=by decide +kernel
theorem wR:oX.length = 1:=by decide +kernel
theorem Ar:ut = [[Qi.ofInt 1]]:=by decide +kernel
theorem BF:s8 (CF true (v9 n1.length) ot n1.length) n1.length ≠ 0:=by decide +kernel
theorem Dg:aP n1 2:=aP.rt
theorem An:aL ot 2:=aL.rt
theorem Az:an (Qi.ofInt 1) 2:=gr.le (by decide)
theorem Ce:∀ v V,(bo [aM (cL (aR n1 ot) n1) (cL (aR n1 ot) ot),aa .i64 (aR n1 ot)]).p v V → (bo [aM n1 ot,aa .i64 0]).p v V:=by rw [vn]; exact fun _ _ h=>h
theorem BZ:∀ v V,(bo [aM (nI n1 ot ((2:Nat):Int) (Qi.ofInt 1)) (mP n1 ot ((2:Nat):Int) (Qi.ofInt 1)),aa .i64 (jh n1 ot ((2:Nat):Int) (Qi.ofInt 1))]).p v V → (bo [aM oX ut,aa .i64 0]).p v V:=by
 rw [show jh n1 ot ((2:Nat):Int) (Qi.ofInt 1) = 0 from Cn]; exact fun _ _ h=>h
theorem BG:bM ut oX.length oX.length:=by rw [wR,Ar]; exact ⟨rfl,by simp⟩
theorem D1:∀ v V,(bo [ab (uU oX.length ut ((1:Nat):Int) ((1:Nat):Int)),aa .i64 (if (1 ≤ ((1:Nat):Int) ∧ ((1:Nat):Int) ≤ oX.length) ∧ 1 ≤ ((1:Nat):Int) ∧ ((1:Nat):Int) ≤ oX.length then 0 else 1)]).p v V → (bo [ab (Qi.ofInt 1),aa .i64 0]).p v V:=by
 rw [wR,Ar,if_pos (by decide)]
 rw [show uU 1 [[Qi.ofInt 1]] ((1:Nat):Int) ((1:Nat):Int) = Qi.ofInt 1 from rfl]
 exact fun _ _ h=>h
theorem DU:v7 (Qi.ofInt 1) = [49]:=by decide +kernel
end
section
open Go Go.RowKit
theorem rv  : aw Tryz.prog 32 [] (a9 true):=by
 refine aw.intro Tryz.func32 rfl Tryz.ntmps32 rfl (fun cx=>(ts (ro rfl (cQ cV) (eZ (ts (ro rfl (mf cV cV) (rn rfl (eG (Ts:=[Is (.int .i64 0),Is (.int .i64 0),Is (.int .i64 0)]) O_102 rfl (fun V=>aW zd (aW zd (aW zd (aG))))) fun B1=>(gJ Z_102 (Ht rfl) (Ht rfl) rfl (i:=0) rfl (aK rfl) rfl rfl (eZ (cK (Y.D_start (m:=18) [] (bY (Ei:=[]) rfl rfl bX rfl rfl (dX rfl (oJ cV)) (bY (Ei:=[]) rfl rfl bX rfl rfl (dX rfl (oJ cV)) ?_)))))))))))))
 refine bY (Ei:=[(12,_),(13,_)]) rfl rfl (bQ (bZ 0 rfl rfl) (bQ (bZ 1 rfl rfl) bX)) rfl rfl (dX rfl (bm (xs:=[.tmp 12,.tmp 13]) U_22 Z_102 O_102 (cW (Ht rfl) (cW (Ht rfl) cG)) rfl rfl rfl)) (bY (Ei:=[(14,_)]) rfl rfl (bQ (bZ 2 rfl rfl) bX) rfl rfl (dX rfl (cZ Tryz.call48 (lY (l:=[DO,DO]) (by decide)) ⟨(Ht rfl),trivial⟩)) (bY (Ei:=[(1,_)]) rfl rfl (bQ (bJ rfl rfl) bX) rfl rfl (dX rfl (eW A_102 Z_102 (Ht rfl) (i:=0) rfl rfl rfl)) ?_))
 refine bY (Ei:=[(1,_)]) rfl rfl (bQ (bJ rfl rfl) bX) rfl rfl (dX rfl (eW A_102 Z_102 (Ht rfl) (i:=0) rfl rfl rfl)) (bY (Ei:=[(16,_),(17,_)]) rfl rfl (bQ (bZ 4 rfl rfl) (bQ (bZ 5 rfl rfl) bX)) rfl rfl (dX rfl (bm (xs:=[.tmp 16,.tmp 17]) U_22 Z_102 O_102 (cW (Ht rfl) (cW (Ht rfl) cG)) rfl rfl rfl)) (bY (Ei:=[(1,_)]) rfl rfl (bQ (bJ rfl rfl) bX) rfl rfl (dX rfl (eW A_102 Z_102 (Ht rfl) (i:=0) rfl rfl rfl)) ?_))
 refine bY (Ei:=[(1,_)]) rfl rfl (bQ (bJ rfl rfl) bX) rfl rfl (dX rfl (eW A_102 Z_102 (Ht rfl) (i:=0) rfl rfl rfl)) (bY (Ei:=[(19,_),(20,_)]) rfl rfl (bQ (bZ 7 rfl rfl) (bQ (bZ 8 rfl rfl) bX)) rfl rfl (dX rfl (bm (xs:=[.tmp 19,.tmp 20]) U_22 Z_102 O_102 (cW (Ht rfl) (cW (Ht rfl) cG)) rfl rfl rfl)) (bY (Ei:=[(18,_),(21,_)]) rfl rfl (bQ (bZ 6 rfl rfl) (bQ (bZ 9 rfl rfl) bX)) rfl rfl (dX rfl (bm (xs:=[.tmp 18,.tmp 21]) U_23 Z_22 Tryz.zeroValue22 (cW (Ht rfl) (cW (Ht rfl) cG)) rfl rfl rfl)) ?_))
 refine bY (Ei:=[(22,_)]) rfl rfl (bQ (bZ 10 rfl rfl) bX) rfl rfl (dX rfl (cZ Tryz.call86 (ou (m:=[[md,md],[md,md]]) (by decide) (by intro r hr; simp at hr; subst hr; decide)) ⟨(Ht rfl),trivial⟩)) ?_
 refine bY (Ei:=[(15,_),(23,_)]) rfl rfl (bQ (bZ 3 rfl rfl) (bQ (bZ 11 rfl rfl) bX)) rfl rfl (dX rfl (cZ Tryz.call85 (eX (kT (z:=n1) (s:=ot) (L:=2) Dg (by decide) (by decide) (by decide)) Ce) ⟨(Ht rfl),(Ht rfl),trivial⟩)) (bY (Ei:=[(24,_)]) rfl rfl (bQ (bZ 12 rfl rfl) bX) rfl rfl (dX rfl (cX (Ht rfl))) (bY (Ei:=[(11,_)]) rfl rfl (bQ (bZ 13 rfl rfl) bX) rfl rfl (dX rfl (dU (Ht rfl) rfl)) (bY (Ei:=[(11,_)]) rfl rfl (bQ (bZ 13 rfl rfl) bX) rfl rfl (dX rfl (dU (Ht rfl) rfl)) ?_)))
 refine Y.D_newp (Ei:=[]) (fun bb=>box bb 32 [av n1,bp ot]) 17 rfl rfl rfl bX rfl rfl (by kernel_rfl) (eG (Ts:=[Is (.slice none 0 0),Is (.slice none 0 0)]) O_32 rfl (fun V=>aW zd (aW zd (aG)))) (Y.D_putN (Ei:=[(25,_)]) 16 rfl rfl rfl rfl rfl rfl (bQ (bZ 14 rfl rfl) bX) (fun bb=>ft Z_32 (Ht rfl) (Ht rfl) rfl (i:=0) rfl (aK rfl) rfl rfl) (Y.D_done aA rfl (by kernel_rfl) rfl (by simp [Y.okP]) rfl rfl (bU (bU (bU (bU (bU (bU (bU (bU (bU (bU (bU (bU (bU (bU (bU (bU (Y.F_newp (fun B2=>Y.F_putN (Y.F_nil ?_)))))))))))))))))))))
 refine ra rfl (eZ (cK (Y.D_start (m:=8) [] (bY (Ei:=[(2,_)]) rfl rfl (bQ (bJ rfl rfl) bX) rfl rfl (dX rfl (eW A_32 Z_32 (Ht rfl) (i:=1) rfl rfl rfl)) (bY (Ei:=[]) rfl rfl bX rfl rfl (dX rfl (cZ Tryz.call77 (th (n:=1) (by decide) (by decide)) ⟨(cJ 1),trivial⟩)) (bY (Ei:=[(28,_),(29,_)]) rfl rfl (bQ (bZ 0 rfl rfl) (bQ (bZ 1 rfl rfl) bX)) rfl rfl (dX rfl (cZ Tryz.call41 (eX (Bk (z:=n1) (s:=ot) (port:=((2:Nat):Int)) (g:=Qi.ofInt 1) (L:=2) vX An Az (by decide) (by decide) (by decide)) BZ) ⟨(Ht rfl),(cJ 2),(Ht rfl),trivial⟩)) ?_))))))
 refine bY (Ei:=[(30,_)]) rfl rfl (bQ (bZ 2 rfl rfl) bX) rfl rfl (dX rfl (cX (Ht rfl))) (bY (Ei:=[(27,_)]) rfl rfl (bQ (bZ 3 rfl rfl) bX) rfl rfl (dX rfl (dU (Ht rfl) rfl)) (bY (Ei:=[(27,_)]) rfl rfl (bQ (bZ 3 rfl rfl) bX) rfl rfl (dX rfl (dU (Ht rfl) rfl)) (Y.D_newp (Ei:=[]) (fun bb=>box bb 32 [av oX,bp ut]) 7 rfl rfl rfl bX rfl rfl (by kernel_rfl) (eG (Ts:=[Is (.slice none 0 0),Is (.slice none 0 0)]) O_32 rfl (fun V=>aW zd (aW zd (aG)))) ?_)))
 refine Y.D_putN (Ei:=[(31,_)]) 6 rfl rfl rfl rfl rfl rfl (bQ (bZ 4 rfl rfl) bX) (fun bb=>ft Z_32 (Ht rfl) (Ht rfl) rfl (i:=0) rfl (aK rfl) rfl rfl) (Y.D_done aA rfl (by kernel_rfl) rfl (by simp [Y.okP]) rfl rfl (bU (bU (bU (bU (bU (bU (Y.F_newp (fun B4=>Y.F_putN (Y.F_nil ?_))))))))))
 refine ra rfl (eZ (ts (ro rfl (eW A_32 Z_32 (Ht rfl) (i:=2) rfl rfl rfl) (ro rfl (cZ K_25 (eX (ux (z:=oX) (s:=ut) (i:=((1:Nat):Int)) (j:=((1:Nat):Int)) BG (by rw [wR]; decide)) D1) ⟨(Ht rfl),(cJ 1),(cJ 1),trivial⟩) ?_))))
 refine rm rfl (ro rfl (dU (Ht rfl) rfl) (ro rfl (dU (Ht rfl) rfl) (rn rfl (eG (Ts:=[Is (.bool false),Is (.slice none 0 0),Is (.bool false),Is (.slice none 0 0),Is (.slice none 0 0)]) O_51 rfl (fun V=>aW zd (aW zd (aW zd (aW zd (aW zd (aG))))))) fun B6=>(gJ Z_51 (Ht rfl) (Ht rfl) rfl (i:=3) rfl (aK rfl) rfl rfl (ra rfl (eZ (ts (ro rfl (eW A_32 Z_32 (Ht rfl) (i:=1) rfl rfl rfl) ?_))))))))
 refine ro rfl (cZ Tryz.call124 (BC (z:=n1) (s:=ot) (L:=2) vX An (by decide) (by decide) (by decide) (by decide +kernel) (by decide +kernel) BF) ⟨(Ht rfl),trivial⟩) (rm rfl (ro rfl (dU (Ht rfl) rfl) (ro rfl (dU (Ht rfl) rfl) (ra rfl (ra rfl (eZ (ts (rm rfl (ro rfl (di (Ht rfl) cV) (rm rfl (fX rfl rfl (eU rfl rfl (Ht rfl) (fun h=>cX (Ht rfl))) (fX rfl rfl (eU rfl rfl (Ht rfl) (fun h=>di (fW rfl h) cV)) (ro rfl (bx (Ht rfl) (fun h=>(fW rfl h))) (rm rfl (fX rfl rfl (eU rfl rfl (Ht rfl) (fun h=>cX (Ht rfl))) ?_)))))))))))))))
 refine fX rfl rfl (eU rfl rfl (Ht rfl) (fun h=>di (fW rfl h) cV)) (ro rfl (bx (Ht rfl) (fun h=>(fW rfl h))) (rm rfl (fX rfl rfl (eU rfl rfl (Ht rfl) (fun h=>cX (Ht rfl))) (fX rfl rfl (eU rfl rfl (Ht rfl) (fun h=>di (fW rfl h) cV)) (ro rfl (bx (Ht rfl) (fun h=>(fW rfl h))) (rm rfl (fX rfl rfl (eU rfl rfl (Ht rfl) (fun h=>eW A_32 Z_32 (Ht rfl) (i:=1) rfl rfl rfl)) (fX rfl rfl (eU rfl rfl (Ht rfl) (fun h=>cZ K_22 iY ⟨(fW rfl h),trivial⟩)) (fX rfl rfl (eU rfl rfl (Ht rfl) (fun h=>aO (fW rfl h) (cJ 2))) ?_)))))))))
 refine ro rfl (bx (Ht rfl) (fun h=>(fW rfl h))) (rm rfl (fX rfl rfl (eU rfl rfl (Ht rfl) (fun h=>eW A_51 Z_51 (Ht rfl) (i:=3) rfl rfl rfl)) (fX rfl rfl (eU rfl rfl (Ht rfl) (fun h=>cZ Tryz.call89 (wA (x:=Qi.ofInt 1) (L:=2) (hx:=Az) (by decide)) ⟨(fW rfl h),trivial⟩)) (fX rfl rfl (eU rfl rfl (Ht rfl) (fun h=>vv (fW rfl h) (ax.cS (l:=[49]) rfl))) (ro rfl (bx (Ht rfl) (fun h=>(fW rfl h))) (ra rfl (eZ (fK rfl (fJ (eY rfl) ?_)))))))))
 exact (bL (by rw [DU]; rfl))
end
section
open Go Go.RowKit
theorem mZ {l:List Rt} (hl:l.length ≤ 1000000):aw Tryz.prog 104 [fq l] (q8 (l.map Rt.q)):=by
 refine aw.intro Tryz.func104 rfl Tryz.ntmps104 rfl (fun cx=>(ts (ro rfl (cQ cV) (eZ (ts (rm rfl (ro rfl (dK U_22 (Ht rfl) a7) (rn rfl (cy (T:=ZQ) (i:=Tryz.t131) BH va rfl rfl (Ht rfl) rfl DY (El.ag rfl) (by show 88 * _ ≤ _; omega) zo) fun B8=>(ra rfl (eZ (cK (ts (rm rfl (ro rfl (dK U_22 (Ht rfl) a7) (ro rfl (cX (cJ 0)) (eZ (eK ?_)))))))))))))))))
 refine b8 (fun (k : Nat) => k ≤ l.length) (fun (k : Nat) => l.length - k) (fun (k : Nat) => [(3, Is B8), (9, fq l), (10, NT .i64 l.length), (11, NT .i64 k)]) (fun (k : Nat) => [aE 131 5 B8 (dN (fun i => QT (l.getD i default).q) ZQ l.length k)]) 0 (Nat.zero_le _)
  (zS rfl) (aU (ar (by rw [← cP]; exact lm _ _)) aY) (fun k hk=>?_)
 refine ts (ro rfl (gV (Ht rfl) (Ht rfl)) (eZ (cK (dQ (Ht rfl) (fun hd=>?_) (fun hd=>?_)))))
 ·simp only [decide_eq_true_eq] at hd
  refine cU (cK (eK (ts (rm rfl (ro rfl (dZ U_22 Z_102 (Ht rfl) (Ht rfl) rfl (eQ (dY (d:=default) hd))) (ro rfl (dV A_102 Z_102 (Ht rfl)) (rn rfl (eG (Ts:=[Is (.int .i64 0),Is (.int .i64 0),Is (.int .i64 0)]) O_102 rfl (fun V=>aW zd (aW zd (aW zd (aG))))) fun B5=>(ra rfl (gJ Z_102 (Ht rfl) (Ht rfl) rfl (i:=1) rfl (aK rfl) rfl rfl (eZ (cY (rm rfl (rm rfl (ro rfl (eW A_102 Z_102 (Ht rfl) (i:=1) rfl rfl rfl) ?_))))))))))))))
  refine ro rfl (cZ Tryz.call151 CJ ⟨(Ht rfl),trivial⟩) (ro rfl (bi U_35 Z_131 (Ht rfl) (Ht rfl) rfl (i:=0) rfl (by rw [b9]; omega) rfl) ?_)
  refine eL Z_131 (Ht rfl) (Ht rfl) (El.ag rfl) (i:=0) rfl rfl (by rw [b9]; omega) rfl ?_
  refine eZ (aB (cY (ro rfl (dW (Ht rfl) (cJ 1) z6) (rm rfl (eZ (aD [0] rfl (by decide) (gQ (k + 1) hd zo (zS rfl) (aU (ar (dC (f:=fun i=>QT (l.getD i default).q))) aY))))))))
 ·simp only [decide_eq_false_iff_not] at hd
  obtain rfl:k = l.length:=Nat.le_antisymm hk zo
  rw [dD]
  refine gK rfl (gG (i:=0) (tt:=3) rfl rfl cg (ts (rm rfl (ra rfl (eZ (fK rfl (fJ (eY rfl) ?_)))))))
  exact (ee (by rw [← jK l Rt.q,g5]))
theorem rN {m:List (List Rt)} (hm:m.length ≤ 1000) (hr:∀ r,r ∈ m → r.length ≤ 1000):aw Tryz.prog 105 [vg m] (QM (rq m)):=by
 refine aw.intro Tryz.func105 rfl Tryz.ntmps105 rfl (fun cx=>(ts (ro rfl (cQ cV) (eZ (ts (rm rfl (ro rfl (dK U_23 (Ht rfl) a7) (rn rfl (cy (T:=q8 []) (i:=Tryz.t35) C9 zt rfl rfl (Ht rfl) rfl (fun V=>dc _ _ rfl) El.one (by show 24 * _ ≤ _; omega) zo) fun B8=>(ra rfl (eZ (cK (ts (rm rfl (ro rfl (dK U_23 (Ht rfl) a7) (ro rfl (cX (cJ 0)) (eZ (eK ?_)))))))))))))))))
 refine ci (fun (k : Nat) (out : List (List Qi)) => g8 (fun i => (m.getD i default).map Rt.q) m.length out k) (fun (k : Nat) (out : List (List Qi)) => m.length - k) (fun (k : Nat) (out : List (List Qi)) => [(3, Is B8), (9, vg m), (10, NT .i64 m.length), (11, NT .i64 k)]) (fun (k : Nat) (out : List (List Qi)) => [aE 35 1 B8 (out.map q8)]) 0 (List.replicate m.length []) (g8.start _ _ _)
  (zS rfl) (aU (ar (jo q8 _ _)) aY) (fun k out hS=>?_)
 refine ts (ro rfl (gV (Ht rfl) (Ht rfl)) (eZ (cK (dQ (Ht rfl) (fun hk=>?_) (fun hk=>?_)))))
 ·simp only [decide_eq_true_eq] at hk
  have hlen:=hS.len
  have hrk : (m.getD k default).length ≤ 1000 := by
   have e:m.getD k default = m[k]:=by simp [List.getD,hk]
   rw [e]; exact hr _ (List.getElem_mem hk)
  refine cU (cK (eK (ts (rm rfl (ro rfl (dZ U_23 Z_22 (Ht rfl) (Ht rfl) rfl (eQ (dY (d:=default) hk))) (ro rfl (dV A_22 Z_22 (Ht rfl)) (ra rfl (ra rfl (eZ (cY (rm rfl (rm rfl (rm rfl (ro rfl (cZ Tryz.call104 (mZ zo) ⟨(Ht rfl),trivial⟩) (ro rfl (bi U_36 Z_35 (Ht rfl) (Ht rfl) rfl (i:=0) rfl (by first | omega | (simp; omega)) rfl) (eL Z_35 (Ht rfl) (Ht rfl) El.one (i:=0) rfl rfl (by first | omega | (simp; omega)) rfl (eZ (aB ?_))))))))))))))))))
  refine cY (ro rfl (dW (Ht rfl) (cJ 1) z6) (rm rfl (eZ (gQ (k + 1,_) (hS.next hk rfl) (by dsimp only; omega) (zS rfl) (aU (ar (c9 q8 _ _ _)) aY)))))
 ·simp only [decide_eq_false_iff_not] at hk
  obtain rfl:k = m.length:=Nat.le_antisymm hS.kle zo
  have hfin:=hS.fin
  rw [jK m (fun r=>r.map Rt.q)] at hfin
  refine gK rfl (gG (i:=0) (tt:=3) rfl rfl cg (ts (rm rfl (ra rfl (eZ (fK rfl (fJ (eY rfl) ?_)))))))
  exact (ee (by rw [hfin]))
theorem Dw {z:List Qi} {s:List (List Qi)} {L:Nat} (hz:aP z L) (hs:aL s L) (hL1:1 ≤ L) (hL:L ≤ 8796093022208) (hsh:bM s z.length z.length) (hl:z.length ≤ 1000):aw Tryz.prog 70 [aM z s,kj z s] (a9 true):=by
 have hs1:=hsh.1
 refine aw.intro Tryz.func70 rfl Tryz.ntmps70 rfl (fun cx=>(ts (rn rfl (fU (Ht rfl)) fun B2=>(rn rfl (fU (Ht rfl)) fun B3=>(ro rfl (cQ cV) (eZ (cK (cK (fV (m:=5) (dp 2 rfl (eW A_32 Z_32 (Ht rfl) (i:=0) rfl rfl rfl) (dq 13 0 rfl (cZ K_22 iY ⟨(Ht rfl),trivial⟩) (dp 3 rfl (eJ u4 (Ht rfl) rfl) (dq 15 2 rfl (fQ Tryz.isAgg35 Z_35 (Ht rfl) (i:=1) rfl rfl) (dq 16 3 rfl (dK U_35 (Ht rfl) a7) (fG aA rfl (by kernel_rfl) (zF (aJ (aV ?_))))))))))))))))))
 refine ro rfl (db (Ht rfl) (Ht rfl)) (eZ (cb (Ht rfl) (by simp) ?_))
 refine cU (cK (ts (ro rfl (eJ u4 (Ht rfl) rfl) (ro rfl (fQ Tryz.isAgg35 Z_35 (Ht rfl) (i:=1) rfl rfl) (ro rfl (dK U_35 (Ht rfl) a7) (ro rfl (cX (cJ 0)) (eZ (eK ?_))))))))
 refine b8 (fun (i : Nat) => i ≤ z.length) (fun (i : Nat) => z.length - i) (fun (i : Nat) => [(2, aH B2 0), (3, aH B3 0), (20, q8 z), (21, NT .i64 z.length), (22, NT .i64 i)]) (fun (i : Nat) => [box B2 32 [av z, bp s], box B3 38 [q8 z, QM s]]) 0 (Nat.zero_le _)
  (zS rfl) (br.refl _) (fun i hi=>?_)
 refine ts (ro rfl (gV (Ht rfl) (Ht rfl)) (eZ (cK (dQ (Ht rfl) (fun hd=>?_) (fun hd=>?_)))))
 ·simp only [decide_eq_true_eq] at hd
  haveI f1:an (gv z i) L:=hz.get hL1 i
  have hsr:=hsh.row hd
  refine cU (cK (eK (ts (rm rfl (ro rfl (dZ U_35 Z_131 (Ht rfl) (Ht rfl) rfl (eQ (dY (d:=Qi.zero) hd))) (ro rfl (dV A_131 Z_131 (Ht rfl)) (rn rfl (eG (Ts:=[Is (.bool false),Is (.slice none 0 0),Is (.bool false),Is (.slice none 0 0),Is (.slice none 0 0)]) O_131 rfl (fun V=>aW zd (aW zd (aW zd (aW zd (aW zd (aG))))))) fun B6=>(ra rfl (gJ Z_131 (Ht rfl) (Ht rfl) rfl (i:=2) rfl (aK rfl) rfl rfl ?_)))))))))
  refine eZ (ts (ro rfl (eW A_32 Z_32 (Ht rfl) (i:=0) rfl rfl rfl) (rm rfl (ro rfl (dW (Ht rfl) (cJ 1) z6) (ro rfl (cZ Tryz.call23 (eX (tz (z:=z) (s:=s) (i:=((i + 1:Nat):Int)) zo) (Bs hd)) ⟨(Ht rfl),(Ht rfl),trivial⟩) (rm rfl (ro rfl (dU (Ht rfl) rfl) (ro rfl (dU (Ht rfl) rfl) (rn rfl (eG (Ts:=[Is (.bool false),Is (.slice none 0 0),Is (.bool false),Is (.slice none 0 0),Is (.slice none 0 0)]) O_51 rfl (fun V=>aW zd (aW zd (aW zd (aW zd (aW zd (aG))))))) fun B7=>?_)))))))))
  refine gJ Z_51 (Ht rfl) (Ht rfl) rfl (i:=3) rfl (aK rfl) rfl rfl (ra rfl (eZ (cK (ts (rm rfl (ro rfl (bT (Ht rfl) cV) (rm rfl (fX rfl rfl (eU rfl rfl (Ht rfl) (fun h=>eW A_51 Z_51 (Ht rfl) (i:=3) rfl rfl rfl)) (fX rfl rfl (eU rfl rfl (Ht rfl) (fun h=>eW A_131 Z_131 (Ht rfl) (i:=2) rfl rfl rfl)) (fX rfl rfl (eU rfl rfl (Ht rfl) (fun h=>cZ Tryz.call80 (sO (x:=gv z i) (y:=gv z i) (L:=L) (M:=L) hL hL) ⟨(fW rfl h),(fW rfl h),trivial⟩)) (fX rfl rfl (eU rfl rfl (Ht rfl) (fun h=>bD (fW rfl h))) ?_)))))))))))
  refine ro rfl (eP (Ht rfl) (fun h=>(fW rfl h))) (eZ (cb (Ht rfl) (by simp) ?_))
  refine cU (ts (ro rfl (eJ yh (Ht rfl) rfl) (ro rfl (fQ Tryz.isAgg36 Tryz.sizeOf36 (Ht rfl) (i:=1) rfl rfl) (rm rfl (ro rfl (dZ U_36 Z_35 (Ht rfl) (Ht rfl) rfl (eQ (dY (d:=[]) zo))) (ro rfl (dV Tryz.isAgg35 Z_35 (Ht rfl)) (ro rfl (dK U_35 (Ht rfl) a7) (ro rfl (cX (cJ 0)) (eZ (eK (aD [0,1] rfl (by decide) ?_)))))))))))
  refine b8 (fun (j : Nat) => j ≤ z.length) (fun (j : Nat) => z.length - j) (fun (j : Nat) => [(2, aH B2 0), (3, aH B3 0), (5, NT .i64 i), (20, q8 z), (21, NT .i64 z.length), (22, NT .i64 i), (46, q8 (s.getD i [])), (47, NT .i64 z.length), (48, NT .i64 j)]) (fun (j : Nat) => [box B2 32 [av z, bp s], box B3 38 [q8 z, QM s]]) 0 (Nat.zero_le _)
   (aQ rfl (aQ rfl (aQ rfl (aQ rfl (aQ rfl (aQ rfl (aQ rfl (aZ rfl (fe hsr) (zS rfl))))))))) (br.refl _) (fun j hj=>?_)
  refine ts (ro rfl (gV (Ht rfl) (Ht rfl)) (eZ (cK (dQ (Ht rfl) (fun hf=>?_) (fun hf=>?_)))))
  ·simp only [decide_eq_true_eq] at hf
   haveI f2:an (gm s i j) L:=hs.get hL1 i j
   refine cU (cK (eK (ts (rm rfl (ro rfl (dZ U_35 Z_131 (Ht rfl) (Ht rfl) rfl (eQ (dY (d:=Qi.zero) zo))) (ro rfl (dV A_131 Z_131 (Ht rfl)) (rn rfl (eG (Ts:=[Is (.bool false),Is (.slice none 0 0),Is (.bool false),Is (.slice none 0 0),Is (.slice none 0 0)]) O_131 rfl (fun V=>aW zd (aW zd (aW zd (aW zd (aW zd (aG))))))) fun B10=>(ra rfl (gJ Z_131 (Ht rfl) (Ht rfl) rfl (i:=2) rfl (aK rfl) rfl rfl ?_)))))))))
   refine eZ (ts (ro rfl (eW A_32 Z_32 (Ht rfl) (i:=0) rfl rfl rfl) (rm rfl (ro rfl (dW (Ht rfl) (cJ 1) z6) (rm rfl (ro rfl (dW (Ht rfl) (cJ 1) z6) (ro rfl (cZ K_25 (eX (ux (z:=z) (s:=s) (i:=((i + 1:Nat):Int)) (j:=((j + 1:Nat):Int)) hsh zo) (DC hd hf)) ⟨(Ht rfl),(Ht rfl),(Ht rfl),trivial⟩) (rm rfl (ro rfl (dU (Ht rfl) rfl) (ro rfl (dU (Ht rfl) rfl) ?_))))))))))
   refine rn rfl (eG (Ts:=[Is (.bool false),Is (.slice none 0 0),Is (.bool false),Is (.slice none 0 0),Is (.slice none 0 0)]) O_51 rfl (fun V=>aW zd (aW zd (aW zd (aW zd (aW zd (aG))))))) fun B11=>gJ Z_51 (Ht rfl) (Ht rfl) rfl (i:=3) rfl (aK rfl) rfl rfl (ra rfl (eZ (ts (rm rfl (ro rfl (bT (Ht rfl) cV) (rm rfl (fX rfl rfl (eU rfl rfl (Ht rfl) (fun h=>eW A_51 Z_51 (Ht rfl) (i:=3) rfl rfl rfl)) ?_)))))))
   refine fX rfl rfl (eU rfl rfl (Ht rfl) (fun h=>eW A_131 Z_131 (Ht rfl) (i:=2) rfl rfl rfl)) (fX rfl rfl (eU rfl rfl (Ht rfl) (fun h=>cZ Tryz.call80 (sO (x:=gm s i j) (y:=gm s i j) (L:=L) (M:=L) hL hL) ⟨(fW rfl h),(fW rfl h),trivial⟩)) (fX rfl rfl (eU rfl rfl (Ht rfl) (fun h=>bD (fW rfl h))) (ro rfl (eP (Ht rfl) (fun h=>(fW rfl h))) (eZ (cb (Ht rfl) (by simp) ?_)))))
   refine cU (aB (cY (ro rfl (dW (Ht rfl) (cJ 1) z6) (rm rfl (eZ (aD [0,1] rfl (by decide) (gQ (j + 1) hf zo (zS rfl) (br.refl _))))))))
  ·refine gK rfl (aB (cY (ro rfl (dW (Ht rfl) (cJ 1) z6) (rm rfl (eZ (aD [0,1] rfl (by decide) (gQ (i + 1) hd zo (zS rfl) (br.refl _))))))))
 ·refine gK rfl (ts (ro rfl (cQ cV) (eZ ?_)))
  exact fK rfl (eY rfl)
end
section
open Go Go.RowKit
theorem ec (x:Int) {b:Int} (h:0 < b):-b < x.tmod b ∧ x.tmod b < b:=by
 by_cases hx:0 ≤ x
 ·rw [Int.tmod_eq_emod_of_nonneg hx]
  have h1:=Int.emod_nonneg x (by omega:b ≠ 0)
  have h2:=Int.emod_lt_of_pos x h
  omega
 ·have e : x.tmod b = -((-x).tmod b) := by rw [Int.neg_tmod, Int.neg_neg]
  rw [e,Int.tmod_eq_emod_of_nonneg (by omega:0 ≤ -x)]
  have h1:=Int.emod_nonneg (-x) (by omega:b ≠ 0)
  have h2:=Int.emod_lt_of_pos (-x) h
  omega
def iL (x:Int):Int:=if x < 0 then -x else x
theorem jm {x:Int} {b:Int} (h:-b < x ∧ x < b):0 ≤ iL x ∧ iL x < b:=by unfold iL; split <;> omega
def nL (r:Rt):Rt where
 re:=r.re.tmod 9
 im:=r.im.tmod 9
 den:=iL (r.den.tmod 4) + 1
 h1:=by have:=ec r.re (b:=9) (by decide); omega
 h2:=by have:=ec r.re (b:=9) (by decide); omega
 h3:=by have:=ec r.im (b:=9) (by decide); omega
 h4:=by have:=ec r.im (b:=9) (by decide); omega
 h5:=by have:=jm (ec r.den (b:=4) (by decide)); omega
 h6:=by have:=jm (ec r.den (b:=4) (by decide)); omega
def xQ (r:Rt):Rt where
 re:=iL (nL r).re + 1
 im:=0
 den:=(nL r).den
 h1:=by have:=jm (ec r.re (b:=9) (by decide)); show _ ≤ iL (r.re.tmod 9) + 1; omega
 h2:=by have:=jm (ec r.re (b:=9) (by decide)); show iL (r.re.tmod 9) + 1 ≤ _; omega
 h3:=by decide
 h4:=by decide
 h5:=(nL r).h5
 h6:=(nL r).h6
def rZ (l:List Rt) (i:Nat):Rt:=if l.length = 0 then default else l.getD (i % l.length) default
def fl (a:Nat):Nat:=a % 4 + 1
def iw (a:Nat) (zl:List Rt):List Rt:=tab (fl a) fun i=>xQ (rZ zl i)
def kJ (a:Nat) (sl:List Rt):List (List Rt):=tab (fl a) fun i=>tab (fl a) fun j=>nL (rZ sl (fl a * i + j))
theorem yx (r:Rt):ez (xQ r).q = true:=by
 have h1:=jm (ec r.re (b:=9) (by decide))
 have h2:=jm (ec r.den (b:=4) (by decide))
 have hd : (xQ r).d = iL (r.den.tmod 4) + 1 := by
  show (if iL (r.den.tmod 4) + 1 = 0 then 1 else iL (r.den.tmod 4) + 1) = _
  rw [if_neg zo]
 have hq:(xQ r).q = Qi.frac (iL (r.re.tmod 9) + 1) 0 (iL (r.den.tmod 4) + 1):=by rw [Rt.q,hd]; rfl
 have hb:(xQ r).q.b = 0:=Qi.b_zero.2 (by rw [hq]; show ((0:Int):Rat) / _ = 0; rw [Rat.div_def]; exact Rat.zero_mul _)
 have ha : 0 < (xQ r).q.a := by
  rw [Qi.a_pos,hq]
  show (0:Rat) < ((iL (r.re.tmod 9) + 1:Int):Rat) / ((iL (r.den.tmod 4) + 1:Int):Rat)
  rw [Rat.div_def]
  refine Rat.mul_pos (Rat.intCast_pos.2 zo) (Rat.inv_pos.2 (Rat.intCast_pos.2 zo))
 simp only [ez,hb,ha,and_self,decide_true]
theorem mW (a:Nat) (zl sl:List Rt):aR ((iw a zl).map Rt.q) (rq (kJ a sl)) = 0:=by
 have hz:((iw a zl).map Rt.q).length = fl a:=by rw [List.length_map,iw,ao]
 have hs:(rq (kJ a sl)).length = fl a:=by rw [List.length_map,kJ,ao]
 have hn:fl a ≤ 4:=by unfold fl; omega
 have hn1:1 ≤ fl a:=by unfold fl; omega
 rw [aR,if_neg,if_pos]
 ·rw [List.all_eq_true]
  intro x hx
  obtain ⟨r,hr,rfl⟩:=List.mem_map.1 hx
  obtain ⟨i,_,rfl⟩:=dt.1 hr
  exact yx _
 ·rw [hz, hs]
  rintro (h | h | h | h)
  ·omega
  ·omega
  ·exact h rfl
  ·obtain ⟨r, hr, h2⟩ := List.any_eq_true.1 h
   obtain ⟨y,hy,rfl⟩:=List.mem_map.1 hr
   obtain ⟨i,_,rfl⟩:=dt.1 hy
   simp [ao] at h2
def k9 (x : Qi) (l m : List Qi) : Nat → Qi
 | 0=>x
 | k + 1=>k9 x l m k + gv l k * gv m k
theorem qp {x : Qi} {l m : List Qi} {L M : Nat} (hx : an x M) (hl : aP l L) (hm : aP m L) (hL : 1 ≤ L) : ∀ k, an (k9 x l m k) (M + k * (2 * L + 2))
 | 0=>hx.le zo
 | k + 1 => by
  haveI f1:=qp hx hl hm hL k
  haveI f2:=hl.get hL k
  haveI f3:=hm.get hL k
  have:an (k9 x l m (k + 1)) (M + k * (2 * L + 2) + (L + L + 1) + 1):=by unfold k9; infer_instance
  exact this.le (by rw [Nat.add_mul]; omega)
end
section
open Go Go.RowKit
theorem nV {n : Nat} {E : aT} {H : Hp} {d : Option Tmp} {t : TypeId} {pos : String} {af : Array Edge} {g : Option (Nat × Bool)} {x0 x1 x2 : Operand} {T0 T1 T2 : Ty} [s0 : bg T0 1 false] (h0 : ax E x0 T0) [s1 : bg T1 1 false] (h1 : ax E x1 T1) [s2 : bg T2 1 false] (h2 : ax E x2 T2) :
  ae Tryz.prog n E H ⟨d,.build 102 #[(0,x0),(1,x1),(2,x2)],t,pos,af,g⟩ (bB [T0,T1,T2]) :=
 cB (parts := [(0, x0), (1, x1), (2, x2)]) fun a V w hs => by
  have p0:=h0 n V a hs
  generalize e0:a.eval x0 = v0 at p0
  have q0:=(s0.ok v0 V p0).2.2 rfl
  have p1:=h1 n V a hs
  generalize e1:a.eval x1 = v1 at p1
  have q1:=(s1.ok v1 V p1).2.2 rfl
  have p2:=h2 n V a hs
  generalize e2:a.eval x2 = v2 at p2
  have q2:=(s2.ok v2 V p2).2.2 rfl
  refine ⟨.agg #[v0,v1,v2],?_,[v0,v1,v2],rfl,aW (⟨p0,q0⟩) (aW (⟨p1,q1⟩) (aW (⟨p2,q2⟩) (aG)))⟩
  simp [e0,e1,e2,Instr.build,Instr.fill,Sem.run_bind,Result.andThen,ca,q0.cells,q1.cells,q2.cells,O_102,U_102,Z_2]
end
section
open Go Go.RowKit
theorem Ds {x:Qi} {l m:List Qi} {L M n:Nat} (hx:an x M) (hl:aP l L) (hm:aP m L) (hL:1 ≤ L) (hll:l.length = n) (hml:m.length = n) (hn:n ≤ 1000) (hb:M + n * (2 * L + 2) ≤ 17592186044415):aw Tryz.prog 123 [ab x,av l,av m] (ab (k9 x l m n)):=by
 refine aw.intro Tryz.func123 rfl Tryz.ntmps123 rfl (fun cx=>(ts (rn rfl (fU (Ht rfl)) fun B3=>(rn rfl (eG (Ts:=[Is (.bool false),Is (.slice none 0 0),Is (.bool false),Is (.slice none 0 0),Is (.slice none 0 0)]) O_51 rfl (fun V=>aW zd (aW zd (aW zd (aW zd (aW zd (aG))))))) fun B6=>(eZ (cK (ts (rm rfl (ro rfl (dK U_29 (Ht rfl) (by rw [List.length_map,hll])) ?_)))))))))
 refine ro rfl (cX (cJ 0)) (eZ (eK ?_))
 refine b8 (fun (k : Nat) => k ≤ n) (fun (k : Nat) => n - k) (fun (k : Nat) => [(1, av l), (2, av m), (3, aH B3 0), (6, aH B6 0), (9, NT .i64 n), (10, NT .i64 k)]) (fun (k : Nat) => [box B3 51 [a9 (decide ((k9 x l m k).a < 0)), ah (k9 x l m k).a.natAbs, a9 (decide ((k9 x l m k).b < 0)), ah (k9 x l m k).b.natAbs, ah (du (k9 x l m k))], box B6 51 [Is (.bool false), Is (.slice none 0 0), Is (.bool false), Is (.slice none 0 0), Is (.slice none 0 0)]]) 0 (Nat.zero_le _)
  (zS rfl) (br.refl _) (fun k hk=>?_)
 refine ts (ro rfl (gV (Ht rfl) (Ht rfl)) (eZ (cK (dQ (Ht rfl) (fun hd=>?_) (fun hd=>?_)))))
 ·simp only [decide_eq_true_eq] at hd
  haveI f1:=qp hx hl hm hL k
  haveI f2:=hl.get hL k
  haveI f3:=hm.get hL k
  have hkn:(k + 1) * (2 * L + 2) ≤ n * (2 * L + 2):=Nat.mul_le_mul_right _ hd
  rw [Nat.add_mul] at hkn
  refine cU (cK (eK (ts (rm rfl (ra rfl (eZ (fV (m:=12) (dp 3 rfl (eW A_51 Z_51 (Ht rfl) (i:=0) rfl rfl rfl) (dq 13 0 rfl (ay aF (Ht rfl)) (dp 1 rfl (cX (Ht rfl)) (dp 7 rfl (cX (Ht rfl)) (bv 15 2 16 3 rfl (dZ U_29 Z_51 (Ht rfl) (Ht rfl) rfl (eQ (dY (d:=Qi.zero) zo))) (dq 17 4 rfl (dV A_51 Z_51 (Ht rfl)) (dq 18 5 rfl (ay aF (Ht rfl)) (dp 2 rfl (cX (Ht rfl)) (dp 7 rfl (cX (Ht rfl)) (bv 20 7 21 8 rfl (dZ U_29 Z_51 (Ht rfl) (Ht rfl) rfl (eQ (dY (d:=Qi.zero) zo))) ?_)))))))))))))))))
  refine dq 22 9 rfl (dV A_51 Z_51 (Ht rfl)) (bv 19 6 23 10 rfl (ap b7 K_45 (eS (x:=gv l k) (y:=gv m k) (L:=L) (M:=L) zo) (Ht rfl) ⟨(Ht rfl),trivial⟩) (fG aA rfl (by kernel_rfl) (zF (zF (zF (aV (ro rfl (ap fd K_46 (n8 (x:=k9 x l m k) (y:=gv l k * gv m k) (L:=M + k * (2 * L + 2)) (M:=L + L + 1) zo) (Ht rfl) ⟨(Ht rfl),trivial⟩) (gJ Z_51 (Ht rfl) (Ht rfl) rfl (i:=0) rfl (aK rfl) rfl rfl ?_))))))))
  refine eZ (aB (cY (ro rfl (dW (Ht rfl) (cJ 1) z6) (rm rfl (eZ (gQ (k + 1) hd zo (zS rfl) (br.refl _)))))))
 ·simp only [decide_eq_false_iff_not] at hd
  obtain rfl:k = n:=Nat.le_antisymm hk zo
  refine gK rfl (ts (ro rfl (eW A_51 Z_51 (Ht rfl) (i:=0) rfl rfl rfl) (gJ Z_51 (Ht rfl) (Ht rfl) rfl (i:=1) rfl (aK rfl) rfl rfl (eZ ?_))))
  exact fK rfl (fY A_51 Z_51 rfl (i:=1) rfl rfl)
theorem td {r:Rt}:aw Tryz.prog 130 [fD r] (fD (nL r)):=by
 have b1:=ec r.den (b:=4) (by decide)
 refine aw.intro Tryz.func130 rfl Tryz.ntmps130 rfl (fun cx=>(ts (rn rfl (fU (Ht rfl)) fun B1=>(rn rfl (eG (Ts:=[Is (.int .i64 0),Is (.int .i64 0),Is (.int .i64 0)]) O_102 rfl (fun V=>aW zd (aW zd (aW zd (aG))))) fun B2=>(eZ (ts (ro rfl (eJ gi (Ht rfl) rfl) (ro rfl (fQ A_2 Z_2 (Ht rfl) (i:=0) rfl rfl) (ro rfl (pq (Ht rfl) cV (by decide) rfl) (ra rfl (eZ (cK (dz (fun (d:Int)=>d = iL (r.den.tmod 4)) (fun (d:Int)=>[(1,aH B1 0),(2,aH B2 0),(3,aa .i64 d)]) (fun (d:Int)=>[box B1 102 [aa .i64 r.re,aa .i64 r.im,aa .i64 r.den],box B2 102 [Is (.int .i64 0),Is (.int .i64 0),Is (.int .i64 0)]]) ?_ (fun d hd=>?_))))))))))))))
 ·refine ts (rm rfl (ro rfl (j7 (Ht rfl) cV) (eZ (dQ (Ht rfl) (fun hb => ?_) (fun hb => ?_)))))
  ·have hb2 : r.den.tmod 4 < 0 := of_decide_eq_true hb
   refine cY (rm rfl (ro rfl (pG (Ht rfl) (kq zo)) (ra rfl (eZ (au (-(r.den.tmod 4)) (by rw [iL,if_pos hb2]) (zS rfl) (br.refl _))))))
  ·have hb2 : ¬ r.den.tmod 4 < 0 := of_decide_eq_false hb
   refine cU (au (r.den.tmod 4) (by rw [iL,if_neg hb2]) (zS rfl) (br.refl _))
 ·have b2 := jm b1
  rw [← hd] at b2
  refine ts (ro rfl (eJ ie (Ht rfl) rfl) (ro rfl (fQ A_2 Z_2 (Ht rfl) (i:=0) rfl rfl) (ro rfl (pq (Ht rfl) cV (by decide) rfl) (ro rfl (eJ nh (Ht rfl) rfl) (ro rfl (fQ A_2 Z_2 (Ht rfl) (i:=0) rfl rfl) (ro rfl (pq (Ht rfl) cV (by decide) rfl) (rm rfl (ro rfl (mK (Ht rfl) cV (kq zo)) (ro rfl (nV (Ht rfl) (Ht rfl) (Ht rfl)) (gJ Z_102 (Ht rfl) (Ht rfl) rfl (i:=1) rfl (aK rfl) rfl rfl (eZ (fK rfl (fJ (fY A_102 Z_102 rfl (i:=1) rfl rfl) ?_)))))))))))))
  exact (fun v V h=>by rw [hd] at h; exact h)
theorem zy {r:Rt}:aw Tryz.prog 83 [fD r] (fD (xQ r)):=by
 have b1:-9 < (nL r).re ∧ (nL r).re < 9:=ec r.re (b:=9) (by decide)
 refine aw.intro Tryz.func83 rfl Tryz.ntmps83 rfl (fun cx=>(ts (rn rfl (fU (Ht rfl)) fun B1=>(rn rfl (eG (Ts:=[Is (.int .i64 0),Is (.int .i64 0),Is (.int .i64 0)]) O_102 rfl (fun V=>aW zd (aW zd (aW zd (aG))))) fun B2=>(eZ (ts (ro rfl (eW A_102 Z_102 (Ht rfl) (i:=0) rfl rfl rfl) (ro rfl (cZ Tryz.call130 td ⟨(Ht rfl),trivial⟩) (rn rfl (eG (Ts:=[Is (.int .i64 0),Is (.int .i64 0),Is (.int .i64 0)]) O_102 rfl (fun V=>aW zd (aW zd (aW zd (aG))))) fun B3=>?_)))))))))
 refine gJ Z_102 (Ht rfl) (Ht rfl) rfl (i:=2) rfl (aK rfl) rfl rfl (eZ (cK (dz (fun (x:Int)=>x = iL (nL r).re) (fun (x:Int)=>[(1,aH B1 0),(2,aH B2 0),(3,aH B3 0)]) (fun (x:Int)=>[box B1 102 [aa .i64 r.re,aa .i64 r.im,aa .i64 r.den],box B2 102 [Is (.int .i64 0),Is (.int .i64 0),Is (.int .i64 0)],box B3 102 [aa .i64 x,aa .i64 (nL r).im,aa .i64 (nL r).den]]) ?_ (fun x hx=>?_))))
 ·refine ts (ro rfl (eJ ie (Ht rfl) rfl) (ro rfl (fQ A_2 Z_2 (Ht rfl) (i := 2) rfl rfl) (ro rfl (j7 (Ht rfl) cV) (eZ (dQ (Ht rfl) (fun hb => ?_) (fun hb => ?_))))))
  ·have hb2 : (nL r).re < 0 := of_decide_eq_true hb
   refine cY (ro rfl (eJ ie (Ht rfl) rfl) (ro rfl (fQ A_2 Z_2 (Ht rfl) (i:=2) rfl rfl) (ro rfl (pG (Ht rfl) (kq zo)) (ro rfl (eJ ie (Ht rfl) rfl) (dI Z_2 (Ht rfl) (Ht rfl) (i:=2) rfl (aK rfl) rfl (eZ (au (-((nL r).re)) (by rw [iL,if_pos hb2]) (zS rfl) (br.refl _))))))))
  ·have hb2 : ¬ (nL r).re < 0 := of_decide_eq_false hb
   refine cU (au ((nL r).re) (by rw [iL,if_neg hb2]) (zS rfl) (br.refl _))
 ·have b2 := jm b1
  rw [← hx] at b2
  refine ts (ro rfl (eJ ie (Ht rfl) rfl) (ro rfl (fQ A_2 Z_2 (Ht rfl) (i:=2) rfl rfl) (ro rfl (mK (Ht rfl) cV (kq zo)) (ro rfl (eJ gi (Ht rfl) rfl) (ro rfl (fQ A_2 Z_2 (Ht rfl) (i:=2) rfl rfl) (ro rfl (mf (Ht rfl) (Ht rfl)) (gJ Z_102 (Ht rfl) (Ht rfl) rfl (i:=1) rfl (aK rfl) rfl rfl (eZ (fK rfl (fJ (fY A_102 Z_102 rfl (i:=1) rfl rfl) ?_))))))))))
  exact (fun v V h=>by rw [hx] at h; exact h)
theorem x8 {l:List Rt} {i:Nat}:aw Tryz.prog 131 [fq l,NT .i64 i] (fD (rZ l i)):=by
 refine aw.intro Tryz.func131 rfl Tryz.ntmps131 rfl (fun cx=>(ts (rn rfl (eG (Ts:=[Is (.int .i64 0),Is (.int .i64 0),Is (.int .i64 0)]) O_102 rfl (fun V=>aW zd (aW zd (aW zd (aG))))) fun B4=>(eZ (cK (ts (rm rfl (ro rfl (dK U_22 (Ht rfl) a7) (ro rfl (aO (Ht rfl) (cJ 0)) (eZ (dQ (Ht rfl) (fun hb=>?_) (fun hb=>?_))))))))))))
 ·have hb2 : l.length = 0 := by simpa only [decide_eq_true_eq] using hb
  refine ts (ro rfl (xf ) (gJ Z_102 (Ht rfl) (Ht rfl) rfl (i:=0) rfl (aK rfl) rfl rfl (eZ (fK rfl (fJ (fY A_102 Z_102 rfl (i:=0) rfl rfl) ?_)))))
  exact (fun v V h=>by rw [rZ,if_pos hb2]; exact h)
 ·have hb2 : ¬ l.length = 0 := by simpa only [decide_eq_false_iff_not] using hb
  have hm:=Nat.mod_lt i (Nat.pos_of_ne_zero hb2)
  refine cU (ts (rm rfl (rm rfl (rm rfl (ro rfl (dK U_22 (Ht rfl) a7) (ro rfl (eD (Ht rfl) (Ht rfl) zo) (ro rfl (dZ U_22 Z_102 (Ht rfl) (Ht rfl) rfl (eQ (dY (d:=default) hm))) (ro rfl (dV A_102 Z_102 (Ht rfl)) (gJ Z_102 (Ht rfl) (Ht rfl) rfl (i:=0) rfl (aK rfl) rfl rfl (eZ (fK rfl (fJ (fY A_102 Z_102 rfl (i:=0) rfl rfl) ?_))))))))))))
  exact (fun v V h=>by rw [rZ,if_neg hb2]; exact h)
end
section
open Go Go.RowKit
theorem oN (a:Addr) (w:World):(Instr.fieldAt 57 (.pointer (some a)) 0).run Tryz.prog w = .ok (.pointer (some (a.add 0))) w:=by
 simp [Instr.fieldAt,Instr.sureAddr,fieldPlace,Sem.run_bind,Result.andThen,U_57,Z_5]
theorem y3 (a:Addr) (w:World):(Instr.fieldAt 57 (.pointer (some a)) 1).run Tryz.prog w = .ok (.pointer (some (a.add 1))) w:=by
 simp [Instr.fieldAt,Instr.sureAddr,fieldPlace,Sem.run_bind,Result.andThen,U_57,Z_22]
theorem zI (a:Addr) (w:World):(Instr.fieldAt 57 (.pointer (some a)) 2).run Tryz.prog w = .ok (.pointer (some (a.add 2))) w:=by
 simp [Instr.fieldAt,Instr.sureAddr,fieldPlace,Sem.run_bind,Result.andThen,U_57,Z_22]
theorem qD:Tryz.prog.info? 102 = some Tryz.t102:=by kernel_rfl
theorem zj:Tryz.prog.info? 22 = some Tryz.t22:=by kernel_rfl
theorem xh:Tryz.prog.underlying 22 = some (.slice 102):=by kernel_rfl
end
section
open Go Go.RowKit
abbrev n5 (a:Nat) (zl sl:List Rt):Ty:=bB [NT .u8 a,fq zl,fq sl]
theorem vM:∀ V,(fD default).p (.agg #[.int .i64 0,.int .i64 0,.int .i64 0]) V:=fun V=>⟨[.int .i64 0,.int .i64 0,.int .i64 0],rfl,aW zd (aW zd (aW zd aG))⟩
theorem E5 {B e s l:Nat} {BT:TypeId} {Rs:List (List Ty)} {q:Value → Prop} (hl:l = Rs.length):∀ u S V,(Is (.slice (some ⟨B,0,none⟩) l l)).p u V → (ke q B BT e s Rs).h S V V → (dP 1 (Rs.map (dP s))).p u V:=fun u S V h1 h2=>p7 hl (Nat.le_refl _) u S V h1 h2
theorem xg (a:Nat) (sl:List Rt):(tab (fl a) fun i=>tab (fl a) fun j=>fD (nL (rZ sl (fl a * i + j)))).map (dP 3) = (kJ a sl).map fq:=by
 rw [kJ,g5,g5]
 refine ba fun i _=>?_
 rw [fq,g5]
theorem wc {a:Nat} {zl sl:List Rt} (ha:a < 256):dy Tryz.prog 103 [n5 a zl sl] [] (Nat) (fun B=>bo [fq (iw a zl),Is (.slice (some ⟨B,0,none⟩) (fl a) (fl a))]) (fun B=>[gt B 22 102 3 (tab (fl a) (fun i=>tab (fl a) fun j=>fD (nL (rZ sl (fl a * i + j)))))]) (fun _=>True):=by
 have hn:fl a ≤ 4:=by unfold fl; omega
 have hn0:a % 4 + 1 = fl a:=rfl
 refine dy.intro Tryz.func103 rfl Tryz.ntmps103 rfl (fun cx Z=>(ts (rn rfl (fU (Ht rfl)) fun B1=>(ro rfl (cQ cV) (ro rfl (cQ cV) (eZ (ts (ro rfl (eJ oN (Ht rfl) rfl) (ro rfl (fQ A_5 Z_5 (Ht rfl) (i:=1) rfl rfl) (ro rfl (eD (Ht rfl) (cJ 4) zo) (ro rfl (gW U_5 U_3 (Ht rfl) z6) (ro rfl (ae.nat (dW (Ht rfl) (cJ 1) z6) hn0) ?_))))))))))))
 refine ra rfl (eZ (cK (fV (m:=5) (dp 4 rfl (cX (Ht rfl)) (C.D_new (Ei:=[(14,_)]) rfl rfl rfl (bV (bG 0 rfl rfl) bW) (cy (T:=fD default) (i:=Tryz.t102) xh qD rfl rfl (Ht rfl) rfl vM (El.ag rfl) (by show 24 * _ ≤ _; omega) zo) (dp 4 rfl (cX (Ht rfl)) (C.D_new (Ei:=[(16,_)]) rfl rfl rfl (bV (bG 2 rfl rfl) bW) (ck (T:=Is (.slice none 0 0)) (i:=Tryz.t22) Tryz.underlying23 zj rfl rfl (Ht rfl) rfl (fun _=>rfl) trivial (by show 24 * _ ≤ _; omega) zo) (C.D_cpy 1 rfl rfl rfl rfl rfl C.cpy_assign ?_))))))))
 refine fG aA rfl (by kernel_rfl) (aJ (C.F_new (fun B15=>aJ (C.F_new (fun B17=>C.F_cpy rfl (aV (ra rfl (eZ (cK (ts (rm rfl (ro rfl (gH U_22 (Ht rfl) (i:=2) rfl (show ((List.replicate (fl a) (fD default)).length:Int) = ((fl a:Nat):Int) from by simp)) (ro rfl (cX (cJ 0)) (eZ (eK (fw 3 rfl (l8 (e:=102) (s:=3)) ?_))))))))))))))))
 refine b8 (fun (i : Nat) => i ≤ fl a) (fun (i : Nat) => fl a - i) (fun (i : Nat) => [(1, aH B1 0), (4, NT .i64 (fl a)), (5, Is B15), (6, Is (.slice (some ⟨B17, 0, none⟩) (fl a) (fl a))), (19, NT .i64 (fl a)), (20, NT .i64 i)]) (fun (i : Nat) => [Z, box B1 57 [NT .u8 a, fq zl, fq sl], aE 102 3 B15 (dN (fun i => fD (xQ (rZ zl i))) (fD default) (fl a) i), gt B17 22 102 3 (dN (fun i => tab (fl a) fun j => fD (nL (rZ sl (fl a * i + j)))) [] (fl a) i)]) 0 (Nat.zero_le _)
  (aQ rfl (aQ rfl (aQ rfl (aQ rfl (aZ rfl (fe (by simp)) (zS rfl)))))) (aU (fun _ _ _ h=>h) (aU (a8 rfl) (aU (ar (by rw [← cP]; exact lm _ _)) (aU (bO (by rw [← cP]; exact lm _ _)) aY)))) (fun i hi=>?_)
 refine ts (ro rfl (gV (Ht rfl) (Ht rfl)) (eZ (cK (dQ (Ht rfl) (fun hd=>?_) (fun hd=>?_)))))
 ·simp only [decide_eq_true_eq] at hd
  have hni:fl a * i ≤ 4 * 4:=Nat.mul_le_mul hn zo
  refine ip 3 (i) rfl (tH hd) (fun v0=>(cU (cK (eK (ts (rm rfl (ra rfl (eZ (ts (rm rfl (rm rfl (ro rfl (eJ y3 (Ht rfl) rfl) (ro rfl (fQ A_22 Z_22 (Ht rfl) (i:=1) rfl rfl) (rm rfl (ro rfl (cZ Tryz.call131 x8 ⟨(Ht rfl),(Ht rfl),trivial⟩) (ro rfl (cZ Tryz.call83 zy ⟨(Ht rfl),trivial⟩) (ro rfl (bi U_22 Z_102 (Ht rfl) (Ht rfl) rfl (i:=2) rfl (by rw [b9]; omega) rfl) ?_)))))))))))))))))
  refine eL Z_102 (Ht rfl) (Ht rfl) (El.ag rfl) (i:=2) rfl rfl (by rw [b9]; omega) rfl ?_
  refine eZ (ts (rm rfl (rm rfl (rm rfl (rn rfl (cy (T:=fD default) (i:=Tryz.t102) xh qD rfl rfl (Ht rfl) rfl vM (El.ag rfl) (by show 24 * _ ≤ _; omega) zo) fun B34=>(ro rfl (gX U_23 Z_22 (Ht rfl) (Ht rfl) rfl zo (by rw [Nat.mul_one,Nat.zero_add])) ?_))))))
  refine nw Z_22 (Ht rfl) (Ht rfl) (by rw [b9]; omega) (j:=3) (l:=5) rfl rfl rfl ?_
  refine eZ (cK (aD [0,1,2,3,5] rfl (by decide) (cY (rm rfl (rm rfl (ro rfl (gX U_23 Z_22 (Ht rfl) (Ht rfl) rfl zo (by rw [Nat.mul_one,Nat.zero_add])) ?_))))))
  refine ro rfl (fO A_22 Z_22 (Ht rfl) (j:=3) rfl) (ro rfl (gH U_22 (Ht rfl) (i:=4) rfl (show ((List.replicate (fl a) (fD default)).length:Int) = ((fl a:Nat):Int) from by simp)) (ro rfl (cX (cJ 0)) (eZ (eK ?_))))
  refine b8 (fun (j : Nat) => j ≤ fl a) (fun (j : Nat) => fl a - j) (fun (j : Nat) => [(1, aH B1 0), (4, NT .i64 (fl a)), (5, Is B15), (6, Is (.slice (some ⟨B17, 0, none⟩) (fl a) (fl a))), (7, NT .i64 i), (19, NT .i64 (fl a)), (20, NT .i64 i), (40, NT .i64 (fl a)), (41, NT .i64 j)]) (fun (j : Nat) => [Z, box B1 57 [NT .u8 a, fq zl, fq sl], aE 102 3 B15 (dN (fun i => fD (xQ (rZ zl i))) (fD default) (fl a) (i + 1)), qL B17 22 102 3 (dN (fun i => tab (fl a) fun j => fD (nL (rZ sl (fl a * i + j)))) [] (fl a) i) i B34, aE 102 3 B34 (dN (fun j => fD (nL (rZ sl (fl a * i + j)))) (fD default) (fl a) j)]) 0 (Nat.zero_le _)
   (zS rfl) (aU (fun _ _ _ h=>h) (aU (a8 rfl) (aU (ar (dC (f:=(fun i=>fD (xQ (rZ zl i)))))) (aU (fun _ _ _ h=>h) (aU (ar (by rw [← cP]; exact lm _ _)) aY))))) (fun j hj=>?_)
  refine ts (ro rfl (gV (Ht rfl) (Ht rfl)) (eZ (cK (dQ (Ht rfl) (fun he=>?_) (fun he=>?_)))))
  ·simp only [decide_eq_true_eq] at he
   refine cU (cK (eK (ts (rm rfl (ra rfl (eZ (fV (m:=14) (dp 6 rfl (cX (Ht rfl)) (dp 7 rfl (cX (Ht rfl)) (bv 44 0 45 1 rfl (gX U_23 Z_22 (Ht rfl) (Ht rfl) rfl zo (by rw [Nat.mul_one,Nat.zero_add])) ?_))))))))))
   refine dq 46 2 rfl (fO A_22 Z_22 (Ht rfl) (j:=3) rfl) (dp 8 rfl (cX (Ht rfl)) (dp 1 rfl (eJ zI (Ht rfl) rfl) (dq 49 5 rfl (fQ A_22 Z_22 (Ht rfl) (i:=1) rfl rfl) (dp 4 rfl (cX (Ht rfl)) (dp 7 rfl (cX (Ht rfl)) (bv 51 7 52 8 rfl (eC (Ht rfl) (Ht rfl) (by show _ < 9223372036854775808; omega)) (dp 8 rfl (cX (Ht rfl)) (bv 53 9 54 10 rfl (dW (Ht rfl) (Ht rfl) (by show _ < 9223372036854775808; omega)) (bv 50 6 55 11 rfl (cZ Tryz.call131 x8 ⟨(Ht rfl),(Ht rfl),trivial⟩) (dq 56 12 rfl (cZ Tryz.call130 td ⟨(Ht rfl),trivial⟩) ?_))))))))))
   refine fG aA rfl (by kernel_rfl) (zF (zF (zF (aJ (aJ (aV (ro rfl (bi U_22 Z_102 (Ht rfl) (Ht rfl) rfl (i:=4) rfl (by rw [b9]; omega) rfl) ?_)))))))
   refine eL Z_102 (Ht rfl) (Ht rfl) (El.ag rfl) (i:=4) rfl rfl (by rw [b9]; omega) rfl ?_
   refine eZ (aB (cY (ro rfl (dW (Ht rfl) (cJ 1) z6) (rm rfl (eZ (gQ (j + 1) he zo (zS rfl) (aU (fun _ _ _ h=>h) (aU (a8 rfl) (aU (fun _ _ _ h=>h) (aU (fun _ _ _ h=>h) (aU (ar (dC (f:=fun j=>fD (nL (rZ sl (fl a * i + j)))))) aY)))))))))))
  ·simp only [decide_eq_false_iff_not] at he
   have hjn:j = fl a:=Nat.le_antisymm hj zo
   rw [hjn,dD]
   refine gK rfl (aB (eH 3 4 rfl rfl (by decide) (by rw [b9]; omega) ?_))
   refine cY (ro rfl (dW (Ht rfl) (cJ 1) z6) (rm rfl (eZ (aD [0,1,2,3] rfl (by decide) (gQ (i + 1) hd zo (zS rfl) (aU (fun _ _ _ h=>h) (aU (a8 rfl) (aU (fun _ _ _ h=>h) (aU (bO (dC (f:=(fun i=>tab (fl a) fun j=>fD (nL (rZ sl (fl a * i + j))))))) aY)))))))))
 ·simp only [decide_eq_false_iff_not] at hd
  have hin:i = fl a:=Nat.le_antisymm hi zo
  rw [hin,dD,dD]
  refine gK rfl (gG (i:=2) (tt:=5) rfl rfl cg (ts (rm rfl (rm rfl (ra rfl (ra rfl (eZ ?_)))))))
  exact fo B17 trivial [0,3] ⟨⟨_,rfl,fun _ _ _ h=>h⟩,⟨_,rfl,fun _ _ _ h=>h⟩,trivial⟩ (by decide) (C2 rfl (fJ (eY rfl) (ee (by rw [iw,g5]))) (eY rfl))
theorem E6 {T U U':Ty} {v:Value} {V:as} (h:(bo [T,U]).p v V) (hU:∀ u,U.p u V → U'.p u V):(bo [T,U']).p v V:=by
 obtain ⟨vs,h1,h2⟩:=h
 match vs,h2 with
 | [x,y],⟨a,b,c⟩=>exact ⟨[x,y],h1,a,hU y b,c⟩
theorem Aa {a : Nat} {zl sl : List Rt} (ha : a < 256) : aw Tryz.prog 103 [n5 a zl sl] (bo [fq (iw a zl), vg (kJ a sl)]) := (wc ha).fun fun B _ v S V h1 h2 => E6 h1 fun u hu => by
 exact ee (xg a sl) u V (E5 (ao _ _).symm u S V hu h2)
theorem p9 {a:Nat} {zl sl:List Rt} (ha:a < 256):aw Tryz.prog 21 [n5 a zl sl] (bo [aM ((iw a zl).map Rt.q) (rq (kJ a sl)),kj ((iw a zl).map Rt.q) (rq (kJ a sl)),a9 true]):=by
 have hn:fl a ≤ 4:=by unfold fl; omega
 have herr:=mW a zl sl
 have hzl:(iw a zl).length = fl a:=ao _ _
 have hsl:(kJ a sl).length = fl a:=ao _ _
 have hall:∀ r,r ∈ kJ a sl → r.length ≤ 1000:=fun r hr=>by obtain ⟨i,_,rfl⟩:=dt.1 hr; rw [ao]; omega
 have hsh:=(fI herr).2.2.1
 have z1:((iw a zl).map Rt.q).length ≤ 1000:=by rw [List.length_map,hzl]; omega
 have s1:(rq (kJ a sl)).length ≤ 1000:=by rw [List.length_map,hsl]; omega
 have hcv:∀ v V,(bo [aM (cL (aR ((iw a zl).map Rt.q) (rq (kJ a sl))) ((iw a zl).map Rt.q)) (cL (aR ((iw a zl).map Rt.q) (rq (kJ a sl))) (rq (kJ a sl))),aa .i64 (aR ((iw a zl).map Rt.q) (rq (kJ a sl)))]).p v V → (bo [aM ((iw a zl).map Rt.q) (rq (kJ a sl)),aa .i64 0]).p v V:=by rw [herr]; exact fun _ _ h=>h
 have hcv2:∀ v V,(bo [kj (cL (aR ((iw a zl).map Rt.q) (rq (kJ a sl))) ((iw a zl).map Rt.q)) (cL (aR ((iw a zl).map Rt.q) (rq (kJ a sl))) (rq (kJ a sl))),aa .i64 (aR ((iw a zl).map Rt.q) (rq (kJ a sl)))]).p v V → (bo [kj ((iw a zl).map Rt.q) (rq (kJ a sl)),aa .i64 0]).p v V:=by rw [herr]; exact fun _ _ h=>h
 refine aw.intro Tryz.func21 rfl Tryz.ntmps21 rfl (fun cx=>(ts (rn rfl (fU (Ht rfl)) fun B1=>(rn rfl (eG (Ts:=[Is (.slice none 0 0),Is (.slice none 0 0)]) O_32 rfl (fun V=>aW zd (aW zd (aG)))) fun B2=>(rn rfl (eG (Ts:=[Is (.slice none 0 0),Is (.slice none 0 0)]) O_38 rfl (fun V=>aW zd (aW zd (aG)))) fun B3=>(ro rfl (cQ cV) (eZ (ts (ro rfl (eW A_57 Z_57 (Ht rfl) (i:=0) rfl rfl rfl) (ro rfl (cZ Tryz.call103 (Aa ha) ⟨(Ht rfl),trivial⟩) ?_))))))))))
 refine rm rfl (ro rfl (dU (Ht rfl) rfl) (ro rfl (dU (Ht rfl) rfl) (ra rfl (ra rfl (eZ (ts (rm rfl (ro rfl (cZ Tryz.call48 (lY zo) ⟨(Ht rfl),trivial⟩) (rm rfl (ro rfl (cZ Tryz.call86 (ou zo hall) ⟨(Ht rfl),trivial⟩) (ro rfl (cZ Tryz.call85 (eX (kT (z:=((iw a zl).map Rt.q)) (s:=(rq (kJ a sl))) (L:=2) aP.rt (by decide) z1 s1) hcv) ⟨(Ht rfl),(Ht rfl),trivial⟩) (rm rfl (ro rfl (dU (Ht rfl) rfl) (ro rfl (dU (Ht rfl) rfl) (rn rfl (eG (Ts:=[Is (.slice none 0 0),Is (.slice none 0 0)]) O_32 rfl (fun V=>aW zd (aW zd (aG)))) fun B7=>?_)))))))))))))))
 refine gJ Z_32 (Ht rfl) (Ht rfl) rfl (i:=3) rfl (aK rfl) rfl rfl (ra rfl (eZ (ts (rm rfl (ro rfl (cZ Tryz.call104 (mZ zo) ⟨(Ht rfl),trivial⟩) (rm rfl (ro rfl (cZ Tryz.call105 (rN zo hall) ⟨(Ht rfl),trivial⟩) (ro rfl (cZ Tryz.call90 (eX (ud (z:=((iw a zl).map Rt.q)) (s:=(rq (kJ a sl))) (L:=2) aP.rt (by decide) z1 s1) hcv2) ⟨(Ht rfl),(Ht rfl),trivial⟩) (rm rfl (ro rfl (dU (Ht rfl) rfl) (ro rfl (dU (Ht rfl) rfl) (rn rfl (eG (Ts:=[Is (.slice none 0 0),Is (.slice none 0 0)]) O_38 rfl (fun V=>aW zd (aW zd (aG)))) fun B9=>?_))))))))))))
 refine gJ Z_38 (Ht rfl) (Ht rfl) rfl (i:=4) rfl (aK rfl) rfl rfl (ra rfl (eZ (cK (Y.D_start (m:=11) [(9,1,box B2 32 [av ((iw a zl).map Rt.q),bp (rq (kJ a sl))]),(10,2,box B3 38 [q8 ((iw a zl).map Rt.q),QM (rq (kJ a sl))])] (Y.D_step (Ei:=[(7,_)]) rfl rfl (bQ (bJ rfl rfl) bX) rfl rfl (by kernel_rfl) (dX rfl (eW A_32 Z_32 (Ht rfl) (i:=3) rfl rfl rfl)) (bY (Ei:=[(9,_)]) rfl rfl (bQ (bJ rfl rfl) bX) rfl rfl (dX rfl (eW A_38 Z_38 (Ht rfl) (i:=4) rfl rfl rfl)) ?_))))))
 refine Y.D_step (Ei:=[(8,_)]) rfl rfl (bQ (bJ rfl rfl) bX) rfl rfl (by kernel_rfl) (dX rfl (cX (Ht rfl))) (Y.D_step (Ei:=[(34,_)]) rfl rfl (bQ (bZ 2 rfl rfl) bX) rfl rfl (by kernel_rfl) (dX rfl (di (Ht rfl) cV)) (Y.D_step (Ei:=[(35,_)]) rfl rfl (bQ (bZ 3 rfl rfl) bX) rfl rfl (by kernel_rfl) (dX rfl (cX (Ht rfl))) (Y.D_step (Ei:=[(7,_),(36,_)]) rfl rfl (bQ (bJ rfl rfl) (bQ (bZ 4 rfl rfl) bX)) rfl rfl (by kernel_rfl) (eU rfl rfl (Ht rfl) (fun h=>eW A_32 Z_32 (Ht rfl) (i:=3) rfl rfl rfl)) ?_)))
 refine Y.D_step (Ei:=[(9,_),(36,_)]) rfl rfl (bQ (bJ rfl rfl) (bQ (bZ 4 rfl rfl) bX)) rfl rfl (by kernel_rfl) (eU rfl rfl (Ht rfl) (fun h=>eW A_38 Z_38 (Ht rfl) (i:=4) rfl rfl rfl)) (Y.D_step (Ei:=[(37,_),(38,_),(36,_)]) rfl rfl (bQ (bZ 5 rfl rfl) (bQ (bZ 6 rfl rfl) (bQ (bZ 4 rfl rfl) bX))) rfl rfl (by kernel_rfl) (eU rfl rfl (Ht rfl) (fun h=>cZ Tryz.call70 (Dw (z:=((iw a zl).map Rt.q)) (s:=(rq (kJ a sl))) (L:=2) aP.rt aL.rt (by decide) (by decide) hsh z1) ⟨(fW rfl h),(fW rfl h),trivial⟩)) ?_)
 refine bY (Ei:=[(36,_),(39,_)]) rfl rfl (bQ (bZ 4 rfl rfl) (bQ (bZ 7 rfl rfl) bX)) rfl rfl (dX rfl (bx (Ht rfl) (fun h=>(fW rfl h)))) (Y.D_putI (Ei:=[(2,_),(32,_)]) 1 rfl rfl rfl (bQ (bJ rfl rfl) (bQ (bZ 0 rfl rfl) bX)) (.head _) rfl (ft Z_32 (Ht rfl) (Ht rfl) rfl (i:=0) rfl (aK rfl) rfl rfl) (Y.D_putI (Ei:=[(3,_),(33,_)]) 2 rfl rfl rfl (bQ (bJ rfl rfl) (bQ (bZ 1 rfl rfl) bX)) (.tail _ (.head _)) rfl (ft Z_38 (Ht rfl) (Ht rfl) rfl (i:=0) rfl (aK rfl) rfl rfl) ?_))
 refine Y.D_done aA rfl (by kernel_rfl) rfl (by simp [Y.okP]) rfl rfl (bU (bU (bU (bU (bU (bU (bU (bU (bU (Y.F_putI (Y.F_putI (Y.F_nil ?_))))))))))))
 refine ra rfl (eZ (rM rfl (fY A_32 Z_32 rfl (i:=1) rfl rfl) (fY A_38 Z_38 rfl (i:=2) rfl rfl) (fJ (eY rfl) ?_)))
 exact (bL (by simp))
end
section
open Go Go.RowKit
namespace Qi
def npow' (x : Qi) : Nat → Qi
 | 0=>Qi.ofInt 1
 | k + 1=>npow' x k * x
theorem one_mul2 (x:Qi):Qi.ofInt 1 * x = x:=ext' (by show ((1:Int):Rat) * x.re - 0 * x.im = x.re; grind) (by show ((1:Int):Rat) * x.im + 0 * x.re = x.im; grind)
theorem mul_one2 (x:Qi):x * Qi.ofInt 1 = x:=by rw [mul_comm',one_mul2]
end Qi
instance qiField:Lean.Grind.CommRing Qi where
 natCast:=⟨fun n=>Qi.ofInt n⟩
 ofNat n:=⟨Qi.ofInt n⟩
 nsmul:=⟨fun n x=>Qi.ofInt n * x⟩
 npow:=⟨Qi.npow'⟩
 add_zero:=Qi.add_zero'
 add_comm:=Qi.add_comm'
 add_assoc:=Qi.add_assoc'
 mul_assoc:=Qi.mul_assoc'
 mul_comm:=Qi.mul_comm'
 mul_one:=Qi.mul_one2
 one_mul:=Qi.one_mul2
 left_distrib:=Qi.mul_add'
 right_distrib:=Qi.add_mul'
 zero_mul:=Qi.zero_mul'
 mul_zero:=Qi.mul_zero'
 pow_zero _:=rfl
 pow_succ _ _:=rfl
 ofNat_succ n:=Qi.ext' (by show (((n + 1:Nat):Int):Rat) = ((n:Int):Rat) + ((1:Int):Rat); rw [Int.natCast_add,Rat.intCast_add]; rfl) (by show (0:Rat) = 0 + 0; grind)
 intCast:=⟨Qi.ofInt⟩
 zsmul:=⟨fun n x=>Qi.ofInt n * x⟩
 neg_add_cancel x:=Qi.ext' (by show -x.re + x.re = ((0:Int):Rat); grind) (by show -x.im + x.im = 0; grind)
 sub_eq_add_neg:=Qi.sub_def
 neg_zsmul i x:=Qi.ext' (by show ((-i:Int):Rat) * x.re - 0 * x.im = -((i:Rat) * x.re - 0 * x.im); rw [Rat.intCast_neg]; grind) (by show ((-i:Int):Rat) * x.im + 0 * x.re = -((i:Rat) * x.im + 0 * x.re); rw [Rat.intCast_neg]; grind)
 intCast_neg i:=Qi.ext' (Rat.intCast_neg i) (by show (0:Rat) = -0; grind)
theorem q0:Qi.zero = 0:=rfl
theorem q1:Qi.ofInt 1 = 1:=rfl
theorem cM {x:Qi} (h:x ≠ 0):x * Qi.inv x = 1:=by
 have hn:x.nrm ≠ 0:=fun e=>h (Qi.nrm_zero.1 e)
 have e:x.re * x.re + x.im * x.im = x.nrm:=rfl
 refine Qi.ext' ?_ ?_
 ·show x.re * (x.re / x.nrm) - x.im * (-x.im / x.nrm) = ((1 : Int) : Rat)
  grind
 ·show x.re * (-x.im / x.nrm) + x.im * (x.re / x.nrm) = 0
  grind
theorem oY {x y:Qi} (h:y ≠ 0):x / y * y = x:=by
 rw [Qi.div_def]
 have:=cM h
 grind
theorem kv {x y z:Qi} (h:y ≠ 0) (e:x = z * y):x / y = z:=by
 have h1:=oY (x:=x) h
 have h2:=cM h
 grind
theorem jt {x y:Qi} (h:x * y = 0):x = 0 ∨ y = 0:=by
 by_cases e:x = 0
 ·exact .inl e
 ·right; have:=cM e; grind
end
section
open Go Go.RowKit
theorem mT (m:Nat) (f:Qi) (a b:Nat → Qi):bA m (fun k=>a k - f * b k) = bA m a - f * bA m b:=by
 induction m with
 | zero=>simp only [bA,q0]; grind
 | succ m ih=>simp only [bA,ih]; grind
theorem r9 {m i:Nat} (hi:i < m) {f:Nat → Qi} (h:∀ k,k < m → k ≠ i → f k = 0):bA m f = f i:=by
 induction m with
 | zero=>omega
 | succ m ih =>
  by_cases e:i = m
  ·subst e
   have : bA i f = 0 := by
    rw [← q0,← oG i]
    exact bN fun k hk=>h k zo zo
   simp only [bA,this]; grind
  ·have h1 := ih zo (fun k hk => h k zo)
   have h2:=h m zo zo
   simp only [bA,h1,h2]; grind
theorem jR {m:Nat} {f:Nat → Qi} (h:∀ k,k < m → f k = 0):bA m f = 0:=by
 rw [← q0,← oG m]; exact bN h
def CG (M:List (List Qi)) (n m:Nat) (x:Nat → Qi):Prop:=∀ i,i < n → bA m (fun k=>gm M i k * x k) = 0
def qa (rr rc:List Qi) (c k:Nat):List Qi:=tab rr.length fun j=>if c ≤ j ∧ j < k then gv rr j - gv rr c / gv rc c * gv rc j else gv rr j
def nP (M:List (List Qi)) (c r:Nat):List (List Qi):=tab M.length fun i=>if i ≠ c ∧ i < r then qa (c7 M i) (c7 M c) c (c7 M i).length else c7 M i
theorem vz (M:List (List Qi)) (c r:Nat):(nP M c r).length = M.length:=ao _ _
theorem uF (rr rc:List Qi) (c k:Nat):(qa rr rc c k).length = rr.length:=ao _ _
theorem ww {M:List (List Qi)} {c r i:Nat} (hi:i < M.length):c7 (nP M c r) i = if i ≠ c ∧ i < r then qa (c7 M i) (c7 M c) c (c7 M i).length else c7 M i:=by
 simp only [c7,nP,List.getD]; rw [aS hi]; rfl
theorem wn {M:List (List Qi)} {n m c r:Nat} (h:bM M n m):bM (nP M c r) n m:=by
 refine ⟨(vz _ _ _).trans h.1,fun x hx=>?_⟩
 obtain ⟨i,hi,rfl⟩:=dt.1 hx
 have hr:=h.row (i:=i) (by rw [← h.1]; exact hi)
 show (if i ≠ c ∧ i < r then qa (c7 M i) (c7 M c) c (c7 M i).length else c7 M i).length = m
 split
 ·rw [uF]; exact hr
 ·exact hr
theorem mv {M:List (List Qi)} {n m c i j:Nat} (h:bM M n m) (hi:i < n) (hj:j < m):gm (nP M c n) i j = if i ≠ c ∧ c ≤ j then gm M i j - gm M i c / gm M c c * gm M c j else gm M i j:=by
 have hr:(c7 M i).length = m:=h.row hi
 show gv (c7 (nP M c n) i) j = _
 rw [ww (by rw [h.1]; exact hi)]
 by_cases e:i = c
 ·rw [if_neg (fun k=>k.1 e),if_neg (fun k=>k.1 e)]
 ·rw [if_pos ⟨e, hi⟩, qa, iy zo]
  by_cases e2:c ≤ j
  ·rw [if_pos ⟨e2,by omega⟩,if_pos ⟨e,e2⟩]
  ·rw [if_neg (fun k=>e2 k.1),if_neg (fun k=>e2 k.2)]
theorem rR {M:List (List Qi)} {p c i:Nat} (hp:p < M.length) (hc:c < M.length):c7 (swp [] M p c) i = c7 M (if i = c then p else if i = p then c else i):=by
 simp only [c7,swp,List.getD]
 by_cases e:i = c
 ·subst e; rw [List.getElem?_set_self (by simpa using hc),if_pos rfl]; rfl
 ·rw [List.getElem?_set_ne (Ne.symm e), if_neg e]
  by_cases e2:i = p
  ·subst e2; rw [List.getElem?_set_self hp,if_pos rfl]; rfl
  ·rw [List.getElem?_set_ne (Ne.symm e2),if_neg e2]
theorem A6 {M:List (List Qi)} {n m p c:Nat} {x:Nat → Qi} (hl:M.length = n) (hp:p < n) (hc:c < n):CG (swp [] M p c) n m x ↔ CG M n m x:=by
 have key : ∀ i, gm (swp [] M p c) i = gm M (if i = c then p else if i = p then c else i) := fun i => by
  funext j; exact congrArg (fun r=>gv r j) (rR zo zo)
 constructor
 ·intro h i hi
  have h1:=h (if i = c then p else if i = p then c else i) (by split <;> (try split) <;> omega)
  rw [key] at h1
  have e : (if (if i = c then p else if i = p then c else i) = c then p else if (if i = c then p else if i = p then c else i) = p then c else (if i = c then p else if i = p then c else i)) = i := by
   by_cases e1:i = c
   ·subst e1; rw [if_pos rfl]
    by_cases e2:p = i
    ·rw [if_pos e2]; exact e2
    ·rw [if_neg e2,if_pos rfl]
   ·rw [if_neg e1]
    by_cases e2:i = p
    ·subst e2; rw [if_pos rfl,if_pos rfl]
    ·rw [if_neg e2,if_neg e1,if_neg e2]
  rw [e] at h1; exact h1
 ·intro h i hi
  rw [key]; exact h _ (by split <;> (try split) <;> omega)
theorem ze {M:List (List Qi)} {n m c:Nat} {x:Nat → Qi} (hs:bM M n m) (hc:c < n) (hz:∀ j,j < c → gm M c j = 0):CG (nP M c n) n m x ↔ CG M n m x:=by
 have key : ∀ i, i < n → i ≠ c → bA m (fun k => gm (nP M c n) i k * x k) = bA m (fun k => gm M i k * x k) - gm M i c / gm M c c * bA m (fun k => gm M c k * x k) := fun i hi e => by
  rw [← mT]
  refine bN fun k hk=>?_
  rw [mv hs hi hk]
  by_cases e2:c ≤ k
  ·rw [if_pos ⟨e,e2⟩]; grind
  ·rw [if_neg (fun h=>e2 h.2),hz k zo]; grind
 have keyc:bA m (fun k=>gm (nP M c n) c k * x k) = bA m (fun k=>gm M c k * x k):=bN fun k hk=>by rw [mv hs hc hk,if_neg (fun h=>h.1 rfl)]
 constructor
 ·intro h i hi
  have h0:=h c hc
  rw [keyc] at h0
  by_cases e:i = c
  ·rw [e]; exact h0
  ·have h1 := h i hi
   rw [key i hi e,h0] at h1
   grind
 ·intro h i hi
  have h0:=h c hc
  by_cases e:i = c
  ·rw [e,keyc]; exact h0
  ·rw [key i hi e,h0,h i hi]; grind
structure GJ (M A:List (List Qi)) (n m c:Nat):Prop where
 sh:bM A n m
 ker:∀ x,CG A n m x ↔ CG M n m x
 off:∀ j,j < c → ∀ i,i < n → i ≠ j → gm A i j = 0
 dg:∀ j,j < c → gm A j j ≠ 0
theorem GJ.next {M A:List (List Qi)} {n m c p:Nat} (h:GJ M A n m c) (hc:c < n) (hnm:n ≤ m) (hcp:c ≤ p) (hp:p < n) (hz:gm A p c ≠ 0):GJ M (nP (swp [] A p c) c n) n m (c + 1):=by
 have hs:bM (swp [] A p c) n m:=mG h.sh hp hc
 have hl:=h.sh.1
 have key : ∀ i, gm (swp [] A p c) i = gm A (if i = c then p else if i = p then c else i) := fun i => by
  funext j; exact congrArg (fun r=>gv r j) (rR zo zo)
 have hcc:gm (swp [] A p c) c c ≠ 0:=by rw [key,if_pos rfl]; exact hz
 have hoff : ∀ j, j < c → ∀ i, i < n → i ≠ j → gm (swp [] A p c) i j = 0 := fun j hj i hi hij => by
  rw [key]
  by_cases e1:i = c
  ·rw [if_pos e1]; exact h.off j hj p hp zo
  ·rw [if_neg e1]
   by_cases e2:i = p
   ·rw [if_pos e2]; exact h.off j hj c hc zo
   ·rw [if_neg e2]; exact h.off j hj i hi hij
 refine ⟨wn hs,fun x=>(ze hs hc (fun j hj=>hoff j hj c hc zo)).trans ((A6 hl hp hc).trans (h.ker x)),fun j hj i hi hij=>?_,fun j hj=>?_⟩
 ·rw [mv hs hi zo]
  by_cases e:j = c
  ·subst e
   rw [if_pos ⟨hij,Nat.le_refl _⟩]
   have:=oY (x:=gm (swp [] A p j) i j) hcc
   grind
  ·rw [if_neg (fun k=>by omega)]; exact hoff j zo i hi hij
 ·rw [mv hs zo zo]
  by_cases e:j = c
  ·subst e; rw [if_neg (fun k=>k.1 rfl)]; exact hcc
  ·rw [if_neg (fun k=>by omega),key,if_neg zo,if_neg zo]; exact h.dg j zo
theorem Cb {l:List Qi} {z:Qi} {k:Nat} (h:k < l.length):gv (l ++ [z]) k = gv l k:=by
 simp only [gv,List.getD]; rw [List.getElem?_append_left h]
theorem Bm {l:List Qi} {z:Qi}:gv (l ++ [z]) l.length = z:=by
 simp [gv,List.getD]
theorem Dd {M:List (List Qi)} {b:List Qi} {n i:Nat} (h:bM M n n) (hi:i < n):(∀ k,k < n → gm (fa M [b] n) i k = gm M i k) ∧ gm (fa M [b] n) i n = gv b i:=by
 obtain ⟨r,hr⟩:∃ r,r = c7 M i:=⟨_,rfl⟩
 have hl:r.length = n:=by rw [hr]; exact h.row hi
 have e : c7 (fa M [b] n) i = r ++ [gv b i] := by
  rw [hr]; simp only [c7,fa,List.getD]; rw [aS hi]; rfl
 refine ⟨fun k hk=>?_,?_⟩
 ·show gv (c7 (fa M [b] n) i) k = gv (c7 M i) k
  rw [e,← hr,Cb zo]
 ·show gv (c7 (fa M [b] n) i) n = gv b i
  rw [e,← hl,Bm]
theorem s7 {M:List (List Qi)} {b:List Qi} {n i:Nat} (h:bM M n n) (hi:i < n) (x:Nat → Qi):bA (n + 1) (fun k=>gm (fa M [b] n) i k * x k) = bA n (fun k=>gm M i k * x k) + gv b i * x n:=by
 obtain ⟨h1,h2⟩:=Dd (b:=b) h hi
 simp only [bA,h2]
 rw [bN (fun k hk=>by rw [h1 k hk])]
end
section
open Go Go.RowKit
def Bq (a b:List (List Qi)) (x y i:Nat):List Qi:=tab (x + y) fun j=>if i < x then (if j < x then gm a i j else Qi.zero) else (if x ≤ j then gm b (i - x) (j - x) else Qi.zero)
def nA (a b:List (List Qi)) (x y:Nat):List (List Qi):=tab (x + y) (Bq a b x y)
theorem mU (a b:List (List Qi)) (x y:Nat):bM (nA a b x y) (x + y) (x + y):=⟨ao _ _,fun r hr=>by obtain ⟨i,_,rfl⟩:=dt.1 hr; exact ao _ _⟩
theorem x9 {a b : List (List Qi)} {x y L : Nat} (ha : aL a L) (hb : aL b L) (hL : 1 ≤ L) : aL (nA a b x y) L := fun r hr => by
 obtain ⟨i,_,rfl⟩:=dt.1 hr
 refine aP.tab fun j _=>?_
 split
 ·split
  ·exact ha.get hL _ _
  ·exact an.zero hL
 ·split
  ·exact hb.get hL _ _
  ·exact an.zero hL
theorem il {a b:List (List Qi)} {x y i j:Nat} (hi:i < x + y) (hj:j < x + y):gm (nA a b x y) i j = if i < x then (if j < x then gm a i j else Qi.zero) else (if x ≤ j then gm b (i - x) (j - x) else Qi.zero):=by
 have e:(nA a b x y).getD i [] = Bq a b x y i:=by rw [nA,List.getD,aS hi]; rfl
 show gv ((nA a b x y).getD i []) j = _
 rw [e,Bq,iy hj]
end
section
open Go Go.RowKit
abbrev pA (ps:List (Nat × Nat)) (k:Nat):Nat:=(ps.getD k (0,0)).1
abbrev pB (ps:List (Nat × Nat)) (k:Nat):Nat:=(ps.getD k (0,0)).2
end
section
open Go Go.RowKit
theorem kE {l:List Qi} {t k:Nat} {v:Qi} (ht:t < l.length):gv (l.set t v) k = if k = t then v else gv l k:=by
 simp only [gv,List.getD]
 by_cases e:k = t
 ·subst e; rw [if_pos rfl,List.getElem?_set_self ht]; rfl
 ·rw [if_neg e,List.getElem?_set_ne (Ne.symm e)]
end
section
open Go Go.RowKit
def kK (A:List (List Qi)) (c i j:Nat):Qi:=if j < c ∧ j < i then 0 else gm A i j
def nT (F:Nat → Nat → Qi) (n m:Nat) (x:Nat → Qi):Prop:=∀ i,i < n → bA m (fun k=>F i k * x k) = 0
theorem ng {F G:Nat → Nat → Qi} {n m:Nat} {x:Nat → Qi} (h:∀ i,i < n → ∀ j,j < m → F i j = G i j):nT F n m x ↔ nT G n m x:=by
 have e:∀ i,i < n → bA m (fun k=>F i k * x k) = bA m (fun k=>G i k * x k):=fun i hi=>bN fun k hk=>by rw [h i hi k hk]
 exact ⟨fun k i hi=>by rw [← e i hi]; exact k i hi,fun k i hi=>by rw [e i hi]; exact k i hi⟩
def wb (p c i:Nat):Nat:=if i = c then p else if i = p then c else i
theorem w9 {p c i n:Nat} (hp:p < n) (hc:c < n) (hi:i < n):wb p c i < n:=by unfold wb; split <;> (try split) <;> omega
theorem zC (p c i:Nat):wb p c (wb p c i) = i:=by
 unfold wb
 by_cases e1:i = c
 ·subst e1
  rw [if_pos rfl]
  by_cases e2:p = i
  ·rw [if_pos e2]; exact e2
  ·rw [if_neg e2,if_pos rfl]
 ·rw [if_neg e1]
  by_cases e2:i = p
  ·subst e2; rw [if_pos rfl,if_pos rfl]
  ·rw [if_neg e2,if_neg e1,if_neg e2]
theorem wi {F : Nat → Nat → Qi} {n m p c : Nat} {x : Nat → Qi} (hp : p < n) (hc : c < n) : nT (fun i => F (wb p c i)) n m x ↔ nT F n m x :=
 ⟨fun h i hi=>by have:=h _ (w9 hp hc hi); simp only [zC] at this; exact this,fun h i hi=>h _ (w9 hp hc hi)⟩
theorem xH {F G:Nat → Nat → Qi} {n m c:Nat} {x f:Nat → Qi} (hc:c < n) (hG:∀ i,i < n → ∀ j,j < m → G i j = if c < i then F i j - f i * F c j else F i j):nT G n m x ↔ nT F n m x:=by
 have key : ∀ i, i < n → bA m (fun k => G i k * x k) = if c < i then bA m (fun k => F i k * x k) - f i * bA m (fun k => F c k * x k) else bA m (fun k => F i k * x k) := fun i hi => by
  by_cases e:c < i
  ·rw [if_pos e, ← mT]
   exact bN fun k hk=>by rw [hG i hi k hk,if_pos e]; grind
  ·rw [if_neg e]
   exact bN fun k hk=>by rw [hG i hi k hk,if_neg e]
 have kc:=key c hc
 rw [if_neg zo] at kc
 constructor
 ·intro h i hi
  have h0:=h c hc
  rw [kc] at h0
  have h1:=h i hi
  rw [key i hi] at h1
  by_cases e:c < i
  ·rw [if_pos e,h0] at h1; grind
  ·rw [if_neg e] at h1; exact h1
 ·intro h i hi
  rw [key i hi]
  by_cases e:c < i
  ·rw [if_pos e,h i hi,h c hc]; grind
  ·rw [if_neg e]; exact h i hi
theorem Ae {M:List (List Qi)} {n m c i j:Nat} (h:bM M n m) (hi:i < n) (hj:j < m):gm (fA M c n) i j = if c < i ∧ c < j then gm M i j - gm M i c / gm M c c * gm M c j else gm M i j:=by
 have hr:(c7 M i).length = m:=h.row hi
 have e0 : c7 (fA M c n) i = if c < i ∧ i < n then eR (c7 M i) (c7 M c) c (c7 M i).length else c7 M i := by
  simp only [c7,fA,List.getD]; rw [aS (by rw [h.1]; exact hi)]; rfl
 show gv (c7 (fA M c n) i) j = _
 rw [e0]
 by_cases e:c < i
 ·rw [if_pos ⟨e, hi⟩, eR, iy zo]
  by_cases e2:c < j
  ·rw [if_pos ⟨e2,by omega⟩,if_pos ⟨e,e2⟩]
  ·rw [if_neg (fun k=>e2 k.1),if_neg (fun k=>e2 k.2)]
 ·rw [if_neg (fun k=>e k.1),if_neg (fun k=>e k.1)]
theorem yd {A:List (List Qi)} {p c i j:Nat} (hc:c < A.length) (hp:p < A.length) (hcp:c ≤ p):kK (swp [] A p c) c i j = kK A c (wb p c i) j:=by
 have key:gm (swp [] A p c) i j = gm A (wb p c i) j:=congrArg (fun r=>gv r j) (rR zo zo)
 unfold kK
 rw [key]
 have e:(j < c ∧ j < i) ↔ (j < c ∧ j < wb p c i):=by unfold wb; split <;> (try split) <;> omega
 by_cases h:j < c ∧ j < i
 ·rw [if_pos h,if_pos (e.1 h)]
 ·rw [if_neg h,if_neg (fun k=>h (e.2 k))]
structure EL (M A:List (List Qi)) (n m c:Nat):Prop where
 sh:bM A n m
 ker:∀ x,nT (kK A c) n m x ↔ nT (gm M) n m x
theorem EL.next {M A:List (List Qi)} {n m c p:Nat} (h:EL M A n m c) (hc:c < n) (hcm:c < m) (hcp:c ≤ p) (hp:p < n) (hz:gm A p c ≠ 0):EL M (fA (if p = c then A else swp [] A p c) c n) n m (c + 1):=by
 have hl:=h.sh.1
 obtain ⟨B,hB⟩:∃ B,B = if p = c then A else swp [] A p c:=⟨_,rfl⟩
 have hs : bM B n m := by
  rw [hB]; split
  ·exact h.sh
  ·exact mG h.sh hp hc
 have hBk : ∀ x, nT (kK B c) n m x ↔ nT (gm M) n m x := fun x => by
  rw [hB]; split
  ·exact h.ker x
  ·exact (ng (G:=fun i=>kK A c (wb p c i)) fun i hi j hj=>yd zo zo hcp).trans ((wi hp hc).trans (h.ker x))
 have hBz : gm B c c ≠ 0 := by
  rw [hB]; split
  ·rename_i e; rw [← e] at hz ⊢; exact hz
  ·show gv (c7 (swp [] A p c) c) c ≠ 0
   rw [pF zo]; exact hz
 rw [← hB]
 refine ⟨qm hs,fun x=>(xH (f:=fun i=>gm B i c / gm B c c) hc fun i hi j hj=>?_).trans (hBk x)⟩
 have hd:=oY (x:=gm B i c) hBz
 unfold kK
 rw [Ae hs hi hj]
 by_cases e:c < i
 ·rw [if_pos e]
  by_cases e1:j < c
  ·rw [if_pos zo,if_pos zo,if_pos zo]; grind
  ·by_cases e2 : j = c
   ·subst e2
    rw [if_pos zo,if_neg zo,if_neg zo]; grind
   ·rw [if_neg zo,if_pos zo,if_neg zo,if_neg zo]
 ·rw [if_neg e, if_neg (show ¬ (c < i ∧ c < j) from fun k => e k.1)]
  by_cases e1:j < i
  ·rw [if_pos (show j < c + 1 ∧ j < i by omega),if_pos (show j < c ∧ j < i by omega)]
  ·rw [if_neg (show ¬ (j < c + 1 ∧ j < i) by omega),if_neg (show ¬ (j < c ∧ j < i) by omega)]
theorem p6 {M : List (List Qi)} {n m : Nat} (hs : bM M n m) (hnm : n ≤ m) : ∀ {c : Nat}, c ≤ n → (b5 M c).2.2 < 0 → EL M (b5 M c).1 n m c
 | 0,_,_=>⟨hs,fun x=>ng fun i _ j _=>by unfold kK; rw [if_neg zo]; rfl⟩
 | c + 1, hc, h => by
  obtain ⟨i1,i2,i3,i4⟩:=j6 (M:=(b5 M c).1) (c:=c) (n:=M.length) (by rw [hs.1]; omega)
  simp only [b5] at h ⊢
  by_cases e:0 ≤ (b5 M c).2.2
  ·rw [if_pos e] at h; omega
  ·rw [if_neg e] at h ⊢
   have ih:=p6 hs hnm (c:=c) zo zo
   by_cases e2:pv (b5 M c).1 c M.length = M.length
   ·rw [if_pos e2] at h; simp only at h; omega
   ·rw [if_neg e2]
    rw [hs.1] at i3 i4 e2 ⊢
    exact ih.next zo zo (by rw [hs.1] at i2; exact i2) zo (i4 zo)
theorem oI {M : List (List Qi)} : ∀ {n : Nat}, 0 ≤ (b5 M n).2.2 → ∃ c, c < n ∧ (b5 M c).2.2 < 0 ∧ pv (b5 M c).1 c M.length = M.length
 | 0,h=>absurd h (by show ¬ (0:Int) ≤ -1; omega)
 | c + 1, h => by
  by_cases e:0 ≤ (b5 M c).2.2
  ·obtain ⟨d, h1, h2⟩ := oI e
   exact ⟨d,by omega,h2⟩
  ·simp only [b5] at h
   rw [if_neg e] at h
   by_cases e2:pv (b5 M c).1 c M.length = M.length
   ·exact ⟨c,by omega,by omega,e2⟩
   ·rw [if_neg e2] at h; simp only at h; omega
theorem kH {U : List (List Qi)} {x y : List Qi} {n c : Nat} : ∀ {K : Nat}, (∀ k, k < K → gv x (c + 1 + k) = gv y (c + 1 + k)) → gn U x n c K = gn U y n c K
 | 0,_=>rfl
 | K + 1,h=>by rw [gn,gn,kH (fun k hk=>h k zo),h K zo]
theorem ql (U : List (List Qi)) (x : List Qi) (n c : Nat) : ∀ K, gn U x n c K = gm U c n - bA K (fun k => gm U c (c + 1 + k) * gv x (c + 1 + k))
 | 0=>by simp only [gn,bA,q0]; grind
 | K + 1=>by simp only [gn,bA,ql U x n c K]; grind
theorem w6 {U : List (List Qi)} {n : Nat} : ∀ {j : Nat}, j ≤ n → ∀ c, n - j ≤ c → c < n → gv (iu U n j) c = gn U (iu U n j) n c (n - 1 - c) / gm U c c
 | 0,_,c,h1,h2=>by omega
 | j + 1, hj, c, h1, h2 => by
  have hl:=kY U n j
  rw [iu]
  by_cases e:c = n - (j + 1)
  ·subst e
   rw [kE zo,if_pos rfl,show n - 1 - (n - (j + 1)) = j by omega]
   rw [kH (x:=(iu U n j).set _ _) (y:=iu U n j) fun k hk=>by rw [kE zo,if_neg zo]]
  ·rw [kE zo, if_neg e, w6 (j := j) zo c zo h2]
   rw [kH (x:=(iu U n j).set _ _) (y:=iu U n j) fun k hk=>by rw [kE zo,if_neg zo]]
theorem lr (a : Nat) (f : Nat → Qi) : ∀ b, bA (a + b) f = bA a f + bA b fun k => f (a + k)
 | 0=>by simp only [bA,q0,Nat.add_zero]; grind
 | b + 1=>by rw [← Nat.add_assoc]; simp only [bA,lr a f b]; grind
theorem tq {U:List (List Qi)} {n i:Nat} (hi:i < n) (y:Nat → Qi):bA n (fun k=>kK U n i k * y k) = gm U i i * y i + bA (n - 1 - i) fun k=>gm U i (i + 1 + k) * y (i + 1 + k):=by
 have e:n = i + 1 + (n - 1 - i):=by omega
 have h1:bA i (fun k=>kK U n i k * y k) = 0:=jR fun k hk=>by unfold kK; rw [if_pos zo]; grind
 have h2:kK U n i i = gm U i i:=by unfold kK; rw [if_neg zo]
 have h3:bA (n - 1 - i) (fun k=>kK U n i (i + 1 + k) * y (i + 1 + k)) = bA (n - 1 - i) fun k=>gm U i (i + 1 + k) * y (i + 1 + k):=bN fun k hk=>by unfold kK; rw [if_neg zo]
 have h4:=lr (i + 1) (fun k=>kK U n i k * y k) (n - 1 - i)
 rw [← e] at h4
 rw [h4,h3]
 simp only [bA,h1,h2]; grind
theorem te {U:List (List Qi)} {n i:Nat} (hd:∀ j,j < n → gm U j j ≠ 0) (hi:i < n):bA n (fun k=>kK U n i k * gv (iu U n n) k) = gm U i n:=by
 rw [tq hi,w6 (Nat.le_refl n) i zo hi,ql]
 have:=oY (x:=gm U i n - bA (n - 1 - i) (fun k=>gm U i (i + 1 + k) * gv (iu U n n) (i + 1 + k))) (hd i hi)
 grind
theorem qA {U : List (List Qi)} {n : Nat} (hd : ∀ j, j < n → gm U j j ≠ 0) {y : Nat → Qi} (h : ∀ i, i < n → bA n (fun k => kK U n i k * y k) = 0) : ∀ t k, n - t ≤ k → k < n → y k = 0
 | 0,k,h1,h2=>by omega
 | t + 1, k, h1, h2 => by
  have h3:=h k h2
  rw [tq h2,jR (fun j hj=>by rw [qA hd h t (k + 1 + j) zo zo]; grind)] at h3
  rcases jt (x:=gm U k k) (y:=y k) (by grind) with h4 | h4
  ·exact absurd h4 (hd k h2)
  ·exact h4
theorem qQ {M:List (List Qi)} {b:List Qi} {n:Nat} (h:bM M n n) (hE:fB M b n = 0):(∀ i,i < n → bA n (fun k=>gm M i k * gv (fC M b n) k) = gv b i) ∧ ∀ y:Nat → Qi,(∀ i,i < n → bA n (fun k=>gm M i k * y k) = 0) → ∀ k,k < n → y k = 0:=by
 have hcs:bM (fa M [b] n) n (n + 1):=gU h
 have hst : (kb M b n).2.2 < 0 := by
  unfold fB at hE
  by_cases e:0 ≤ (kb M b n).2.2
  ·rw [if_pos e] at hE; omega
  ·omega
 have hg:=p6 hcs (Nat.le_succ n) (Nat.le_refl n) hst
 have hd:=iR hcs (Nat.le_refl n) hst
 obtain ⟨U,hU⟩:∃ U,U = (kb M b n).1:=⟨_,rfl⟩
 have hX:fC M b n = iu U n n:=by rw [hU]; rfl
 have hU2:(b5 (fa M [b] n) n).1 = U:=hU.symm
 rw [hU2] at hg hd
 rw [hX]
 refine ⟨fun i hi=>?_,fun y hy k hk=>?_⟩
 ·have h1 := (hg.ker fun k => if k < n then gv (iu U n n) k else -1).1 (fun i hi => by
   simp only [bA]
   rw [bN (g:=fun k=>kK U n i k * gv (iu U n n) k) (fun k hk=>by rw [if_pos hk]),te hd hi,if_neg zo,show kK U n i n = gm U i n by unfold kK; rw [if_neg zo]]
   grind) i hi
  rw [s7 h hi,bN (g:=fun k=>gm M i k * gv (iu U n n) k) (fun k hk=>by rw [if_pos hk]),if_neg zo] at h1
  grind
 ·have h1 := (hg.ker fun k => if k < n then y k else 0).2 (fun i hi => by
   rw [s7 h hi,bN (g:=fun k=>gm M i k * y k) (fun k hk=>by rw [if_pos hk]),if_neg zo,hy i hi]; grind)
  refine qA (y:=y) hd (fun i hi=>?_) n k zo hk
  have h2:=h1 i hi
  simp only [bA] at h2
  rw [bN (g:=fun k=>kK U n i k * y k) (fun k hk=>by rw [if_pos hk]),if_neg zo] at h2
  grind
theorem xv {M:List (List Qi)} {b:List Qi} {n:Nat} (h:bM M n n) (hE:fB M b n ≠ 0):∃ y:Nat → Qi,(∀ i,i < n → bA n (fun k=>gm M i k * y k) = 0) ∧ ∃ k,k < n ∧ y k ≠ 0:=by
 have hcs:bM (fa M [b] n) n (n + 1):=gU h
 have hst : 0 ≤ (kb M b n).2.2 := by
  unfold fB at hE
  by_cases e:0 ≤ (kb M b n).2.2
  ·exact e
  ·rw [if_neg e] at hE; exact absurd rfl hE
 obtain ⟨c,hc,hA,hp⟩:=oI hst
 have hg:=p6 hcs (Nat.le_succ n) zo hA
 have hd:=iR hcs zo hA
 obtain ⟨U,hU⟩:∃ U,U = (b5 (fa M [b] n) c).1:=⟨_,rfl⟩
 rw [← hU] at hg hd hp
 rw [hcs.1] at hp
 have hz:=(j6 (M:=U) (c:=c) (n:=n) zo).1
 rw [hp] at hz
 have key := (hg.ker fun k => if k < c then gv (iu U c c) k else if k = c then -1 else 0).1 (fun i hi => by
  have e:n + 1 = c + (1 + (n - c)):=by omega
  rw [e,lr,lr]
  have z3:bA (n - c) (fun k=>kK U c i (c + (1 + k)) * (if c + (1 + k) < c then gv (iu U c c) (c + (1 + k)) else if c + (1 + k) = c then -1 else 0)) = 0:=jR fun k hk=>by rw [if_neg zo,if_neg zo]; grind
  have z2 : bA 1 (fun k => kK U c i (c + k) * (if c + k < c then gv (iu U c c) (c + k) else if c + k = c then -1 else 0)) = kK U c i c * -1 := by
   rw [wG,if_neg zo,if_pos zo]; rfl
  have z1:bA c (fun k=>kK U c i k * (if k < c then gv (iu U c c) k else if k = c then -1 else 0)) = bA c (fun k=>kK U c i k * gv (iu U c c) k):=bN fun k hk=>by rw [if_pos hk]
  rw [z1,z2,z3]
  have zc:kK U c i c = gm U i c:=by unfold kK; rw [if_neg zo]
  rw [zc]
  by_cases e2:i < c
  ·rw [te hd e2]; grind
  ·rw [hz i zo hi,jR (fun k hk=>by unfold kK; rw [if_pos zo]; grind),q0]; grind)
 refine ⟨fun k=>if k < c then gv (iu U c c) k else if k = c then -1 else 0,fun i hi=>?_,c,hc,?_⟩
 ·have h1 := key i hi
  rw [s7 h hi,if_neg zo,if_neg zo] at h1
  grind
 ·show (if c < c then gv (iu U c c) c else if c = c then (-1 : Qi) else 0) ≠ 0
  rw [if_neg zo,if_pos rfl]
  intro e
  exact absurd (congrArg Qi.re e) (by decide)
end
section
open Go Go.RowKit
def gq (ps:List (Nat × Nat)) (x:Nat):Nat:=if x % 2 = 0 then pA ps (x / 2) else pB ps (x / 2)
def jf (x:Nat):Nat:=if x % 2 = 0 then x + 1 else x - 1
theorem sE {x k:Nat} (h:x < 2 * k):jf x < 2 * k:=by unfold jf; split <;> omega
structure Jn (ps:List (Nat × Nat)) (n K:Nat):Prop where
 lt:∀ x,x < 2 * K → gq ps x < n
 inj:∀ x y,x < 2 * K → y < 2 * K → gq ps x = gq ps y → x = y
theorem Jn.le {ps:List (Nat × Nat)} {n K k:Nat} (h:Jn ps n K) (hk:k ≤ K):Jn ps n k:=⟨fun x hx=>h.lt x zo,fun x y hx hy=>h.inj x y zo zo⟩
def k8 (S:List (List Qi)) (ps:List (Nat × Nat)) (m:Nat):List (List Qi):=tab m fun x=>tab m fun y=>(if x = y then Qi.ofInt 1 else Qi.ofInt 0) - gm S (gq ps (jf x)) (gq ps y)
def nz (S:List (List Qi)) (ps:List (Nat × Nat)) (m b:Nat):List Qi:=tab m fun x=>gm S (gq ps (jf x)) b
theorem mw (S:List (List Qi)) (ps:List (Nat × Nat)) (m:Nat):bM (k8 S ps m) m m:=bM.tab
theorem sY {S:List (List Qi)} {ps:List (Nat × Nat)} {m x:Nat} (hx:x < m) (v:Nat → Qi):bA m (fun y=>gm (k8 S ps m) x y * v y) = v x - bA m fun y=>gm S (gq ps (jf x)) (gq ps y) * v y:=by
 have e : ∀ y, y < m → gm (k8 S ps m) x y * v y = (if y = x then v x else 0) - 1 * (gm S (gq ps (jf x)) (gq ps y) * v y) := fun y hy => by
  have : gm (k8 S ps m) x y = (if x = y then Qi.ofInt 1 else Qi.ofInt 0) - gm S (gq ps (jf x)) (gq ps y) := by
   show gv ((k8 S ps m).getD x []) y = _
   rw [k8,iJ hx,iy hy]
  rw [this]
  by_cases c:y = x
  ·subst c; rw [if_pos rfl,if_pos rfl,q1]; grind
  ·rw [if_neg c,if_neg (Ne.symm c),show Qi.ofInt 0 = (0:Qi) from rfl]; grind
 rw [bN e,mT,r9 hx (fun k _ hk=>if_neg hk),if_pos rfl]; grind
theorem wZ {S:List (List Qi)} {ps:List (Nat × Nat)} {m b x:Nat} (hx:x < m):gv (nz S ps m b) x = gm S (gq ps (jf x)) b:=iy hx
def oj (S:List (List Qi)) (ps:List (Nat × Nat)) (m a b:Nat):Qi:=gm S a b + bA m fun y=>gm S a (gq ps y) * gv (fC (k8 S ps m) (nz S ps m b) m) y
end
section
open Go Go.RowKit
def wj (x y:Nat):Int:=if 8 < x + y then 4 else 0
def y9 (z zb:List Qi):List Qi:=cL (wj z.length zb.length) (z ++ zb)
def y8 (z zb:List Qi) (a b:List (List Qi)):List (List Qi):=cL (wj z.length zb.length) (nA a b z.length zb.length)
theorem zJ {x y:Nat} (h:8 < x + y):wj x y = 4:=if_pos h
theorem wg {x y:Nat} (h:¬ 8 < x + y):wj x y = 0:=if_neg h
theorem xu {z zb:List Qi} {L:Nat} (hz:aP z L) (hb:aP zb L):aP (z ++ zb) L:=fun x hx=>(List.mem_append.1 hx).elim (hz x) (hb x)
def bu (n:Nat) (p:Int) (o:List Int):Int:=if ¬ (1 ≤ p ∧ p ≤ n) then 1 else if (o.any fun x=>decide (p = x)) = true then 8 else 0
def ka (n:Nat) (l:List Int):Int:=dL (fun i=>bu n (l.getD i 0) (l.take i)) l.length
def lb (l:List Int):List Nat:=l.map fun p=>(p - 1).toNat
theorem qV (l:List Int):(lb l).length = l.length:=by rw [lb,List.length_map]
theorem kU {n:Nat} {p:Int} {o:List Int} (h:bu n p o = 0):1 ≤ p ∧ p ≤ n:=by
 unfold bu at h
 split at h
 ·omega
 ·rename_i c; exact Decidable.not_not.1 c
theorem rI {n : Nat} {l : List Int} (h : ka n l = 0) : ∀ x, x ∈ l → 1 ≤ x ∧ x ≤ n := fun x hx => by
 obtain ⟨i,hi,e⟩:=List.getElem_of_mem hx
 have:=kU (dw h i hi)
 rw [show l.getD i 0 = x by rw [List.getD,List.getElem?_eq_getElem hi,e]; rfl] at this
 exact this
theorem Bo {n : Nat} {l : List Int} (h : ka n l = 0) : ∀ x, x ∈ lb l → x < n := fun x hx => by
 obtain ⟨p,hp,rfl⟩:=List.mem_map.1 hx
 have:=rI h p hp; omega
theorem qh {n:Nat} {l:List Int} (h:ka n l = 0):l.map (aa .i64) = ((lb l).map Nat.succ).map (NT .i64):=by
 rw [lb,List.map_map,List.map_map]
 refine List.map_congr_left fun p hp=>?_
 have:=rI h p hp
 show aa .i64 p = aa .i64 (((p - 1).toNat + 1:Nat):Int)
 congr 1; omega
def rD (n:Nat) (l:List Int):Int:=if l.length ≠ n then 4 else ka n l
def w8 (z:List Qi) (l:List Int):List Qi:=cL (rD z.length l) (gz z (lb l))
def w4 (z:List Qi) (s:List (List Qi)) (l:List Int):List (List Qi):=cL (rD z.length l) (kI s (lb l))
theorem vj {n:Nat} {l:List Int} (h:l.length ≠ n):rD n l = 4:=if_pos h
theorem vJ {n:Nat} {l:List Int} (h:l.length = n):rD n l = ka n l:=if_neg (fun k=>k h)
theorem vm (z:List Qi) (Q:List Nat):(gz z Q).length = Q.length:=ao _ _
theorem wL (s:List (List Qi)) (Q:List Nat):bM (kI s Q) Q.length Q.length:=bM.tab
end
section
open Go Go.RowKit
def gy (js:List (Int × Int)):List Int:=js.flatMap fun q=>[q.1,q.2]
def dh (js:List (Int × Int)):List (Nat × Nat):=js.map fun q=>((q.1 - 1).toNat,(q.2 - 1).toNat)
abbrev fy (js:List (Int × Int)) (k:Nat):Int × Int:=js.getD k (0,0)
theorem zO (a b:List (Int × Int)):gy (a ++ b) = gy a ++ gy b:=by simp [gy]
theorem qz {js:List (Int × Int)} {k:Nat} (h:k < js.length):gy (js.take (k + 1)) = gy (js.take k) ++ [(fy js k).1,(fy js k).2]:=by
 rw [List.take_succ_eq_append_getElem h,zO]
 simp [gy,fy,List.getD,h]
theorem iX : ∀ (js : List (Int × Int)), (gy js).length = 2 * js.length
 | []=>rfl
 | q :: r => by
  have:=iX r
  have e:gy (q :: r) = q.1 :: q.2 :: gy r:=rfl
  rw [e,List.length_cons,List.length_cons,List.length_cons,this]; omega
theorem t9 : ∀ (js : List (Int × Int)) {x : Nat}, x < 2 * js.length → (gy js).getD x 0 = if x % 2 = 0 then (fy js (x / 2)).1 else (fy js (x / 2)).2
 | [],x,h=>by simp at h
 | q :: r,0,_=>rfl
 | q :: r,1,_=>rfl
 | q :: r, x + 2, h => by
  have ih:=t9 r (x:=x) (by simp only [List.length_cons] at h; omega)
  have e:gy (q :: r) = q.1 :: q.2 :: gy r:=rfl
  rw [e]
  show (gy r).getD x 0 = _
  rw [ih,show (x + 2) % 2 = x % 2 by omega,show (x + 2) / 2 = x / 2 + 1 by omega]
  rfl
theorem wP {js:List (Int × Int)} {k:Nat} (h:k < js.length):pA (dh js) k = ((fy js k).1 - 1).toNat ∧ pB (dh js) k = ((fy js k).2 - 1).toNat:=by
 simp [pA,pB,dh,fy,List.getD,h]
theorem DR {js:List (Int × Int)} {x:Nat} (h:x < 2 * js.length):gq (dh js) x = ((gy js).getD x 0 - 1).toNat:=by
 have h2:x / 2 < js.length:=by omega
 rw [t9 js h,gq,(wP h2).1,(wP h2).2]
 split <;> rfl
theorem qU {n:Nat} {A:List Int} (h:ka n A = 0) (a:Int):ka n (A ++ [a]) = bu n a A:=by
 rw [ka,List.length_append,List.length_singleton]
 have e : dL (fun i => bu n ((A ++ [a]).getD i 0) ((A ++ [a]).take i)) A.length = 0 := d8 fun i hi => by
  have:=dw h i hi
  rw [List.take_append_of_le_length zo]
  have e2:(A ++ [a]).getD i 0 = A.getD i 0:=by simp [List.getD,List.getElem?_append_left hi]
  rw [e2]; exact this
 rw [dL,e,if_neg (by simp),List.take_append_of_le_length (Nat.le_refl _),List.take_length]
 congr 1
 simp [List.getD]
theorem u7 {n:Nat} {A:List Int} (h:ka n A = 0) (a b:Int):ka n (A ++ [a,b]) = if bu n a A ≠ 0 then bu n a A else bu n b (A ++ [a]):=by
 have e:A ++ [a,b] = (A ++ [a]) ++ [b]:=by simp
 by_cases c:bu n a A = 0
 ·rw [if_neg (fun k=>k c),e,qU (by rw [qU h]; exact c)]
 ·rw [if_pos c]
  have h1 : dL (fun i => bu n ((A ++ [a, b]).getD i 0) ((A ++ [a, b]).take i)) A.length = 0 := d8 fun i hi => by
   have:=dw h i hi
   rw [List.take_append_of_le_length zo]
   have e2:(A ++ [a,b]).getD i 0 = A.getD i 0:=by simp [List.getD,List.getElem?_append_left hi]
   rw [e2]; exact this
  have h2 : bu n ((A ++ [a, b]).getD A.length 0) ((A ++ [a, b]).take A.length) = bu n a A := by
   rw [List.take_append_of_le_length (Nat.le_refl _),List.take_length]
   congr 1
   simp [List.getD]
  rw [ka,iN (k:=A.length) (fun i hi=>dw h1 i hi) (by rw [h2]; exact c) (by simp)]
  exact h2
def kP (z : List Qi) (js : List (Int × Int)) (k : Nat) : Int :=
 if bu z.length (fy js k).1 (gy (js.take k)) ≠ 0 then bu z.length (fy js k).1 (gy (js.take k))
 else if bu z.length (fy js k).2 (gy (js.take k) ++ [(fy js k).1]) ≠ 0 then bu z.length (fy js k).2 (gy (js.take k) ++ [(fy js k).1])
 else if gv z ((fy js k).1 - 1).toNat = gv z ((fy js k).2 - 1).toNat then 0 else 40
def nX (z:List Qi) (js:List (Int × Int)):Int:=dL (kP z js) js.length
theorem vC {z:List Qi} {js:List (Int × Int)} {k:Nat} (h:kP z js k = 0):bu z.length (fy js k).1 (gy (js.take k)) = 0 ∧ bu z.length (fy js k).2 (gy (js.take k) ++ [(fy js k).1]) = 0 ∧ gv z ((fy js k).1 - 1).toNat = gv z ((fy js k).2 - 1).toNat:=by
 unfold kP at h
 by_cases c1:bu z.length (fy js k).1 (gy (js.take k)) = 0
 ·rw [if_neg (fun k => k c1)] at h
  by_cases c2:bu z.length (fy js k).2 (gy (js.take k) ++ [(fy js k).1]) = 0
  ·rw [if_neg (fun k => k c2)] at h
   by_cases c3:gv z ((fy js k).1 - 1).toNat = gv z ((fy js k).2 - 1).toNat
   ·exact ⟨c1,c2,c3⟩
   ·rw [if_neg c3] at h; omega
  ·rw [if_pos c2] at h; exact absurd h c2
 ·rw [if_pos c1] at h; exact absurd h c1
theorem Ee {z : List Qi} {js : List (Int × Int)} : ∀ {k : Nat}, k ≤ js.length → (∀ j, j < k → kP z js j = 0) → ka z.length (gy (js.take k)) = 0
 | 0,_,_=>rfl
 | k + 1, hk, h => by
  have ih:=Ee (z:=z) (js:=js) (k:=k) zo fun j hj=>h j zo
  obtain ⟨h1,h2,_⟩:=vC (h k zo)
  rw [qz zo,u7 ih,if_neg (fun k=>k h1)]; exact h2
theorem wm {z:List Qi} {js:List (Int × Int)} (h:nX z js = 0):ka z.length (gy js) = 0:=by
 have:=Ee (z:=z) (Nat.le_refl js.length) (dw h)
 rwa [List.take_length] at this
theorem uh {n : Nat} {p : Int} {o : List Int} (h : bu n p o = 0) : p ∉ o := fun hm => by
 have h1:=kU h
 unfold bu at h
 rw [if_neg (fun k=>k h1),if_pos (List.any_eq_true.2 ⟨p,hm,by simp⟩)] at h
 omega
theorem zU {n:Nat} {l:List Int} (h:ka n l = 0) {x y:Nat} (hx:x < l.length) (hy:y < l.length) (e:l.getD x 0 = l.getD y 0):x = y:=by
 have key : ∀ x y, x < y → y < l.length → l.getD x 0 ≠ l.getD y 0 := fun x y hxy hy e => by
  refine uh (dw h y hy) ?_
  rw [← e]
  have e2:l.getD x 0 = l[x]'zo:=by simp [List.getD,show x < l.length by omega]
  rw [e2]
  exact List.mem_take_iff_getElem.2 ⟨x,by omega,rfl⟩
 rcases Nat.lt_trichotomy x y with c | c | c
 ·exact absurd e (key x y c hy)
 ·exact c
 ·exact absurd e.symm (key y x c hx)
theorem qF {z:List Qi} {js:List (Int × Int)} (h:nX z js = 0):Jn (dh js) z.length js.length:=by
 have hp:=wm h
 have hl:=iX js
 have hr : ∀ x, x < 2 * js.length → 1 ≤ (gy js).getD x 0 ∧ (gy js).getD x 0 ≤ z.length := fun x hx => rI hp _ (by
  rw [show (gy js).getD x 0 = (gy js)[x]'zo by simp [List.getD,show x < (gy js).length by omega]]; exact List.getElem_mem _)
 refine ⟨fun x hx=>?_,fun x y hx hy e=>?_⟩
 ·rw [DR hx]; have:=hr x hx; omega
 ·rw [DR hx, DR hy] at e
  have h1:=hr x hx; have h2:=hr y hy
  exact zU hp zo zo zo
def nM (js:List (Int × Int)):List Nat:=(gy js).map fun p=>(p - 1).toNat
def bw (z:List Qi) (js:List (Int × Int)):List Nat:=gx (nM js) z.length
def uT (z:List Qi) (S:List (List Qi)) (js:List (Int × Int)):Int:=dL (fun y=>fB (k8 S (dh js) (2 * js.length)) (nz S (dh js) (2 * js.length) ((bw z js).getD y 0)) (2 * js.length)) (bw z js).length
def pY (z : List Qi) (S : List (List Qi)) (js : List (Int × Int)) : Int :=
 if nX z js ≠ 0 then nX z js else if js.length = 0 then 0 else if 2 * js.length = z.length then 4 else if uT z S js = 0 then 0 else 6
def AW (z:List Qi) (js:List (Int × Int)):List Qi:=gz z (bw z js)
def zf (z:List Qi) (S:List (List Qi)) (js:List (Int × Int)):List (List Qi):=tab (bw z js).length fun x=>tab (bw z js).length fun y=>oj S (dh js) (2 * js.length) (c4 (bw z js) x) (c4 (bw z js) y)
def pn (z:List Qi) (S:List (List Qi)) (js:List (Int × Int)):List Qi:=cL (pY z S js) (if js.length = 0 then z else AW z js)
def sV (z:List Qi) (S:List (List Qi)) (js:List (Int × Int)):List (List Qi):=cL (pY z S js) (if js.length = 0 then S else zf z S js)
theorem pI (js:List (Int × Int)):(nM js).length = 2 * js.length:=by rw [nM,List.length_map,iX]
theorem we {z : List Qi} {js : List (Int × Int)} {y : Nat} (hy : y < (bw z js).length) : (bw z js).getD y 0 < z.length := pw (by
 rw [show (bw z js).getD y 0 = (bw z js)[y] by simp [List.getD,hy]]; exact List.getElem_mem hy)
end
section
open Go Go.RowKit
theorem vf (M:List (List Qi)) (b:List Qi) (n:Nat):(fC M b n).length = n:=kY _ _ _
theorem yn {M : List (List Qi)} {b : List Qi} {n L : Nat} (h : bM M n n) (hM : aL M L) (hb : aP b L) (hL : 1 ≤ L) (hE : fB M b n = 0) : aP (fC M b n) (iB (bh L n) n) := wU h hM hb hL (by
 unfold fB at hE
 by_cases e:0 ≤ (kb M b n).2.2
 ·rw [if_pos e] at hE; omega
 ·omega)
theorem oK {G H : Nat} (h : G ≤ H) : ∀ j, iB G j ≤ iB H j
 | 0=>h
 | j + 1 => by
  have:=oK h j
  have h2:j * (iB G j + G + 2) ≤ j * (iB H j + H + 2):=Nat.mul_le_mul_left _ zo
  simp only [iB]; omega
theorem tv {a b:List (List Qi)} {n m:Nat} (ha:bM a n m) (hb:bM b n m) (h:∀ i,i < n → ∀ j,j < m → gm a i j = gm b i j):a = b:=by
 rw [jd ha,jd hb]
 exact ba fun i hi=>ba fun j hj=>h i hi j hj
end
section
open Go Go.RowKit
def rl (q:Int × Int):List Int:=[q.1,q.2]
abbrev JT (q:Int × Int):Ty:=bB [aa .i64 q.1,aa .i64 q.2]
abbrev CE (js:List (Int × Int)):Ty:=dP 2 (js.map JT)
theorem z8 {q : Int × Int} : ∀ {i : Nat}, i < 2 → ([aa .i64 q.1, aa .i64 q.2] : List Ty)[i]? = some (aa .i64 ((rl q).getD i 0))
 | 0,_=>rfl
 | 1,_=>rfl
theorem vY {q : Int × Int} : ∀ {i : Nat}, i < 2 → (rl q).take (i + 1) = (rl q).take i ++ [(rl q).getD i 0]
 | 0,_=>rfl
 | 1,_=>rfl
abbrev oO (z:List Qi) (js:List (Int × Int)) (k i:Nat):Int:=bu z.length ((rl (fy js k)).getD i 0) (gy (js.take k) ++ (rl (fy js k)).take i)
theorem D9 {z : List Qi} {js : List (Int × Int)} {k : Nat} : ∀ {i : Nat}, i < 2 → (∀ x, x < i → oO z js k x = 0) → oO z js k i ≠ 0 → kP z js k = oO z js k i
 | 0, _, _, h => by
  have e:oO z js k 0 = bu z.length (fy js k).1 (gy (js.take k)):=by simp [oO,rl]
  rw [e] at h ⊢
  rw [kP,if_pos h]
 | 1, _, h0, h => by
  have e0:oO z js k 0 = bu z.length (fy js k).1 (gy (js.take k)):=by simp [oO,rl]
  have e:oO z js k 1 = bu z.length (fy js k).2 (gy (js.take k) ++ [(fy js k).1]):=by simp [oO,rl]
  have h1:=h0 0 zo
  rw [e0] at h1
  rw [e] at h ⊢
  rw [kP,if_neg (fun k=>k h1),if_pos h]
theorem Dq {z : List Qi} {js : List (Int × Int)} {k : Nat} (h : ∀ x, x < 2 → oO z js k x = 0) : (1 ≤ (fy js k).1 ∧ (fy js k).1 ≤ z.length) ∧ (1 ≤ (fy js k).2 ∧ (fy js k).2 ≤ z.length) ∧
  kP z js k = if gv z ((fy js k).1 - 1).toNat = gv z ((fy js k).2 - 1).toNat then 0 else 40:=by
 have e0:oO z js k 0 = bu z.length (fy js k).1 (gy (js.take k)):=by simp [oO,rl]
 have e:oO z js k 1 = bu z.length (fy js k).2 (gy (js.take k) ++ [(fy js k).1]):=by simp [oO,rl]
 have h0:=h 0 zo
 have h1:=h 1 zo
 rw [e0] at h0
 rw [e] at h1
 exact ⟨kU h0,kU h1,by rw [kP,if_neg (fun k=>k h0),if_neg (fun k=>k h1)]⟩
def nN (z:List Qi) (js:List (Int × Int)):Int:=if nX z js ≠ 0 then nX z js else if 0 < 2 * js.length ∧ 2 * js.length = z.length then 4 else 0
def By (z:List Qi) (js:List (Int × Int)):List Int:=cL (nN z js) (gy js)
theorem xy {z:List Qi} {js:List (Int × Int)} (h:nX z js ≠ 0):nN z js = nX z js:=if_pos h
theorem yG {z:List Qi} {js:List (Int × Int)} (h:nX z js = 0) (h2:0 < 2 * js.length ∧ 2 * js.length = z.length):nN z js = 4:=by rw [nN,if_neg (fun k=>k h),if_pos h2]
theorem AA {z:List Qi} {js:List (Int × Int)} (h:nX z js = 0) (h2:¬ (0 < 2 * js.length ∧ 2 * js.length = z.length)):nN z js = 0:=by rw [nN,if_neg (fun k=>k h),if_neg h2]
theorem pj {z:List Qi} {js:List (Int × Int)} (h:nN z js = 0):nX z js = 0 ∧ ¬ (0 < 2 * js.length ∧ 2 * js.length = z.length):=by
 unfold nN at h
 by_cases c:nX z js = 0
 ·refine ⟨c, fun h2 => ?_⟩
  rw [if_neg (fun k=>k c),if_pos h2] at h
  omega
 ·rw [if_pos c] at h; exact absurd h c
theorem DG {z:List Qi} {S:List (List Qi)} {js:List (Int × Int)} (h:nN z js ≠ 0):pY z S js = nN z js:=by
 unfold pY nN at *
 by_cases c:nX z js ≠ 0
 ·rw [if_pos c,if_pos c]
 ·rw [if_neg c] at h
  rw [if_neg c,if_neg c]
  by_cases d:0 < 2 * js.length ∧ 2 * js.length = z.length
  ·rw [if_neg zo,if_pos d.2,if_pos d]
  ·rw [if_neg d] at h; exact absurd rfl h
theorem yg {z:List Qi} {S:List (List Qi)} {js:List (Int × Int)} (h:nN z js = 0) (h2:js.length = 0):pY z S js = 0:=by
 obtain ⟨h1,_⟩:=pj h
 rw [pY,if_neg (fun k=>k h1),if_pos h2]
theorem rT {z:List Qi} {S:List (List Qi)} {js:List (Int × Int)} (h:nN z js = 0) (h2:js.length ≠ 0):pY z S js = if uT z S js = 0 then 0 else 6:=by
 obtain ⟨h1,h3⟩:=pj h
 rw [pY,if_neg (fun k=>k h1),if_neg h2,if_neg zo]
theorem DQ : ∀ {n m : Nat} {f : Nat → Nat}, (∀ x, x < m → f x < n) → (∀ x y, x < m → y < m → f x = f y → x = y) → m ≤ n
 | 0, m, f, h, _ => by
  cases m with
  | zero=>exact Nat.le_refl 0
  | succ m=>exact absurd (h 0 zo) zo
 | n + 1,0,_,_,_=>by omega
 | n + 1, k + 1, f, h, i => by
  have := DQ (n := n) (m := k) (f := fun x => if f x = n then f k else f x) (fun x hx => by
   have h1:=h x zo
   have h2:=h k zo
   by_cases c:f x = n
   ·simp only [if_pos c]
    have:f k ≠ n:=fun e=>by have:=i x k zo zo (by rw [c,e]); omega
    omega
   ·simp only [if_neg c]; omega) (fun x y hx hy e=>by
   by_cases c:f x = n <;> by_cases d:f y = n
   ·exact i x y zo zo (by rw [c,d])
   ·simp only [if_pos c, if_neg d] at e
    have:=i k y zo zo e; omega
   ·simp only [if_neg c, if_pos d] at e
    have:=i x k zo zo e; omega
   ·simp only [if_neg c, if_neg d] at e
    exact i x y zo zo e)
  omega
theorem CW {z:List Qi} {js:List (Int × Int)} (h:nX z js = 0):2 * js.length ≤ z.length:=by
 have hj:=qF h
 exact DQ (f:=gq (dh js)) hj.lt hj.inj
theorem xa {z:List Qi} {js:List (Int × Int)} (h:nX z js = 0):(gy js).map (aa .i64) = ((nM js).map Nat.succ).map (NT .i64):=qh (wm h)
theorem sx {js:List (Int × Int)} {x:Nat} (h:x < 2 * js.length):(nM js).getD x 0 = gq (dh js) x:=by
 have hl:=iX js
 rw [DR h,nM]
 simp [List.getD,show x < (gy js).length by omega]
theorem wK (G:List Nat):(AP G).map (aa .i64) = (G.map Nat.succ).map (NT .i64):=by
 simp only [AP,List.map_map]
 refine List.map_congr_left fun x _=>?_
 simp [Function.comp,NT]
theorem sP (x : Qi) (l m : List Qi) : ∀ k, k9 x l m k = x + bA k fun y => gv l y * gv m y
 | 0=>by rw [k9,bA,show Qi.zero = (0:Qi) from rfl]; grind
 | k + 1=>by rw [k9,sP x l m k,bA]; grind
theorem BQ {S:List (List Qi)} {ps:List (Nat × Nat)} {m a b:Nat}:k9 (gm S a b) (tab m fun x=>gm S a (gq ps x)) (fC (k8 S ps m) (nz S ps m b) m) m = oj S ps m a b:=by
 rw [sP,oj]
 congr 1
 exact bN fun y hy=>by rw [iy hy]
theorem sM {S : List (List Qi)} {ps : List (Nat × Nat)} {m L : Nat} (hf : aL S L) (hL : 1 ≤ L) : aL (k8 S ps m) (L + 2) := aL.tab fun x y _ _ => by
 haveI h1:=hf.get hL (gq ps (jf x)) (gq ps y)
 haveI h2 : an (if x = y then Qi.ofInt 1 else Qi.ofInt 0) 1 := by
  split
  ·exact gr
  ·exact (an.zero (Nat.le_refl 1):an Qi.zero 1)
 exact (fitSub:an (_ - _) (1 + L + 1)).le zo
theorem yN {S:List (List Qi)} {ps:List (Nat × Nat)} {m b L:Nat} (hf:aL S L) (hL:1 ≤ L):aP (nz S ps m b) L:=aP.tab fun x _=>hf.get hL _ _
theorem Ck {z:List Qi} {S:List (List Qi)} {js:List (Int × Int)} (hS:bM S z.length z.length):bM (sV z S js) (pn z S js).length (pn z S js).length ∧ (pn z S js).length ≤ z.length:=by
 by_cases h:pY z S js = 0
 ·by_cases h0 : js.length = 0
  ·rw [sV,pn,cL,cL,if_pos h,if_pos h,if_pos h0,if_pos h0]; exact ⟨hS,Nat.le_refl _⟩
  ·rw [sV,pn,cL,cL,if_pos h,if_pos h,if_neg h0,if_neg h0,AW,vm]; exact ⟨bM.tab,mu _ _⟩
 ·rw [sV,pn,cL,cL,if_neg h,if_neg h]; exact ⟨⟨rfl,fun r hr=>by cases hr⟩,Nat.zero_le _⟩
end
section
open Go Go.RowKit
theorem kW {x y:Qi} {L M:Nat} (hx:an x L) (hy:an y M) (h:y ≠ 0):an (x / y) (L + 3 * M + 2):=⟨hx.fit.div hy.fit h⟩
end
section
open Go Go.RowKit
section
variable {φ:Qi → Qi → Bool} {z:List Qi} {js:List (Int × Int)}
end
def E8:Qi:=Qi.frac 1 0 2
section
variable {js:List (Int × Int)} {n:Nat}
end
theorem oS : ∀ n, gx [] n = tab n fun i => i
 | 0=>rfl
 | n + 1=>by rw [gx,oS n,e9]; rfl
theorem tW (n:Nat):(gx [] n).length = n:=by rw [oS,ao]
theorem zW {z:List Qi}:gz z (gx [] z.length) = z:=by
 rw [gz,tW,oS]
 apply List.ext_getElem?
 intro i
 by_cases hi:i < z.length
 ·rw [aS hi,c4,iJ hi]; simp [gv,List.getD,hi]
 ·rw [List.getElem?_eq_none (by rw [ao]; omega),List.getElem?_eq_none zo]
end
section
open Go Go.RowKit
abbrev kM (s f:List (List Qi)) (n:Nat):List (List Qi):=nA s f n 2
abbrev er (s f:List (List Qi)) (p:Nat):Qi:=Qi.ofInt 1 - gm f 1 1 * gm s p p
def jj (p i:Nat) (n:Nat):Nat:=if i < p then i else if i = p then n - 1 else i - 1
theorem yU {p i n:Nat} (hp:p < n) (hi:i < n):fN p (jj p i n) = if i = p then n else i:=by
 unfold jj fN
 by_cases c:i < p
 ·rw [if_pos c,if_pos c,if_neg zo]
 ·rw [if_neg c]
  by_cases d:i = p
  ·rw [if_pos d,if_pos d,if_neg zo]; omega
  ·rw [if_neg d,if_neg d,if_neg zo]; omega
theorem pT {p i n:Nat} (hi:i < n):jj p i n < n:=by unfold jj; split <;> (try split) <;> omega
def DN (n p : Nat) : Nat → List Nat
 | 0=>[]
 | k + 1=>DN n p k ++ (if k = p then [n - 1,k] else [k])
theorem wE {n p : Nat} : ∀ k, DN n p k = tab (if p < k then k + 1 else k) fun i => jj p i n
 | 0=>rfl
 | k + 1 => by
  rw [DN,wE k]
  by_cases c:k = p
  ·subst c
   rw [if_neg (Nat.lt_irrefl k),if_pos rfl,if_pos (Nat.lt_succ_self k),e9,e9,List.append_assoc]
   have e1:jj k k n = n - 1:=by unfold jj; rw [if_neg (Nat.lt_irrefl k),if_pos rfl]
   have e2:jj k (k + 1) n = k:=by unfold jj; rw [if_neg zo,if_neg zo]; omega
   rw [e1,e2]; rfl
  ·rw [if_neg c]
   by_cases d:p < k
   ·rw [if_pos d,if_pos zo,e9 (m:=k + 1),show jj p (k + 1) n = k by unfold jj; rw [if_neg zo,if_neg zo]; omega]
   ·rw [if_neg d,if_neg zo,e9,show jj p k n = k by unfold jj; rw [if_pos zo]]
def zn (n p:Nat):List Nat:=DN n p (n - 1) ++ (if p + 1 = n then [n - 1] else [])
theorem rX {n p:Nat} (hp:p < n):zn n p = tab n fun i=>jj p i n:=by
 rw [zn,wE]
 by_cases c:p + 1 = n
 ·rw [if_pos c, if_neg zo]
  have e:tab n (fun i=>jj p i n) = tab (n - 1 + 1) fun i=>jj p i n:=by rw [show n - 1 + 1 = n by omega]
  rw [e,e9,show jj p (n - 1) n = n - 1 by unfold jj; rw [if_neg zo,if_pos zo]]
 ·rw [if_neg c,if_pos zo,List.append_nil,show n - 1 + 1 = n by omega]
def gI (s f : List (List Qi)) (p i j : Nat) : Qi :=
 if i = p ∧ j = p then gm f 0 0 + gm f 0 1 * (gm f 1 0 * (gm s p p / er s f p))
 else if j = p then gm s i p / er s f p * gm f 1 0
 else if i = p then gm f 0 1 * (gm s p j / er s f p)
 else gm s i j + gm s i p / er s f p * (gm f 1 1 * gm s p j)
def ja (s f:List (List Qi)) (p n:Nat):List (List Qi):=tab n fun i=>tab n fun j=>gI s f p i j
def iW (z fz:List Qi) (port:Int) (x:Nat):Int:=if fz.length ≠ 2 then 4 else if ¬ (1 ≤ port ∧ port ≤ z.length) then 1 else if gv fz (x - 1) = gv z (port - 1).toNat then 0 else 40
theorem Ao {z fz:List Qi} {port:Int} {x:Nat} (h:iW z fz port x = 0):fz.length = 2 ∧ (1 ≤ port ∧ port ≤ z.length) ∧ gv fz (x - 1) = gv z (port - 1).toNat:=by
 unfold iW at h
 by_cases c1:fz.length = 2
 ·rw [if_neg (fun k => k c1)] at h
  by_cases c2:1 ≤ port ∧ port ≤ z.length
  ·rw [if_neg (fun k => k c2)] at h
   by_cases c3:gv fz (x - 1) = gv z (port - 1).toNat
   ·exact ⟨c1,c2,c3⟩
   ·rw [if_neg c3] at h; omega
  ·rw [if_pos c2] at h; omega
 ·rw [if_pos c1] at h; omega
def pX (z:List Qi) (s:List (List Qi)) (fz:List Qi) (f:List (List Qi)) (port:Int):Int:=if iW z fz port 2 ≠ 0 then iW z fz port 2 else if er s f (port - 1).toNat = Qi.zero then 6 else 0
theorem Aw {z fz:List Qi} {s f:List (List Qi)} {port:Int} (h:iW z fz port 2 ≠ 0):pX z s fz f port = iW z fz port 2:=if_pos h
theorem AF {z fz:List Qi} {s f:List (List Qi)} {port:Int} (h:iW z fz port 2 = 0) (h2:er s f (port - 1).toNat = Qi.zero):pX z s fz f port = 6:=by rw [pX,if_neg (fun k=>k h),if_pos h2]
theorem sk {z fz:List Qi} {s f:List (List Qi)} {port:Int} (h:iW z fz port 2 = 0) (h2:er s f (port - 1).toNat ≠ Qi.zero):pX z s fz f port = 0:=by rw [pX,if_neg (fun k=>k h),if_neg h2]
def xR (z:List Qi) (s:List (List Qi)) (fz:List Qi) (f:List (List Qi)) (port:Int):List Qi:=cL (pX z s fz f port) (z.set (port - 1).toNat (gv fz 0))
def xS (z:List Qi) (s:List (List Qi)) (fz:List Qi) (f:List (List Qi)) (port:Int):List (List Qi):=cL (pX z s fz f port) (ja s f (port - 1).toNat z.length)
def i9 (s f:List (List Qi)) (p:Nat):Qi:=gm f 0 1 * gm f 1 0 + gm f 1 1 * (gm s p p - gm f 0 0)
def pZ (s f : List (List Qi)) (p i j : Nat) : Qi :=
 if i = p ∧ j = p then (gm s p p - gm f 0 0) / i9 s f p
 else if j = p then gm s i p / i9 s f p * gm f 0 1
 else if i = p then gm f 1 0 * (gm s p j / i9 s f p)
 else gm s i j - gm s i p / i9 s f p * (gm f 1 1 * gm s p j)
def iD (s f:List (List Qi)) (p n:Nat):List (List Qi):=tab n fun i=>tab n fun j=>pZ s f p i j
def o9 (z:List Qi) (s:List (List Qi)) (fz:List Qi) (f:List (List Qi)) (port:Int):Int:=if iW z fz port 1 ≠ 0 then iW z fz port 1 else if gm f 0 1 = Qi.zero ∨ gm f 1 0 = Qi.zero ∨ i9 s f (port - 1).toNat = Qi.zero then 6 else 0
def nv (z:List Qi) (s:List (List Qi)) (fz:List Qi) (f:List (List Qi)) (port:Int):List Qi:=cL (o9 z s fz f port) (z.set (port - 1).toNat (gv fz 1))
def vD (z:List Qi) (s:List (List Qi)) (fz:List Qi) (f:List (List Qi)) (port:Int):List (List Qi):=cL (o9 z s fz f port) (iD s f (port - 1).toNat z.length)
theorem Au {z fz:List Qi} {s f:List (List Qi)} {port:Int} (h:iW z fz port 1 ≠ 0):o9 z s fz f port = iW z fz port 1:=if_pos h
theorem xA {z fz:List Qi} {s f:List (List Qi)} {port:Int} (h:iW z fz port 1 = 0) (h2:gm f 0 1 = Qi.zero ∨ gm f 1 0 = Qi.zero ∨ i9 s f (port - 1).toNat = Qi.zero):o9 z s fz f port = 6:=by rw [o9,if_neg (fun k=>k h),if_pos h2]
theorem vp {z fz:List Qi} {s f:List (List Qi)} {port:Int} (h:iW z fz port 1 = 0) (h2:¬ (gm f 0 1 = Qi.zero ∨ gm f 1 0 = Qi.zero ∨ i9 s f (port - 1).toNat = Qi.zero)):o9 z s fz f port = 0:=by rw [o9,if_neg (fun k=>k h),if_neg h2]
end
section
open Go Go.RowKit
def km (zl:List Rt) (zz:Qi):List Qi:=((iw 1 zl).map Rt.q).set 1 zz
def pu (sl:List Rt):List (List Qi):=rq (kJ 1 sl)
theorem lj (zl:List Rt) (zz:Qi):(km zl zz).length = 2:=by rw [km,List.length_set,List.length_map,iw,ao]; rfl
theorem rd (zl:List Rt) (zz:Qi):gv (km zl zz) 1 = zz:=by rw [km,kE (by rw [List.length_map,iw,ao]; decide),if_pos rfl]
theorem jC (sl:List Rt):bM (pu sl) 2 2:=by
 obtain ⟨_,_,h,_⟩:=fI (mW 1 [] sl)
 have hl:((iw 1 []).map Rt.q).length = 2:=by rw [List.length_map,iw,ao]; rfl
 rw [hl] at h; exact h
theorem xI (sl:List Rt):aL (pu sl) 2:=aL.rt
theorem qI (zl:List Rt) {zz:Qi} (h:an zz 2):aP (km zl zz) 2:=fun x hx=>(List.mem_or_eq_of_mem_set hx).elim (fun k=>(aP.rt:aP ((iw 1 zl).map Rt.q) 2) x k) fun e=>e ▸ h
theorem xD (zl:List Rt) {zz:Qi} (h:ez zz = true):(km zl zz).all ez = true:=by
 obtain ⟨_,_,_,hp⟩:=fI (mW 1 zl [])
 rw [List.all_eq_true] at hp ⊢
 intro x hx
 rcases List.mem_or_eq_of_mem_set hx with k | k
 ·exact hp x k
 ·rw [k]; exact h
theorem A5 (zl sl:List Rt) {zz:Qi} (h:ez zz = true):aR (km zl zz) (pu sl) = 0:=by
 have hs:=jC sl
 have hz:=lj zl zz
 rw [aR,if_neg,if_pos (xD zl h)]
 rintro (h | h | h | h)
 ·omega
 ·omega
 ·exact h (by rw [hs.1,hz])
 ·obtain ⟨r, hr, h2⟩ := List.any_eq_true.1 h
  simp [hs.2 r hr,hz] at h2
theorem xp {a:Nat} {zl sl:List Rt} {zz:Qi} (hz:ez zz = true) (hf:an zz 2):aw Tryz.prog 24 [n5 a zl sl,NT .i64 2,ab zz] (bo [aM (km zl zz) (pu sl),a9 true]):=by
 have hzl:((iw 1 zl).map Rt.q).length = 2:=by rw [List.length_map,iw,ao]; rfl
 obtain ⟨z0,hz0⟩:∃ z0,z0 = ((iw 1 zl).map Rt.q):=⟨_,rfl⟩
 obtain ⟨s0,hs0⟩:∃ s0,s0 = pu sl:=⟨_,rfl⟩
 have hsh:bM s0 2 2:=by rw [hs0]; exact jC sl
 have hB:=p9 (a:=1) (zl:=zl) (sl:=sl) (by decide)
 rw [← hz0] at hzl
 rw [← hz0,show (rq (kJ 1 sl)) = s0 from hs0.symm] at hB
 have hsl2:bM s0 z0.length z0.length:=by rw [hzl]; exact hsh
 have hrf : ∀ i, i < 2 → aw Tryz.prog 23 [aM z0 s0, NT .i64 (i + 1)] (bo [ab (gv z0 i), aa .i64 0]) := fun i hi => by
  have h:=tz (z:=z0) (s:=s0) (i:=((i + 1:Nat):Int)) zo
  rw [show xT z0 ((i + 1:Nat):Int) = gv z0 i from pa zo,if_pos zo] at h; exact h
 have hat : ∀ i j, i < 2 → j < 2 → aw Tryz.prog 25 [aM z0 s0, NT .i64 (i + 1), NT .i64 (j + 1)] (bo [ab (gm s0 i j), aa .i64 0]) := fun i j hi hj => by
  have h:=ux (z:=z0) (s:=s0) (i:=((i + 1:Nat):Int)) (j:=((j + 1:Nat):Int)) hsl2 zo
  rw [show uU z0.length s0 ((i + 1:Nat):Int) ((j + 1:Nat):Int) = gm s0 i j from na zo zo,if_pos zo] at h; exact h
 have hnw : aw Tryz.prog 85 [av (km zl zz), bp s0] (bo [aM (km zl zz) s0, aa .i64 0]) := by
  have h:=kT (z:=km zl zz) (s:=s0) (L:=2) (qI zl hf) (by decide) (by rw [lj]; decide) (by rw [hsh.1]; decide)
  rw [show aR (km zl zz) s0 = 0 by rw [hs0]; exact A5 zl sl hz] at h; exact h
 refine aw.intro Tryz.func24 rfl Tryz.ntmps24 rfl (fun cx=>(ts (rn rfl (fU (Ht rfl)) fun B3=>(rn rfl (fU (Ht rfl)) fun B5=>(rn rfl (eG (Ts:=[Is (.slice none 0 0),Is (.slice none 0 0)]) O_32 rfl (fun V=>aW zd (aW zd (aG)))) fun B6=>(ro rfl (cQ cV) (eZ (ts (ro rfl (eJ oN (Ht rfl) rfl) (dI Z_5 (Ht rfl) (cJ 1) (i:=0) rfl (aK rfl) rfl (eZ (ts (ro rfl (eW A_57 Z_57 (Ht rfl) (i:=0) rfl rfl rfl) (ro rfl (cZ Tryz.call21 hB ⟨(Ht rfl),trivial⟩) ?_))))))))))))))
 refine rm rfl (ro rfl (dU (Ht rfl) rfl) (ro rfl (dU (Ht rfl) rfl) (ro rfl (dU (Ht rfl) rfl) (rn rfl (eG (Ts:=[Is (.slice none 0 0),Is (.slice none 0 0)]) O_32 rfl (fun V=>aW zd (aW zd (aG)))) fun B8=>(rn rfl (eG (Ts:=[Is (.slice none 0 0),Is (.slice none 0 0)]) O_38 rfl (fun V=>aW zd (aW zd (aG)))) fun B9=>(gJ Z_32 (Ht rfl) (Ht rfl) rfl (i:=3) rfl (aK rfl) rfl rfl (gJ Z_38 (Ht rfl) (Ht rfl) rfl (i:=4) rfl (aK rfl) rfl rfl ?_)))))))
 refine ra rfl (eZ (cK (ts (rm rfl (ro rfl (bD (Ht rfl)) (eZ (cb (Ht rfl) (by rfl) ?_)))))))
 refine cU (ts (rn rfl (cy (T:=ab Qi.zero) (i:=Tryz.t51) ef de rfl rfl (cJ 2) rfl cw (El.ag rfl) (by show 88 * _ ≤ _; omega) zo) fun B27=>(ra rfl (eZ (ts (rn rfl (ck (T:=Is (.slice none 0 0)) (i:=Tryz.t29) V_30 jY rfl rfl (cJ 2) rfl (fun _=>rfl) trivial (by show 24 * _ ≤ _; omega) zo) fun B28=>(ra rfl (eZ (cK (ts (ro rfl (cX (cJ 0)) (eZ (eK (fw 6 rfl (l8 (e:=51) (s:=5)) (aD [1,2,3,5,6] rfl (by decide) ?_)))))))))))))))
 refine b8 (fun (i : Nat) => i ≤ 2) (fun (i : Nat) => 2 - i) (fun (i : Nat) => [(1, NT .i64 2), (5, aH B5 0), (6, aH B6 0), (8, aH B8 0), (11, Is B27), (12, Is (.slice (some ⟨B28, 0, none⟩) 2 2)), (29, NT .i64 i)]) (fun (i : Nat) => [box B5 51 [a9 (decide (zz.a < 0)), ah zz.a.natAbs, a9 (decide (zz.b < 0)), ah zz.b.natAbs, ah (du zz)], box B6 32 [Is (.slice none 0 0), Is (.slice none 0 0)], box B8 32 [av z0, bp s0], aE 51 5 B27 ((dN (gv z0) Qi.zero 2 i).map ab), gt B28 29 51 5 (bq ab (dN (fun i => tab 2 fun j => gm s0 i j) [] 2 i))]) 0 (Nat.zero_le _)
  (zS rfl) (aU (a8 rfl) (aU (a8 rfl) (aU (a8 rfl) (aU (ar (by rw [← cP]; exact gL ab 2)) (aU (bO (by rw [← cP,iC]; exact jp ab 2)) aY))))) (fun i hi=>?_)
 refine ts (ro rfl (gV (Ht rfl) (cJ 2)) (eZ (cK (dQ (Ht rfl) (fun hd=>?_) (fun hd=>?_)))))
 ·have hi2 : i < 2 := by simp only [decide_eq_true_eq] at hd; omega
  refine cU (cK (eK (ts (rm rfl (ra rfl (eZ (ts (rm rfl (rm rfl (ro rfl (eW A_32 Z_32 (Ht rfl) (i:=2) rfl rfl rfl) (rm rfl (ro rfl (dW (Ht rfl) (cJ 1) z6) (ro rfl (cZ Tryz.call23 (hrf i hi2) ⟨(Ht rfl),(Ht rfl),trivial⟩) (rm rfl (ro rfl (dU (Ht rfl) rfl) (ro rfl (dU (Ht rfl) rfl) (ro rfl (bi U_29 Z_51 (Ht rfl) (Ht rfl) rfl (i:=3) rfl (by rw [List.length_map,b9]; omega) rfl) ?_)))))))))))))))))
  refine eL Z_51 (Ht rfl) (Ht rfl) (El.ag rfl) (i:=3) rfl rfl (by rw [List.length_map,b9]; omega) rfl ?_
  refine eZ (cK (fw 3 rfl (ar (by rw [c9,dC (f:=gv z0)])) ?_))
  refine ip 4 (i) rfl (l7 hi2) (fun v0=>(cY (rm rfl (rm rfl (rn rfl (cy (T:=ab Qi.zero) (i:=Tryz.t51) ef de rfl rfl (cJ 2) rfl cw (El.ag rfl) (by show 88 * _ ≤ _; omega) zo) fun B44=>(ro rfl (gX U_30 Z_29 (Ht rfl) (Ht rfl) rfl zo (by rw [Nat.mul_one,Nat.zero_add])) ?_))))))
  refine nw Z_29 (Ht rfl) (Ht rfl) (by simp only [bq,List.length_map,b9]; omega) (j:=4) (l:=6) rfl rfl rfl ?_
  refine eZ (cK (aD [0,1,2,3,4,6] rfl (by decide) (cY (ro rfl (cX (cJ 0)) (eZ (eK ?_))))))
  refine b8 (fun (j : Nat) => j ≤ 2) (fun (j : Nat) => 2 - j) (fun (j : Nat) => [(1, NT .i64 2), (5, aH B5 0), (6, aH B6 0), (8, aH B8 0), (11, Is B27), (12, Is (.slice (some ⟨B28, 0, none⟩) 2 2)), (13, NT .i64 i), (29, NT .i64 i), (46, NT .i64 j)]) (fun (j : Nat) => [box B5 51 [a9 (decide (zz.a < 0)), ah zz.a.natAbs, a9 (decide (zz.b < 0)), ah zz.b.natAbs, ah (du zz)], box B6 32 [Is (.slice none 0 0), Is (.slice none 0 0)], box B8 32 [av z0, bp s0], aE 51 5 B27 ((dN (gv z0) Qi.zero 2 (i + 1)).map ab), qL B28 29 51 5 (bq ab (dN (fun i => tab 2 fun j => gm s0 i j) [] 2 i)) i B44, aE 51 5 B44 ((dN (fun j => gm s0 i j) Qi.zero 2 j).map ab)]) 0 (Nat.zero_le _)
   (zS rfl) (aU (a8 rfl) (aU (a8 rfl) (aU (a8 rfl) (aU (fun _ _ _ h=>h) (aU (fun _ _ _ h=>h) (aU (ar (by rw [← cP]; exact gL ab 2)) aY)))))) (fun j hj=>?_)
  refine ts (ro rfl (gV (Ht rfl) (cJ 2)) (eZ (cK (dQ (Ht rfl) (fun he=>?_) (fun he=>?_)))))
  ·have hj2 : j < 2 := by simp only [decide_eq_true_eq] at he; omega
   refine cU (cK (eK (ts (rm rfl (ra rfl (eZ (W.D_start (m:=16) (fun b=>cond b ([box B5 51 [a9 (decide (zz.a < 0)),ah zz.a.natAbs,a9 (decide (zz.b < 0)),ah zz.b.natAbs,ah (du zz)],box B6 32 [Is (.slice none 0 0),Is (.slice none 0 0)],box B8 32 [av z0,bp s0],aE 51 5 B27 ((dN (gv z0) Qi.zero 2 (i + 1)).map ab),qL B28 29 51 5 (bq ab (dN (fun i=>tab 2 fun j=>gm s0 i j) [] 2 i)) i B44,aE 51 5 B44 (((dN (fun j=>gm s0 i j) Qi.zero 2 j).map ab).set j (ab (gm s0 i j)))]) _) 15 (W.D_step (Ei:=[(12,_)]) rfl rfl (W.Srcs.cons (W.Src.pre rfl rfl) W.Srcs.nil) rfl (by kernel_rfl) (dX rfl (cX (Ht rfl))) ?_))))))))
   refine W.D_step (Ei:=[(13,_)]) rfl rfl (W.Srcs.cons (W.Src.pre rfl rfl) W.Srcs.nil) rfl (by kernel_rfl) (dX rfl (cX (Ht rfl))) (W.D_step (Ei:=[(50,_),(51,_)]) rfl rfl (W.Srcs.cons (W.Src.op 0 rfl rfl) (W.Srcs.cons (W.Src.op 1 rfl rfl) W.Srcs.nil)) rfl (by kernel_rfl) (dX rfl (gX U_30 Z_29 (Ht rfl) (Ht rfl) rfl zo (by rw [Nat.mul_one,Nat.zero_add]))) ?_)
   refine W.D_step (Ei:=[(52,_)]) rfl rfl (W.Srcs.cons (W.Src.op 2 rfl rfl) W.Srcs.nil) rfl (by kernel_rfl) (dX rfl (fO A_29 Z_29 (Ht rfl) (j:=4) rfl)) (W.D_step (Ei:=[(14,_)]) rfl rfl (W.Srcs.cons (W.Src.pre rfl rfl) W.Srcs.nil) rfl (by kernel_rfl) (dX rfl (cX (Ht rfl))) (W.D_step (Ei:=[(8,_)]) rfl rfl (W.Srcs.cons (W.Src.pre rfl rfl) W.Srcs.nil) rfl (by kernel_rfl) (dX rfl (eW A_32 Z_32 (Ht rfl) (i:=2) rfl rfl rfl)) (W.D_step (Ei:=[(13,_)]) rfl rfl (W.Srcs.cons (W.Src.pre rfl rfl) W.Srcs.nil) rfl (by kernel_rfl) (dX rfl (cX (Ht rfl))) ?_)))
   refine W.D_step (Ei:=[(56,_)]) rfl rfl (W.Srcs.cons (W.Src.op 6 rfl rfl) W.Srcs.nil) rfl (by kernel_rfl) (dX rfl (dW (Ht rfl) (cJ 1) z6)) (W.D_step (Ei:=[(14,_)]) rfl rfl (W.Srcs.cons (W.Src.pre rfl rfl) W.Srcs.nil) rfl (by kernel_rfl) (dX rfl (cX (Ht rfl))) (W.D_step (Ei:=[(58,_)]) rfl rfl (W.Srcs.cons (W.Src.op 8 rfl rfl) W.Srcs.nil) rfl (by kernel_rfl) (dX rfl (dW (Ht rfl) (cJ 1) z6)) (W.D_step (Ei:=[(55,_),(57,_),(59,_)]) rfl rfl (W.Srcs.cons (W.Src.op 5 rfl rfl) (W.Srcs.cons (W.Src.op 7 rfl rfl) (W.Srcs.cons (W.Src.op 9 rfl rfl) W.Srcs.nil))) rfl (by kernel_rfl) (dX rfl (cZ K_25 (hat i j hi2 hj2) ⟨(Ht rfl),(Ht rfl),(Ht rfl),trivial⟩)) ?_)))
   refine W.D_step (Ei:=[(60,_)]) rfl rfl (W.Srcs.cons (W.Src.op 10 rfl rfl) W.Srcs.nil) rfl (by kernel_rfl) (dX rfl (cX (Ht rfl))) (W.D_step (Ei:=[(49,_)]) rfl rfl (W.Srcs.cons (W.Src.op 11 rfl rfl) W.Srcs.nil) rfl (by kernel_rfl) (dX rfl (dU (Ht rfl) rfl)) (W.D_pure (Ei:=[(49,_)]) rfl rfl (W.Srcs.cons (W.Src.op 11 rfl rfl) W.Srcs.nil) rfl (fun _=>dX rfl (dU (Ht rfl) rfl)) (W.D_step (Ei:=[(53,_),(54,_)]) rfl rfl (W.Srcs.cons (W.Src.op 3 rfl rfl) (W.Srcs.cons (W.Src.op 4 rfl rfl) W.Srcs.nil)) rfl (by kernel_rfl) (dX rfl (bi U_29 Z_51 (Ht rfl) (Ht rfl) rfl (i:=5) rfl (by rw [List.length_map,b9]; omega) rfl)) ?_)))
   refine W.D_put (Ei:=[(63,_),(61,_)]) rfl rfl (W.Srcs.cons (W.Src.op 14 rfl rfl) (W.Srcs.cons (W.Src.op 12 rfl rfl) W.Srcs.nil)) rfl (ol Z_51 (Ht rfl) (Ht rfl) (El.ag rfl) (i:=5) rfl rfl (by rw [List.length_map,b9]; omega)) ?_
   refine W.D_done aA rfl (by kernel_rfl) rfl (W.F_val (W.F_val (W.F_val (W.F_val (W.F_val (W.F_val (W.F_val (W.F_val (W.F_val (W.F_val (W.F_val (W.F_val (W.F_val (W.F_val (W.F_val (W.F_put (W.F_nil (eZ (aB (cY (ro rfl (dW (Ht rfl) (cJ 1) z6) (rm rfl (eZ (gQ (j + 1) hj2 zo (zS rfl) (aU (a8 rfl) (aU (a8 rfl) (aU (a8 rfl) (aU (fun _ _ _ h=>h) (aU (fun _ _ _ h=>h) (aU (ar (by rw [c9]; exact congrArg _ (dC (f:=(fun j=>gm s0 i j))))) aY))))))))))))))))))))))))))))))
  ·obtain rfl : j = 2 := by simp only [decide_eq_false_iff_not] at he; omega
   rw [dD (fun j=>gm s0 i j)]
   refine gK rfl (aB (eH 4 5 rfl rfl (by decide) (by simp only [bq,List.length_map,b9]; omega) ?_))
   refine cY (ro rfl (dW (Ht rfl) (cJ 1) z6) (rm rfl (eZ (aD [0,1,2,3,4] rfl (by decide) (gQ (i + 1) hi2 zo (zS rfl) (aU (a8 rfl) (aU (a8 rfl) (aU (a8 rfl) (aU (fun _ _ _ h=>h) (aU (bO (by rw [eN]; exact congrArg _ (dC (f:=(fun i=>tab 2 fun j=>gm s0 i j))))) aY))))))))))
 ·obtain rfl : i = 2 := by simp only [decide_eq_false_iff_not] at hd; omega
  rw [dD,dD]
  have hzt:tab 2 (gv z0) = z0:=by rw [← hzl]; exact (nx rfl).symm
  have hst:(tab 2 fun i=>tab 2 fun j=>gm s0 i j) = s0:=(jd hsh).symm
  rw [hzt,hst]
  refine gK rfl (ts (rm rfl (rm rfl (ro rfl (dG (Ht rfl) (cJ 1) zo z6) (ro rfl (eW A_51 Z_51 (Ht rfl) (i:=0) rfl rfl rfl) (ro rfl (bi U_29 Z_51 (Ht rfl) (Ht rfl) rfl (i:=3) rfl (by rw [List.length_map]; omega) rfl) ?_))))))
  refine eL Z_51 (Ht rfl) (Ht rfl) (El.ag rfl) (i:=3) rfl rfl (by rw [List.length_map]; omega) rfl ?_
  refine eZ (cK (fw 3 rfl (ar ((c9 ab z0 1 zz).trans (by rw [hz0]; rfl)):∀ S m V,_ → (aE 51 5 B27 ((km zl zz).map ab)).h S m V) ?_))
  refine gG (i:=3) (tt:=11) rfl rfl cg (gG (i:=4) (tt:=12) rfl rfl (jx (s:=5) (M:=s0) hsh.1.symm) (cY (rm rfl (rm rfl (ro rfl (cZ Tryz.call85 hnw ⟨(Ht rfl),(Ht rfl),trivial⟩) (rm rfl (ro rfl (dU (Ht rfl) rfl) (ro rfl (dU (Ht rfl) rfl) (rn rfl (eG (Ts:=[Is (.slice none 0 0),Is (.slice none 0 0)]) O_32 rfl (fun V=>aW zd (aW zd (aG)))) fun B15=>(gJ Z_32 (Ht rfl) (Ht rfl) rfl (i:=5) rfl (aK rfl) rfl rfl (ra rfl (eZ ?_))))))))))))
  refine cK (aD [0,1,2,3,4,5] rfl (by decide) (cY (ro rfl (eW A_32 Z_32 (Ht rfl) (i:=5) rfl rfl rfl) (rm rfl (ro rfl (di (Ht rfl) cV) (gJ Z_32 (Ht rfl) (Ht rfl) rfl (i:=1) rfl (aK rfl) rfl rfl (ra rfl (eZ (aC rfl (fJ (fY A_32 Z_32 rfl (i:=1) rfl rfl) ?_) (eY rfl))))))))))
  exact (fun v V h=>by rw [← hs0]; exact h)
end
section
open Go Go.RowKit
def kA (zl:List Rt) (zz:Qi):List Qi:=((iw 1 zl).map Rt.q).set 0 zz
theorem ln (zl:List Rt) (zz:Qi):(kA zl zz).length = 2:=by rw [kA,List.length_set,List.length_map,iw,ao]; rfl
theorem rh (zl:List Rt) (zz:Qi):gv (kA zl zz) 0 = zz:=by rw [kA,kE (by rw [List.length_map,iw,ao]; decide),if_pos rfl]
theorem ru (zl:List Rt) {zz:Qi} (h:an zz 2):aP (kA zl zz) 2:=fun x hx=>(List.mem_or_eq_of_mem_set hx).elim (fun k=>(aP.rt:aP ((iw 1 zl).map Rt.q) 2) x k) fun e=>e ▸ h
theorem vL (zl:List Rt) {zz:Qi} (h:ez zz = true):(kA zl zz).all ez = true:=by
 obtain ⟨_,_,_,hp⟩:=fI (mW 1 zl [])
 rw [List.all_eq_true] at hp ⊢
 intro x hx
 rcases List.mem_or_eq_of_mem_set hx with k | k
 ·exact hp x k
 ·rw [k]; exact h
theorem zM (zl sl:List Rt) {zz:Qi} (h:ez zz = true):aR (kA zl zz) (pu sl) = 0:=by
 have hs:=jC sl
 have hz:=ln zl zz
 rw [aR,if_neg,if_pos (vL zl h)]
 rintro (h | h | h | h)
 ·omega
 ·omega
 ·exact h (by rw [hs.1,hz])
 ·obtain ⟨r, hr, h2⟩ := List.any_eq_true.1 h
  simp [hs.2 r hr,hz] at h2
theorem uy {a:Nat} {zl sl:List Rt} {zz:Qi} (hz:ez zz = true) (hf:an zz 2):aw Tryz.prog 24 [n5 a zl sl,NT .i64 1,ab zz] (bo [aM (kA zl zz) (pu sl),a9 true]):=by
 have hzl:((iw 1 zl).map Rt.q).length = 2:=by rw [List.length_map,iw,ao]; rfl
 obtain ⟨z0,hz0⟩:∃ z0,z0 = ((iw 1 zl).map Rt.q):=⟨_,rfl⟩
 obtain ⟨s0,hs0⟩:∃ s0,s0 = pu sl:=⟨_,rfl⟩
 have hsh:bM s0 2 2:=by rw [hs0]; exact jC sl
 have hB:=p9 (a:=1) (zl:=zl) (sl:=sl) (by decide)
 rw [← hz0] at hzl
 rw [← hz0,show (rq (kJ 1 sl)) = s0 from hs0.symm] at hB
 have hsl2:bM s0 z0.length z0.length:=by rw [hzl]; exact hsh
 have hrf : ∀ i, i < 2 → aw Tryz.prog 23 [aM z0 s0, NT .i64 (i + 1)] (bo [ab (gv z0 i), aa .i64 0]) := fun i hi => by
  have h:=tz (z:=z0) (s:=s0) (i:=((i + 1:Nat):Int)) zo
  rw [show xT z0 ((i + 1:Nat):Int) = gv z0 i from pa zo,if_pos zo] at h; exact h
 have hat : ∀ i j, i < 2 → j < 2 → aw Tryz.prog 25 [aM z0 s0, NT .i64 (i + 1), NT .i64 (j + 1)] (bo [ab (gm s0 i j), aa .i64 0]) := fun i j hi hj => by
  have h:=ux (z:=z0) (s:=s0) (i:=((i + 1:Nat):Int)) (j:=((j + 1:Nat):Int)) hsl2 zo
  rw [show uU z0.length s0 ((i + 1:Nat):Int) ((j + 1:Nat):Int) = gm s0 i j from na zo zo,if_pos zo] at h; exact h
 have hnw : aw Tryz.prog 85 [av (kA zl zz), bp s0] (bo [aM (kA zl zz) s0, aa .i64 0]) := by
  have h:=kT (z:=kA zl zz) (s:=s0) (L:=2) (ru zl hf) (by decide) (by rw [ln]; decide) (by rw [hsh.1]; decide)
  rw [show aR (kA zl zz) s0 = 0 by rw [hs0]; exact zM zl sl hz] at h; exact h
 refine aw.intro Tryz.func24 rfl Tryz.ntmps24 rfl (fun cx=>(ts (rn rfl (fU (Ht rfl)) fun B3=>(rn rfl (fU (Ht rfl)) fun B5=>(rn rfl (eG (Ts:=[Is (.slice none 0 0),Is (.slice none 0 0)]) O_32 rfl (fun V=>aW zd (aW zd (aG)))) fun B6=>(ro rfl (cQ cV) (eZ (ts (ro rfl (eJ oN (Ht rfl) rfl) (dI Z_5 (Ht rfl) (cJ 1) (i:=0) rfl (aK rfl) rfl (eZ (ts (ro rfl (eW A_57 Z_57 (Ht rfl) (i:=0) rfl rfl rfl) (ro rfl (cZ Tryz.call21 hB ⟨(Ht rfl),trivial⟩) ?_))))))))))))))
 refine rm rfl (ro rfl (dU (Ht rfl) rfl) (ro rfl (dU (Ht rfl) rfl) (ro rfl (dU (Ht rfl) rfl) (rn rfl (eG (Ts:=[Is (.slice none 0 0),Is (.slice none 0 0)]) O_32 rfl (fun V=>aW zd (aW zd (aG)))) fun B8=>(rn rfl (eG (Ts:=[Is (.slice none 0 0),Is (.slice none 0 0)]) O_38 rfl (fun V=>aW zd (aW zd (aG)))) fun B9=>(gJ Z_32 (Ht rfl) (Ht rfl) rfl (i:=3) rfl (aK rfl) rfl rfl (gJ Z_38 (Ht rfl) (Ht rfl) rfl (i:=4) rfl (aK rfl) rfl rfl ?_)))))))
 refine ra rfl (eZ (cK (ts (rm rfl (ro rfl (bD (Ht rfl)) (eZ (cb (Ht rfl) (by rfl) ?_)))))))
 refine cU (ts (rn rfl (cy (T:=ab Qi.zero) (i:=Tryz.t51) ef de rfl rfl (cJ 2) rfl cw (El.ag rfl) (by show 88 * _ ≤ _; omega) zo) fun B27=>(ra rfl (eZ (ts (rn rfl (ck (T:=Is (.slice none 0 0)) (i:=Tryz.t29) V_30 jY rfl rfl (cJ 2) rfl (fun _=>rfl) trivial (by show 24 * _ ≤ _; omega) zo) fun B28=>(ra rfl (eZ (cK (ts (ro rfl (cX (cJ 0)) (eZ (eK (fw 6 rfl (l8 (e:=51) (s:=5)) (aD [1,2,3,5,6] rfl (by decide) ?_)))))))))))))))
 refine b8 (fun (i : Nat) => i ≤ 2) (fun (i : Nat) => 2 - i) (fun (i : Nat) => [(1, NT .i64 1), (5, aH B5 0), (6, aH B6 0), (8, aH B8 0), (11, Is B27), (12, Is (.slice (some ⟨B28, 0, none⟩) 2 2)), (29, NT .i64 i)]) (fun (i : Nat) => [box B5 51 [a9 (decide (zz.a < 0)), ah zz.a.natAbs, a9 (decide (zz.b < 0)), ah zz.b.natAbs, ah (du zz)], box B6 32 [Is (.slice none 0 0), Is (.slice none 0 0)], box B8 32 [av z0, bp s0], aE 51 5 B27 ((dN (gv z0) Qi.zero 2 i).map ab), gt B28 29 51 5 (bq ab (dN (fun i => tab 2 fun j => gm s0 i j) [] 2 i))]) 0 (Nat.zero_le _)
  (zS rfl) (aU (a8 rfl) (aU (a8 rfl) (aU (a8 rfl) (aU (ar (by rw [← cP]; exact gL ab 2)) (aU (bO (by rw [← cP,iC]; exact jp ab 2)) aY))))) (fun i hi=>?_)
 refine ts (ro rfl (gV (Ht rfl) (cJ 2)) (eZ (cK (dQ (Ht rfl) (fun hd=>?_) (fun hd=>?_)))))
 ·have hi2 : i < 2 := by simp only [decide_eq_true_eq] at hd; omega
  refine cU (cK (eK (ts (rm rfl (ra rfl (eZ (ts (rm rfl (rm rfl (ro rfl (eW A_32 Z_32 (Ht rfl) (i:=2) rfl rfl rfl) (rm rfl (ro rfl (dW (Ht rfl) (cJ 1) z6) (ro rfl (cZ Tryz.call23 (hrf i hi2) ⟨(Ht rfl),(Ht rfl),trivial⟩) (rm rfl (ro rfl (dU (Ht rfl) rfl) (ro rfl (dU (Ht rfl) rfl) (ro rfl (bi U_29 Z_51 (Ht rfl) (Ht rfl) rfl (i:=3) rfl (by rw [List.length_map,b9]; omega) rfl) ?_)))))))))))))))))
  refine eL Z_51 (Ht rfl) (Ht rfl) (El.ag rfl) (i:=3) rfl rfl (by rw [List.length_map,b9]; omega) rfl ?_
  refine eZ (cK (fw 3 rfl (ar (by rw [c9,dC (f:=gv z0)])) ?_))
  refine ip 4 (i) rfl (l7 hi2) (fun v0=>(cY (rm rfl (rm rfl (rn rfl (cy (T:=ab Qi.zero) (i:=Tryz.t51) ef de rfl rfl (cJ 2) rfl cw (El.ag rfl) (by show 88 * _ ≤ _; omega) zo) fun B44=>(ro rfl (gX U_30 Z_29 (Ht rfl) (Ht rfl) rfl zo (by rw [Nat.mul_one,Nat.zero_add])) ?_))))))
  refine nw Z_29 (Ht rfl) (Ht rfl) (by simp only [bq,List.length_map,b9]; omega) (j:=4) (l:=6) rfl rfl rfl ?_
  refine eZ (cK (aD [0,1,2,3,4,6] rfl (by decide) (cY (ro rfl (cX (cJ 0)) (eZ (eK ?_))))))
  refine b8 (fun (j : Nat) => j ≤ 2) (fun (j : Nat) => 2 - j) (fun (j : Nat) => [(1, NT .i64 1), (5, aH B5 0), (6, aH B6 0), (8, aH B8 0), (11, Is B27), (12, Is (.slice (some ⟨B28, 0, none⟩) 2 2)), (13, NT .i64 i), (29, NT .i64 i), (46, NT .i64 j)]) (fun (j : Nat) => [box B5 51 [a9 (decide (zz.a < 0)), ah zz.a.natAbs, a9 (decide (zz.b < 0)), ah zz.b.natAbs, ah (du zz)], box B6 32 [Is (.slice none 0 0), Is (.slice none 0 0)], box B8 32 [av z0, bp s0], aE 51 5 B27 ((dN (gv z0) Qi.zero 2 (i + 1)).map ab), qL B28 29 51 5 (bq ab (dN (fun i => tab 2 fun j => gm s0 i j) [] 2 i)) i B44, aE 51 5 B44 ((dN (fun j => gm s0 i j) Qi.zero 2 j).map ab)]) 0 (Nat.zero_le _)
   (zS rfl) (aU (a8 rfl) (aU (a8 rfl) (aU (a8 rfl) (aU (fun _ _ _ h=>h) (aU (fun _ _ _ h=>h) (aU (ar (by rw [← cP]; exact gL ab 2)) aY)))))) (fun j hj=>?_)
  refine ts (ro rfl (gV (Ht rfl) (cJ 2)) (eZ (cK (dQ (Ht rfl) (fun he=>?_) (fun he=>?_)))))
  ·have hj2 : j < 2 := by simp only [decide_eq_true_eq] at he; omega
   refine cU (cK (eK (ts (rm rfl (ra rfl (eZ (W.D_start (m:=16) (fun b=>cond b ([box B5 51 [a9 (decide (zz.a < 0)),ah zz.a.natAbs,a9 (decide (zz.b < 0)),ah zz.b.natAbs,ah (du zz)],box B6 32 [Is (.slice none 0 0),Is (.slice none 0 0)],box B8 32 [av z0,bp s0],aE 51 5 B27 ((dN (gv z0) Qi.zero 2 (i + 1)).map ab),qL B28 29 51 5 (bq ab (dN (fun i=>tab 2 fun j=>gm s0 i j) [] 2 i)) i B44,aE 51 5 B44 (((dN (fun j=>gm s0 i j) Qi.zero 2 j).map ab).set j (ab (gm s0 i j)))]) _) 15 (W.D_step (Ei:=[(12,_)]) rfl rfl (W.Srcs.cons (W.Src.pre rfl rfl) W.Srcs.nil) rfl (by kernel_rfl) (dX rfl (cX (Ht rfl))) ?_))))))))
   refine W.D_step (Ei:=[(13,_)]) rfl rfl (W.Srcs.cons (W.Src.pre rfl rfl) W.Srcs.nil) rfl (by kernel_rfl) (dX rfl (cX (Ht rfl))) (W.D_step (Ei:=[(50,_),(51,_)]) rfl rfl (W.Srcs.cons (W.Src.op 0 rfl rfl) (W.Srcs.cons (W.Src.op 1 rfl rfl) W.Srcs.nil)) rfl (by kernel_rfl) (dX rfl (gX U_30 Z_29 (Ht rfl) (Ht rfl) rfl zo (by rw [Nat.mul_one,Nat.zero_add]))) ?_)
   refine W.D_step (Ei:=[(52,_)]) rfl rfl (W.Srcs.cons (W.Src.op 2 rfl rfl) W.Srcs.nil) rfl (by kernel_rfl) (dX rfl (fO A_29 Z_29 (Ht rfl) (j:=4) rfl)) (W.D_step (Ei:=[(14,_)]) rfl rfl (W.Srcs.cons (W.Src.pre rfl rfl) W.Srcs.nil) rfl (by kernel_rfl) (dX rfl (cX (Ht rfl))) (W.D_step (Ei:=[(8,_)]) rfl rfl (W.Srcs.cons (W.Src.pre rfl rfl) W.Srcs.nil) rfl (by kernel_rfl) (dX rfl (eW A_32 Z_32 (Ht rfl) (i:=2) rfl rfl rfl)) (W.D_step (Ei:=[(13,_)]) rfl rfl (W.Srcs.cons (W.Src.pre rfl rfl) W.Srcs.nil) rfl (by kernel_rfl) (dX rfl (cX (Ht rfl))) ?_)))
   refine W.D_step (Ei:=[(56,_)]) rfl rfl (W.Srcs.cons (W.Src.op 6 rfl rfl) W.Srcs.nil) rfl (by kernel_rfl) (dX rfl (dW (Ht rfl) (cJ 1) z6)) (W.D_step (Ei:=[(14,_)]) rfl rfl (W.Srcs.cons (W.Src.pre rfl rfl) W.Srcs.nil) rfl (by kernel_rfl) (dX rfl (cX (Ht rfl))) (W.D_step (Ei:=[(58,_)]) rfl rfl (W.Srcs.cons (W.Src.op 8 rfl rfl) W.Srcs.nil) rfl (by kernel_rfl) (dX rfl (dW (Ht rfl) (cJ 1) z6)) (W.D_step (Ei:=[(55,_),(57,_),(59,_)]) rfl rfl (W.Srcs.cons (W.Src.op 5 rfl rfl) (W.Srcs.cons (W.Src.op 7 rfl rfl) (W.Srcs.cons (W.Src.op 9 rfl rfl) W.Srcs.nil))) rfl (by kernel_rfl) (dX rfl (cZ K_25 (hat i j hi2 hj2) ⟨(Ht rfl),(Ht rfl),(Ht rfl),trivial⟩)) ?_)))
   refine W.D_step (Ei:=[(60,_)]) rfl rfl (W.Srcs.cons (W.Src.op 10 rfl rfl) W.Srcs.nil) rfl (by kernel_rfl) (dX rfl (cX (Ht rfl))) (W.D_step (Ei:=[(49,_)]) rfl rfl (W.Srcs.cons (W.Src.op 11 rfl rfl) W.Srcs.nil) rfl (by kernel_rfl) (dX rfl (dU (Ht rfl) rfl)) (W.D_pure (Ei:=[(49,_)]) rfl rfl (W.Srcs.cons (W.Src.op 11 rfl rfl) W.Srcs.nil) rfl (fun _=>dX rfl (dU (Ht rfl) rfl)) (W.D_step (Ei:=[(53,_),(54,_)]) rfl rfl (W.Srcs.cons (W.Src.op 3 rfl rfl) (W.Srcs.cons (W.Src.op 4 rfl rfl) W.Srcs.nil)) rfl (by kernel_rfl) (dX rfl (bi U_29 Z_51 (Ht rfl) (Ht rfl) rfl (i:=5) rfl (by rw [List.length_map,b9]; omega) rfl)) ?_)))
   refine W.D_put (Ei:=[(63,_),(61,_)]) rfl rfl (W.Srcs.cons (W.Src.op 14 rfl rfl) (W.Srcs.cons (W.Src.op 12 rfl rfl) W.Srcs.nil)) rfl (ol Z_51 (Ht rfl) (Ht rfl) (El.ag rfl) (i:=5) rfl rfl (by rw [List.length_map,b9]; omega)) ?_
   refine W.D_done aA rfl (by kernel_rfl) rfl (W.F_val (W.F_val (W.F_val (W.F_val (W.F_val (W.F_val (W.F_val (W.F_val (W.F_val (W.F_val (W.F_val (W.F_val (W.F_val (W.F_val (W.F_val (W.F_put (W.F_nil (eZ (aB (cY (ro rfl (dW (Ht rfl) (cJ 1) z6) (rm rfl (eZ (gQ (j + 1) hj2 zo (zS rfl) (aU (a8 rfl) (aU (a8 rfl) (aU (a8 rfl) (aU (fun _ _ _ h=>h) (aU (fun _ _ _ h=>h) (aU (ar (by rw [c9]; exact congrArg _ (dC (f:=(fun j=>gm s0 i j))))) aY))))))))))))))))))))))))))))))
  ·obtain rfl : j = 2 := by simp only [decide_eq_false_iff_not] at he; omega
   rw [dD (fun j=>gm s0 i j)]
   refine gK rfl (aB (eH 4 5 rfl rfl (by decide) (by simp only [bq,List.length_map,b9]; omega) ?_))
   refine cY (ro rfl (dW (Ht rfl) (cJ 1) z6) (rm rfl (eZ (aD [0,1,2,3,4] rfl (by decide) (gQ (i + 1) hi2 zo (zS rfl) (aU (a8 rfl) (aU (a8 rfl) (aU (a8 rfl) (aU (fun _ _ _ h=>h) (aU (bO (by rw [eN]; exact congrArg _ (dC (f:=(fun i=>tab 2 fun j=>gm s0 i j))))) aY))))))))))
 ·obtain rfl : i = 2 := by simp only [decide_eq_false_iff_not] at hd; omega
  rw [dD,dD]
  have hzt:tab 2 (gv z0) = z0:=by rw [← hzl]; exact (nx rfl).symm
  have hst:(tab 2 fun i=>tab 2 fun j=>gm s0 i j) = s0:=(jd hsh).symm
  rw [hzt,hst]
  refine gK rfl (ts (rm rfl (rm rfl (ro rfl (dG (Ht rfl) (cJ 1) zo z6) (ro rfl (eW A_51 Z_51 (Ht rfl) (i:=0) rfl rfl rfl) (ro rfl (bi U_29 Z_51 (Ht rfl) (Ht rfl) rfl (i:=3) rfl (by rw [List.length_map]; omega) rfl) ?_))))))
  refine eL Z_51 (Ht rfl) (Ht rfl) (El.ag rfl) (i:=3) rfl rfl (by rw [List.length_map]; omega) rfl ?_
  refine eZ (cK (fw 3 rfl (ar ((c9 ab z0 0 zz).trans (by rw [hz0]; rfl)):∀ S m V,_ → (aE 51 5 B27 ((kA zl zz).map ab)).h S m V) ?_))
  refine gG (i:=3) (tt:=11) rfl rfl cg (gG (i:=4) (tt:=12) rfl rfl (jx (s:=5) (M:=s0) hsh.1.symm) (cY (rm rfl (rm rfl (ro rfl (cZ Tryz.call85 hnw ⟨(Ht rfl),(Ht rfl),trivial⟩) (rm rfl (ro rfl (dU (Ht rfl) rfl) (ro rfl (dU (Ht rfl) rfl) (rn rfl (eG (Ts:=[Is (.slice none 0 0),Is (.slice none 0 0)]) O_32 rfl (fun V=>aW zd (aW zd (aG)))) fun B15=>(gJ Z_32 (Ht rfl) (Ht rfl) rfl (i:=5) rfl (aK rfl) rfl rfl (ra rfl (eZ ?_))))))))))))
  refine cK (aD [0,1,2,3,4,5] rfl (by decide) (cY (ro rfl (eW A_32 Z_32 (Ht rfl) (i:=5) rfl rfl rfl) (rm rfl (ro rfl (di (Ht rfl) cV) (gJ Z_32 (Ht rfl) (Ht rfl) rfl (i:=1) rfl (aK rfl) rfl rfl (ra rfl (eZ (aC rfl (fJ (fY A_32 Z_32 rfl (i:=1) rfl rfl) ?_) (eY rfl))))))))))
  exact (fun v V h=>by rw [← hs0]; exact h)
end
section
open Go Go.RowKit
section
variable {P:Program} {n:Nat} {E:aT} {H:Hp}
variable {d:Option Tmp} {t:TypeId} {pos:String} {af:Array Edge} {g:Option (Nat × Bool)}
theorem qe {x y : Operand} {i B o' : Nat} {BT : TypeId} {Ts Ws : List Ty} {T : Ty} [hsh : bg T 1 false] (hS : ∀ w, (sizeOf t).run P w = .ok 1 w) (hx : ax E x (aH B o')) (hy : ax E y T)
  (hH:H[i]? = some (box B BT Ts)) (hlt:o' < Ts.length) (hW:Ts.set o' T = Ws) {t':TypeId} {H':Hp} (hH':H.set i (box B BT Ws) = H') :
  W.PutTy P n E H H' ⟨none,.store t x y,t',pos,af,none⟩:=by subst hW; subst hH'; exact Dc hS hx hy hH hlt
theorem ub {x y : Operand} {m e s : Nat} {tn : TypeId} {i : TypeInfo} {z : Value} {kd kn : IntKind} (ht : P.underlying t = some (.slice e)) (htn : P.underlying tn = some (.int kn)) (hi : P.info? e = some i) (hz : i.zero = some z) (hs : i.size = s) (hzs : z.cells.size = s) (hs0 : 0 < s)
  (hx:ax E x (Is (.slice none 0 0))) (hy:ax E y (aa kd (m:Int))) (h0:0 < m) (hb:m * i.bytes ≤ 281474976710656) (hm:m ≤ 9223372036854775807) {t':TypeId} :
  cF P n E H ⟨d,.call ⟨.builtin .append,#[x,y],#[t,tn]⟩,t',pos,af,g⟩ (Nat × Nat) (fun q=>Is (.slice (some ⟨q.1,0,none⟩) m q.2)) (fun q=>aE e s (.slice (some ⟨q.1,0,none⟩) 0 q.2) []):=cF.of fun cx X a w V hi' hsl=>by
 have ex:a.eval x = .slice none 0 0:=hx n V a hsl
 have ey:a.eval y = .int kd (m:Int):=hy n V a hsl
 have hr:=Lib.run_append_nil_zeros (P:=P) w t tn t' e i z kd kn ht htn hi hz m h0 zo zo hb
 have hge:=grownCap_ge w m 0 e
 have hcm:grownCap w m 0 e ≤ maxLen:=grownCap_le_maxLen w m 0 e (by simp only [maxLen]; omega)
 subst hs
 refine ⟨(w.heap.size,grownCap w m 0 e),_,_,?_,rfl,(hi'.drew).alloc (ob:=.cells (Builtin.zeroCells z.cells m ++ Builtin.zeroCells z.cells (grownCap w m 0 e - m)) e) (fun mm hm'=>⟨[],⟨trivial,by simp,by simp [bc]⟩,.inr ⟨w.heap.size,grownCap w m 0 e,_,rfl,rfl,hm',Nat.zero_le _,hcm,?_,by simp [bc]⟩⟩)⟩
 ·simp [execOp,resolve,invoke,builtin,ex,ey,hr,Sem.run_bind,Result.andThen]
 ·simp only [Array.size_append, size_zeroCells, hzs, ← Nat.add_mul]
  congr 1; omega
theorem tr {x : Operand} {ad : Option Addr} {l cap : Nat} {e : TypeId} {ta : TypeId} (hU : ∀ w, (underlying ta).run P w = .ok (.slice e) w) (hx : ax E x (Is (.slice ad l cap))) :
  ae P n E H ⟨d,.call ⟨.builtin .cap,#[x],#[ta]⟩,t,pos,af,g⟩ (aa .i64 cap) :=
 bt fun a V w hs => by
  have e1:a.eval x = .slice ad l cap:=hx n V a hs
  exact ⟨.int .i64 cap,by simp [execOp,resolve,e1,invoke,builtin,Builtin.cap_,Sem.run_bind,hU,Result.andThen,goInt],rfl⟩
theorem o8 {x hiO : Operand} {ad : Option Addr} {l cap m s : Nat} {kd : IntKind} {e : TypeId} (hU : ∀ w, (underlying t).run P w = .ok (.slice e) w) (hS : ∀ w, (sizeOf e).run P w = .ok s w) (hx : ax E x (Is (.slice ad l cap))) (hh : ax E hiO (aa kd (m : Int))) (h1 : m ≤ cap) {t' : TypeId} :
  ae P n E H ⟨d,.slice t x none (some hiO) none,t',pos,af,g⟩ (Is (.slice ad m cap)) :=
 bt fun a V w hs => by
  have e1:a.eval x = .slice ad l cap:=hx n V a hs
  have eh:a.eval hiO = .int kd (m:Int):=hh n V a hs
  have had:(ad.map fun x:Addr=>x.add 0) = ad:=by cases ad <;> simp [Addr.add]
  refine ⟨.slice ad m cap,?_,rfl⟩
  simp [execOp,e1,eh,Instr.sliceAt,Instr.slice,Instr.sliceBounds,Instr.sliceBound,asIntOf,Sem.run_bind,hU,hS,Result.andThen,h1,had]
end
end
section
open Go Go.RowKit
theorem Df:Tryz.prog.underlying 3 = some (.int .i64):=by kernel_rfl
end
section
open Go Go.RowKit
theorem A8 {m:Nat} (hm:m ≤ 1000):dy Tryz.prog 205 [Is (.slice none 0 0),NT .i64 m] [] (Value) (fun v=>Is v) (fun v=>[aE 51 5 v []]) (fun _=>True):=by
 refine dy.intro Tryz.func205 rfl Tryz.ntmps205 rfl (fun cx Z=>(ts (ro rfl (cQ cV) (eZ (cK (ts (rm rfl (ro rfl (gV (Ht rfl) (cJ 0)) (eZ (cb (Ht rfl) (by simp) ?_))))))))))
 refine cU (cK (ts (rm rfl (rm rfl (ro rfl (tr U_29 (Ht rfl)) (rm rfl (ro rfl (dS U_29 (Ht rfl)) (ro rfl (dG (Ht rfl) (Ht rfl) zo z6) (ro rfl (dG (Ht rfl) (Ht rfl) zo z6) (ra rfl (eZ (ts (rm rfl (ro rfl (bR (Ht rfl) (cJ 0)) (eZ (dQ (Ht rfl) (fun hb=>?_) (fun hb=>?_)))))))))))))))))
 ·have h0 : 0 < m := by simp only [decide_eq_true_eq] at hb; omega
  refine cY (rm rfl (rm rfl (ro rfl (tr U_29 (Ht rfl)) (ro rfl (o8 U_29 Z_51 (Ht rfl) (Ht rfl) (Nat.le_refl _)) (rm rfl (rn rfl (ub (i:=Tryz.t51) ef Df de rfl rfl rfl (by decide) (Ht rfl) (Ht rfl) zo (by show _ * 88 ≤ _; omega) zo) fun q22=>(rm rfl (ro rfl (dS U_29 (Ht rfl)) (ro rfl (o8 U_29 Z_51 (Ht rfl) (Ht rfl) (Nat.zero_le _)) (ra rfl (eZ (ts (rm rfl (ra rfl (eZ ?_)))))))))))))))
  exact fo _ trivial [0,1] ⟨⟨_,rfl,fun _ _ _ h=>h⟩,⟨_,rfl,fun _ _ _ h=>h⟩,trivial⟩ (by decide) (nt rfl (eY rfl))
 ·obtain rfl : m = 0 := by simp only [decide_eq_false_iff_not] at hb; omega
  refine jk 51 5 (cU (ts (rm rfl (ra rfl (eZ ?_)))))
  exact fo _ trivial [0,1] ⟨⟨_,rfl,fun _ _ _ h=>h⟩,⟨_,rfl,fun _ _ _ h=>h⟩,trivial⟩ (by decide) (nt rfl (eY rfl))
abbrev AS (ls:List (List Qi)) (i:Nat):List Qi:=(ls.take i).flatten
theorem qy {ls:List (List Qi)} {i:Nat} (h:i < ls.length):AS ls (i + 1) = AS ls i ++ ls.getD i []:=by
 simp only [AS]
 rw [List.take_succ_eq_append_getElem h,List.flatten_append]
 simp [List.getD,h]
theorem tN (ls:List (List Qi)):AS ls ls.length = ls.flatten:=by rw [AS,List.take_length]
theorem vF {ls:List (List Qi)} {i:Nat} (h:i ≤ ls.length):(AS ls i).length ≤ ls.flatten.length:=by
 have e:ls.flatten = (ls.take i).flatten ++ (ls.drop i).flatten:=by rw [← List.flatten_append,List.take_append_drop]
 show (ls.take i).flatten.length ≤ _
 rw [e,List.length_append]; omega
theorem wO {ls:List (List Qi)} (hl:ls.length ≤ 1000) (hf:ls.flatten.length ≤ 1000):aw Tryz.prog 116 [dP 1 (ls.map av)] (av ls.flatten):=by
 refine aw.intro Tryz.func116 rfl Tryz.ntmps116 rfl (fun cx=>(ts (ro rfl (cQ cV) (eZ (ts (ro rfl (cQ (cJ 0)) (eZ (cK (ts (rm rfl (ro rfl (dK U_30 (Ht rfl) a7) (ro rfl (cX (cJ 0)) (eZ (eK ?_))))))))))))))
 refine b8 (fun (i : Nat) => i ≤ ls.length) (fun (i : Nat) => ls.length - i) (fun (i : Nat) => [(0, dP 1 (ls.map av)), (3, NT .i64 (AS ls i).length), (9, dP 1 (ls.map av)), (10, NT .i64 ls.length), (11, NT .i64 i)]) (fun (i : Nat) => []) 0 (Nat.zero_le _)
  (zS rfl) aY (fun i hi=>?_)
 refine ts (ro rfl (gV (Ht rfl) (Ht rfl)) (eZ (cK (dQ (Ht rfl) (fun hd=>?_) (fun hd=>?_)))))
 ·have hin : i < ls.length := by simp only [decide_eq_true_eq] at hd; omega
  have hcn:=qy hin
  have hcl:=vF (ls:=ls) (i:=i + 1) hin
  rw [hcn,List.length_append] at hcl
  refine cU (cK (eK (ts (ro rfl (dZ U_30 Z_29 (Ht rfl) (Ht rfl) rfl (eQ (dY (d:=[]) zo))) (ro rfl (dV A_29 Z_29 (Ht rfl)) (ra rfl (eZ (ts (rm rfl (rm rfl (ro rfl (dK U_29 (Ht rfl) a7) (ro rfl (dW (Ht rfl) (Ht rfl) (by show _ < 9223372036854775808; omega)) (ra rfl (eZ (ts (rm rfl (ro rfl (gV (Ht rfl) (cJ 0)) (eZ (cb (Ht rfl) (by simp) ?_)))))))))))))))))))
  refine cU (aB (cY (ro rfl (dW (Ht rfl) (cJ 1) z6) (rm rfl (eZ (gQ (i + 1) hin zo (aQ rfl (aZ rfl (fe (by rw [hcn,List.length_append])) (zS rfl))) aY))))))
 ·have hin : i = ls.length := by simp only [decide_eq_false_iff_not] at hd; omega
  rw [hin,tN]
  refine gK rfl (ts (rm rfl (gD Tryz.call205 (A8 (m:=ls.flatten.length) hf) ⟨cV,(Ht rfl),trivial⟩ rfl (fun v24 _=>(ra rfl (eZ (cK (ts (rm rfl (ro rfl (dK U_30 (Ht rfl) a7) (ro rfl (cX (cJ 0)) (eZ (eK ?_)))))))))))))
  refine ci (fun (j : Nat) (v : Value) => j ≤ ls.length) (fun (j : Nat) (v : Value) => ls.length - j) (fun (j : Nat) (v : Value) => [(0, dP 1 (ls.map av)), (6, Is v), (25, dP 1 (ls.map av)), (26, NT .i64 ls.length), (27, NT .i64 j)]) (fun (j : Nat) (v : Value) => [aE 51 5 v ((AS ls j).map ab)]) 0 _ (Nat.zero_le _)
   (zS rfl) (aU (ar rfl) aY) (fun j v hj=>?_)
  refine ts (ro rfl (gV (Ht rfl) (Ht rfl)) (eZ (cK (dQ (Ht rfl) (fun he=>?_) (fun he=>?_)))))
  ·have hjn : j < ls.length := by simp only [decide_eq_true_eq] at he; omega
   have hcn:=qy hjn
   have hcl:=vF (ls:=ls) (i:=j + 1) hjn
   rw [hcn,List.length_append] at hcl
   refine cU (cK (eK (ts (ro rfl (dZ U_30 Z_29 (Ht rfl) (Ht rfl) rfl (eQ (dY (d:=[]) zo))) (ro rfl (dV A_29 Z_29 (Ht rfl)) (ra rfl (eZ (cY (rm rfl (rm rfl (oE (inf:=Tryz.t51) ef de rfl rfl rfl (Ht rfl) (Ht rfl) (i:=0) rfl (fun T hT=>by obtain ⟨x,_,rfl⟩:=List.mem_map.1 hT; exact El.ag rfl) (by show _ * 88 ≤ _; simp only [List.length_map]; omega) (by simp only [List.length_map]; omega) rfl (fun v2=>?_))))))))))))
   refine ra rfl (eZ (aB (cY (ro rfl (dW (Ht rfl) (cJ 1) z6) (rm rfl (eZ (gQ (j + 1,v2) hjn (by dsimp only; omega) (zS rfl) (aU (ar (by rw [hcn,List.map_append])) aY))))))))
  ·have hjn : j = ls.length := by simp only [decide_eq_false_iff_not] at he; omega
   rw [hjn,tN]
   refine gK rfl (gG (i:=0) (tt:=6) rfl rfl cg (ts (rm rfl (ra rfl (eZ ?_)))))
   exact fK rfl (eY rfl)
theorem wy {z zb:List Qi} {a b:List (List Qi)} {x y i j:Nat} (ha:bM a x x) (hb:bM b y y) (hx:x ≤ 100) (hy:y ≤ 100) (hi:i < x + y) (hj:j < x + y):aw Tryz.prog 115 [NT .i64 i,NT .i64 j,PT (NT .i64 x),PT (aM z a),PT (aM zb b)] (ab (gm (nA a b x y) i j)):=by
 have hal:=ha.1
 have hbl:=hb.1
 rw [il hi hj]
 refine aw.intro Tryz.func115 rfl Tryz.ntmps115 rfl (fun cx=>(ts (rn rfl (eG (Ts:=[Is (.bool false),Is (.slice none 0 0),Is (.bool false),Is (.slice none 0 0),Is (.slice none 0 0)]) O_51 rfl (fun V=>aW zd (aW zd (aW zd (aW zd (aW zd (aG))))))) fun B7=>(eZ (cK (eK (ts (rm rfl (ro rfl (dV A_3 Z_3 (Ht rfl)) (ro rfl (gV (Ht rfl) (Ht rfl)) (rm rfl (fX rfl rfl (eU rfl rfl (Ht rfl) (fun h=>cX (Ht rfl))) ?_))))))))))))
 refine fX rfl rfl (eU rfl rfl (Ht rfl) (fun h=>dV A_3 Z_3 (Ht rfl))) (fX rfl rfl (eU rfl rfl (Ht rfl) (fun h=>gV (fW rfl h) (fW rfl h))) (ro rfl (bx (Ht rfl) (fun h=>(fW rfl h))) (ra rfl (eZ (dQ (Ht rfl) (fun h1=>?_) (fun h1=>?_))))))
 ·have h2 : i < x ∧ j < x := by simpa using h1
  have har:=ha.row h2.1
  refine ts (ro rfl (dB bn (Ht rfl) rfl) (ro rfl (dV A_30 Z_30 (Ht rfl)) (rm rfl (ro rfl (dZ U_30 Z_29 (Ht rfl) (Ht rfl) rfl (eQ (dY (d:=[]) zo))) (ro rfl (dV A_29 Z_29 (Ht rfl)) (rm rfl (ro rfl (dZ U_29 Z_51 (Ht rfl) (Ht rfl) rfl (eQ (dY (d:=Qi.zero) zo))) (ro rfl (dV A_51 Z_51 (Ht rfl)) (gJ Z_51 (Ht rfl) (Ht rfl) rfl (i:=0) rfl (aK rfl) rfl rfl (eZ (fK rfl (fJ (fY A_51 Z_51 rfl (i:=0) rfl rfl) ?_))))))))))))
  exact (cv (by rw [if_pos h2.1,if_pos h2.2]))
 ·have h2 : ¬ (i < x ∧ j < x) := by simpa using h1
  refine ts (rm rfl (ro rfl (dV A_3 Z_3 (Ht rfl)) (ro rfl (g6 (Ht rfl) (Ht rfl)) (rm rfl (fX rfl rfl (eU rfl rfl (Ht rfl) (fun h=>cX (Ht rfl))) (fX rfl rfl (eU rfl rfl (Ht rfl) (fun h=>dV A_3 Z_3 (Ht rfl))) (fX rfl rfl (eU rfl rfl (Ht rfl) (fun h=>g6 (fW rfl h) (fW rfl h))) (ro rfl (bx (Ht rfl) (fun h=>(fW rfl h))) (ra rfl (eZ (dQ (Ht rfl) (fun h3=>?_) (fun h3=>?_))))))))))))
  ·have h4 : x ≤ i ∧ x ≤ j := by simpa using h3
   have hbr:=hb.row (i:=i - x) zo
   refine cK (fV (m:=10) (dp 4 rfl (dB bn (Ht rfl) rfl) (dq 34 0 rfl (dV A_30 Z_30 (Ht rfl)) (dp 0 rfl (cX (Ht rfl)) (dp 2 rfl (dV A_3 Z_3 (Ht rfl)) (bv 36 2 37 3 rfl (dG (Ht rfl) (Ht rfl) zo z6) (bv 35 1 38 4 rfl (dZ U_30 Z_29 (Ht rfl) (Ht rfl) rfl (eQ (dY (d:=[]) zo))) (dq 39 5 rfl (dV A_29 Z_29 (Ht rfl)) (dp 1 rfl (cX (Ht rfl)) (dp 2 rfl (dV A_3 Z_3 (Ht rfl)) ?_))))))))))
   refine bv 41 7 42 8 rfl (dG (Ht rfl) (Ht rfl) zo z6) (fG aA rfl (by kernel_rfl) (zF (zF (aJ (aJ (aV (ro rfl (dZ U_29 Z_51 (Ht rfl) (Ht rfl) rfl (eQ (dY (d:=Qi.zero) zo))) (ro rfl (dV A_51 Z_51 (Ht rfl)) (gJ Z_51 (Ht rfl) (Ht rfl) rfl (i:=0) rfl (aK rfl) rfl rfl (eZ (fK rfl (fJ (fY A_51 Z_51 rfl (i:=0) rfl rfl) ?_))))))))))))
   exact (cv (by rw [if_neg zo,if_pos h4.2]))
  ·have h4 : ¬ (x ≤ i ∧ x ≤ j) := by simpa using h3
   have h5 : Qi.ofInt (0 : Nat) = (if i < x then if j < x then gm a i j else Qi.zero else if x ≤ j then gm b (i - x) (j - x) else Qi.zero) := by
    by_cases e:i < x
    ·rw [if_pos e,if_neg zo]; rfl
    ·rw [if_neg e,if_neg zo]; rfl
   refine cU (aB (ts (ro rfl (cZ K_109 (jT (n:=0) (by decide) (by decide)) ⟨(cJ 0),trivial⟩) (gJ Z_51 (Ht rfl) (Ht rfl) rfl (i:=0) rfl (aK rfl) rfl rfl (eZ (fK rfl (fJ (fY A_51 Z_51 rfl (i:=0) rfl rfl) ?_)))))))
   exact (cv h5)
theorem Af {z zb:List Qi} {a b:List (List Qi)} (ha:bM a z.length z.length) (hb:bM b zb.length zb.length) (hx:z.length ≤ 100) (hy:zb.length ≤ 100):aw Tryz.prog 30 [aM z a,aM zb b] (bo [aM (y9 z zb) (y8 z zb a b),aa .i64 (wj z.length zb.length)]):=by
 refine aw.intro Tryz.func30 rfl Tryz.ntmps30 rfl (fun cx=>(ts (rn rfl (fU (Ht rfl)) fun B2=>(rn rfl (fU (Ht rfl)) fun B3=>(rn rfl (eG (Ts:=[Is (.slice none 0 0),Is (.slice none 0 0)]) O_32 rfl (fun V=>aW zd (aW zd (aG)))) fun B4=>(ro rfl (cQ (cJ 0)) (eZ (cK (Y.D_start (m:=12) [] (bY (Ei:=[(2,_)]) rfl rfl (bQ (bJ rfl rfl) bX) rfl rfl (dX rfl (eJ bH (Ht rfl) rfl)) (bY (Ei:=[(9,_)]) rfl rfl (bQ (bZ 0 rfl rfl) bX) rfl rfl (dX rfl (fQ A_29 Z_29 (Ht rfl) (i:=0) rfl rfl)) ?_)))))))))))
 refine bY (Ei:=[(10,_)]) rfl rfl (bQ (bZ 1 rfl rfl) bX) rfl rfl (dX rfl (dK U_29 (Ht rfl) a7)) (bY (Ei:=[(2,_)]) rfl rfl (bQ (bJ rfl rfl) bX) rfl rfl (dX rfl (eJ bH (Ht rfl) rfl)) (bY (Ei:=[(12,_)]) rfl rfl (bQ (bZ 3 rfl rfl) bX) rfl rfl (dX rfl (fQ A_29 Z_29 (Ht rfl) (i:=0) rfl rfl)) (bY (Ei:=[(13,_)]) rfl rfl (bQ (bZ 4 rfl rfl) bX) rfl rfl (dX rfl (dK U_29 (Ht rfl) a7)) ?_)))
 refine bY (Ei:=[(3,_)]) rfl rfl (bQ (bJ rfl rfl) bX) rfl rfl (dX rfl (eJ bH (Ht rfl) rfl)) (bY (Ei:=[(15,_)]) rfl rfl (bQ (bZ 6 rfl rfl) bX) rfl rfl (dX rfl (fQ A_29 Z_29 (Ht rfl) (i:=1) rfl rfl)) (bY (Ei:=[(16,_)]) rfl rfl (bQ (bZ 7 rfl rfl) bX) rfl rfl (dX rfl (dK U_29 (Ht rfl) a7)) (bY (Ei:=[(14,_),(17,_)]) rfl rfl (bQ (bZ 5 rfl rfl) (bQ (bZ 8 rfl rfl) bX)) rfl rfl (dX rfl (dW (Ht rfl) (Ht rfl) z6)) ?_)))
 refine Y.D_newp (Ei:=[]) (fun bb=>box bb 3 [NT .i64 z.length]) 11 rfl rfl rfl bX rfl rfl (by kernel_rfl) (eG (Ts:=[Is (.int .i64 0)]) O_3 rfl (fun V=>aW zd (aG))) (Y.D_putN (Ei:=[(11,_)]) 10 rfl rfl rfl rfl rfl rfl (bQ (bZ 2 rfl rfl) bX) (fun bb=>qe Z_3 (Ht rfl) (Ht rfl) (i:=0) rfl (aK rfl) rfl rfl) (Y.D_done aA rfl (by kernel_rfl) rfl (by simp [Y.okP]) rfl rfl (bU (bU (bU (bU (bU (bU (bU (bU (bU (bU (Y.F_newp (fun B6=>Y.F_putN (Y.F_nil ?_)))))))))))))))
 refine ra rfl (eZ (cK (ts (rm rfl (ro rfl (bR (Ht rfl) (cJ 8)) (eZ (dQ (Ht rfl) (fun hb1=>?_) (fun hb1=>?_))))))))
 ·have h2 : 8 < z.length + zb.length := by simpa using hb1
  have he:=zJ h2
  refine ts (ro rfl (ae.imp (d9 ) da) (gJ Z_32 (Ht rfl) (Ht rfl) rfl (i:=2) rfl (aK rfl) rfl rfl (ro rfl (cQ (cJ 4)) (eZ (aC rfl (fJ (fY A_32 Z_32 rfl (i:=2) rfl rfl) ?_) (fJ (eY rfl) ?_))))))
  ·exact (fun v V h=>by rw [y9,y8,cL,cL,he]; exact h)
  ·exact (am he.symm)
 ·have h2 : ¬ 8 < z.length + zb.length := by simpa using hb1
  have he:=wg h2
  refine cU (cK (gG (i:=0) (tt:=2) rfl rfl cf (gG (i:=1) (tt:=3) rfl rfl cf (gG (i:=3) (tt:=6) rfl rfl cC (cY (rm rfl (ro rfl (fm (γ:=Fin (z.length + zb.length) × Fin (z.length + zb.length)) (Ts:=fun x=>[NT .i64 x.1.1,NT .i64 x.2.1]) (U:=fun x=>ab (gm (nA a b z.length zb.length) x.1.1 x.2.1)) Tryz.call115 (fun x=>wy ha hb hx hy x.1.2 x.2.2) ⟨(Ht rfl),(Ht rfl),(Ht rfl),trivial⟩) (ro rfl (cZ K_114 (eX (mY (n:=z.length + zb.length) (f:=fun i j=>gm (nA a b z.length zb.length) i j) zo) (ee (congrArg _ (jd (mU a b z.length zb.length)).symm))) ⟨(Ht rfl),(Ht rfl),trivial⟩) ?_))))))))
  refine ra rfl (eZ (ts (ro rfl (dB bH (Ht rfl) rfl) (ro rfl (dV A_29 Z_29 (Ht rfl)) (ro rfl (dB bH (Ht rfl) rfl) (ro rfl (dV A_29 Z_29 (Ht rfl)) (ro rfl (bm (xs:=[.tmp 26,.tmp 28]) U_30 Z_29 O_29 (cW (Ht rfl) (cW (Ht rfl) cG)) rfl rfl rfl) (ro rfl (cZ Tryz.call116 (eX (wO (ls:=[z,zb]) (by simp) (by simp; omega)) (ee (Us:=(z ++ zb).map ab) (by simp))) ⟨(Ht rfl),trivial⟩) ?_))))))))
  refine rm rfl (ro rfl (j0 (Ht rfl) (Ht rfl)) (gJ Z_32 (Ht rfl) (Ht rfl) rfl (i:=2) rfl (aK rfl) rfl rfl (ro rfl (cQ (cJ 0)) (eZ (aC rfl (fJ (fY A_32 Z_32 rfl (i:=2) rfl rfl) ?_) (fJ (eY rfl) ?_))))))
  ·exact (fun v V h=>by rw [y9,y8,cL,cL,he]; exact h)
  ·exact (am he.symm)
theorem sQ {z:List Qi} {s:List (List Qi)} {q:Int} {o:List Int} (hl:z.length ≤ 1000) (ho:o.length ≤ 1000):aw Tryz.prog 125 [aM z s,aa .i64 q,dP 1 (o.map (aa .i64))] (aa .i64 (bu z.length q o)):=by
 refine aw.intro Tryz.func125 rfl Tryz.ntmps125 rfl (fun cx=>(ts (rn rfl (fU (Ht rfl)) fun B3=>(ro rfl (cQ (cJ 0)) (eZ (cK (eK (ts (ro rfl (eW A_32 Z_32 (Ht rfl) (i:=0) rfl rfl rfl) (rm rfl (ro rfl (cZ K_106 og ⟨(Ht rfl),(Ht rfl),trivial⟩) (ro rfl (bD (Ht rfl)) (ra rfl (eZ (dQ (Ht rfl) (fun hb1=>?_) (fun hb1=>?_))))))))))))))))
 ·have h2 : ¬ (1 ≤ q ∧ q ≤ (z.length : Int)) := by simpa only [Bool.not_eq_true', decide_eq_false_iff_not] using hb1
  refine ts (ro rfl (cQ (cJ 1)) (eZ (fK rfl (fJ (eY rfl) ?_))))
  exact (am (if_pos h2).symm)
 ·have h2 : 1 ≤ q ∧ q ≤ (z.length : Int) := by simpa using hb1
  refine ts (rm rfl (rm rfl (ro rfl (cZ Tryz.call95 (kg (l:=o) (v:=q) zo) ⟨(Ht rfl),(Ht rfl),trivial⟩) (ra rfl (eZ (dQ (Ht rfl) (fun hb2=>?_) (fun hb2=>?_)))))))
  ·refine ts (ro rfl (cQ (cJ 8)) (eZ (fK rfl (fJ (eY rfl) ?_))))
   exact (am (by rw [bu,if_neg (fun k=>k h2),if_pos hb2]; rfl))
  ·refine cU (aB (ts (ro rfl (cQ (cJ 0)) (eZ (fK rfl (fJ (eY rfl) ?_))))))
   exact (am (by rw [bu,if_neg (fun k=>k h2),if_neg (by rw [hb2]; decide)]; rfl))
theorem A4 {z:List Qi} {s:List (List Qi)} {l:List Int} (hs:bM s z.length z.length) (hl:z.length ≤ 1000) (hll:l.length ≤ 1000):aw Tryz.prog 33 [aM z s,dP 1 (l.map (aa .i64))] (bo [aM (w8 z l) (w4 z s l),aa .i64 (rD z.length l)]):=by
 refine aw.intro Tryz.func33 rfl Tryz.ntmps33 rfl (fun cx=>(ts (rn rfl (fU (Ht rfl)) fun B2=>(rn rfl (eG (Ts:=[Is (.slice none 0 0),Is (.slice none 0 0)]) O_32 rfl (fun V=>aW zd (aW zd (aG)))) fun B4=>(ro rfl (cQ (cJ 0)) (eZ (cK (ts (rm rfl (ro rfl (dK U_72 (Ht rfl) a7) (ro rfl (eJ bH (Ht rfl) rfl) (ro rfl (fQ A_29 Z_29 (Ht rfl) (i:=0) rfl rfl) (ro rfl (dK U_29 (Ht rfl) a7) (ro rfl (db (Ht rfl) (Ht rfl)) ?_))))))))))))))
 refine eZ (dQ (Ht rfl) (fun hb1=>?_) (fun hb1=>?_))
 ·have h2 : l.length ≠ z.length := by simpa using hb1
  have he:=vj h2
  refine ts (ro rfl (ae.imp (d9 ) da) (gJ Z_32 (Ht rfl) (Ht rfl) rfl (i:=1) rfl (aK rfl) rfl rfl (ro rfl (cQ (cJ 4)) (eZ (aC rfl (fJ (fY A_32 Z_32 rfl (i:=1) rfl rfl) ?_) (fJ (eY rfl) ?_))))))
  ·exact (fun v V h=>by rw [w8,w4,cL,cL,he]; exact h)
  ·exact (am he.symm)
 ·have h2 : l.length = z.length := by simpa using hb1
  have hok:=vJ h2
  refine cU (cK (ts (rm rfl (ro rfl (dK U_72 (Ht rfl) a7) (ro rfl (cX (cJ 0)) (eZ (eK ?_)))))))
  refine b8 (fun (i : Nat) => i ≤ l.length ∧ ∀ j, j < i → (fun i => bu z.length (l.getD i 0) (l.take i)) j = 0) (fun (i : Nat) => l.length - i) (fun (i : Nat) => [(1, dP 1 (l.map (aa .i64))), (2, aH B2 0), (4, aH B4 0), (16, dP 1 (l.map (aa .i64))), (17, NT .i64 l.length), (18, NT .i64 i)]) (fun (i : Nat) => [box B2 32 [av z, bp s], box B4 32 [Is (.slice none 0 0), Is (.slice none 0 0)]]) 0 ⟨Nat.zero_le _, fun j h => by omega⟩
   (zS rfl) (aU (a8 rfl) (aU (a8 rfl) aY)) (fun i ⟨hi,h0⟩=>?_)
  refine ts (ro rfl (gV (Ht rfl) (Ht rfl)) (eZ (cK (dQ (Ht rfl) (fun hd=>?_) (fun hd=>?_)))))
  ·have hin : i < l.length := by simp only [decide_eq_true_eq] at hd; omega
   refine cU (cK (eK (ts (rm rfl (ro rfl (dZ U_72 Z_3 (Ht rfl) (Ht rfl) rfl (eQ (dY (d:=0) zo))) (ro rfl (dV A_3 Z_3 (Ht rfl)) (ra rfl (ra rfl (eZ (cK (fV (m:=5) (dp 2 rfl (eW A_32 Z_32 (Ht rfl) (i:=0) rfl rfl rfl) (dp 7 rfl (cX (Ht rfl)) (dp 1 rfl (cX (Ht rfl)) (dp 6 rfl (cX (Ht rfl)) (bv 25 2 26 3 rfl (iI U_72 Z_3 (Ht rfl) (Ht rfl) (fun m e=>by cases e) zo (by rw [List.length_map]; omega) (Us:=(l.take i).map (aa .i64)) (by rw [Int.toNat_natCast,List.map_take])) ?_))))))))))))))))
   refine fG aA rfl (by kernel_rfl) (zF (aJ (aV (ro rfl (cZ Tryz.call125 (sQ (q:=l.getD i 0) (o:=l.take i) hl (by rw [List.length_take]; omega)) ⟨(Ht rfl),(Ht rfl),(Ht rfl),trivial⟩) ?_))))
   refine ra rfl (eZ (ts (rm rfl (ro rfl (bT (Ht rfl) cV) (eZ (dQ (Ht rfl) (fun he=>?_) (fun he=>?_)))))))
   ·have h3 : (fun i => bu z.length (l.getD i 0) (l.take i)) i ≠ 0 := by simpa using he
    have he2:rD z.length l = bu z.length (l.getD i 0) (l.take i):=hok.trans (iN h0 h3 hin)
    refine ts (ro rfl (ae.imp (d9 ) da) (rm rfl (gJ Z_32 (Ht rfl) (Ht rfl) rfl (i:=1) rfl (aK rfl) rfl rfl (ra rfl (eZ (aC rfl (fJ (fY A_32 Z_32 rfl (i:=1) rfl rfl) ?_) (fJ (eY rfl) ?_)))))))
    ·exact (fun v V h=>by rw [w8,w4,cL,cL,he2,if_neg h3,if_neg h3]; exact h)
    ·exact (am he2.symm)
   ·have h3 : (fun i => bu z.length (l.getD i 0) (l.take i)) i = 0 := by simpa using he
    refine cU (aB (cY (ro rfl (dW (Ht rfl) (cJ 1) z6) (rm rfl (eZ (aD [0,1] rfl (by decide) ?_))))))
    refine gQ (i + 1) ⟨hin, fun j h => by
      by_cases e:j = i
      ·rw [e]; exact h3
      ·exact h0 j zo⟩ zo (zS rfl) (aU (a8 rfl) (aU (a8 rfl) aY))
  ·have hin : i = l.length := by simp only [decide_eq_false_iff_not] at hd; omega
   have h3:ka z.length l = 0:=d8 (by rw [hin] at h0; exact h0)
   have he:rD z.length l = 0:=hok.trans h3
   refine gK rfl (ts (ro rfl (eW A_32 Z_32 (Ht rfl) (i:=0) rfl rfl rfl) (ro rfl (cX (ax.to (Ht rfl) (ee (qh h3)))) (gD Tryz.call122 (oV (Q:=lb l) (m:=l.length) hs (Bo h3) (qV l) hll hl) ⟨(Ht rfl),(Ht rfl),trivial⟩ rfl (fun B36 _=>(gJ Z_32 (Ht rfl) (Ht rfl) rfl (i:=1) rfl (aK rfl) rfl rfl (ro rfl (cQ (cJ 0)) (eZ (ky 1 2 1 rfl rfl rfl (by decide) (BN (q:=fun _=>True) (M:=kI s (lb l)) (by rw [(wL s (lb l)).1,qV])) ?_)))))))))
   refine aC rfl (fJ (fY A_32 Z_32 rfl (i:=1) rfl rfl) ?_) (fJ (eY rfl) ?_)
   ·exact (fun v V h=>by rw [w8,w4,cL,cL,he]; exact h)
   ·exact (am he.symm)
end
section
open Go Go.RowKit
section
variable {P:Program} {n:Nat} {E:aT} {H:Hp}
variable {d:Option Tmp} {t:TypeId} {pos:String} {af:Array Edge} {g:Option (Nat × Bool)}
theorem wt {f : FuncId} {xs : List Operand} {tys : Array TypeId} {Ts : List Ty} {U T0 T1 : Ty} {A : SA} {j tt : Nat} (hc : ∀ args w, (callFunc f args).run P w = .ok (.enter f args) w) (hF : aw P f Ts U)
  (hA:H[j]? = some A) (hl:c8 E tt = some T0) (hz:∀ v S V,T0.p v V → A.h S V V → T1.p v V) (hU:∀ v V V',U.p v V → U.p v V') (ha:iH ((tt,T1) :: E) xs Ts) :
  ae P n E H ⟨d,.call ⟨.value (.func f),xs.toArray,tys⟩,t,pos,af,g⟩ U:=fun cx X a w V hi hs K Q hK=>by
 have hrun : (execOp a.eval ⟨d, .call ⟨.value (.func f), xs.toArray, tys⟩, t, pos, af, g⟩).run P w = .ok (.enter f (xs.map a.eval).toArray) w := by
  simp [execOp,resolve,Act.eval,Deferred.ofValue,invoke,hc]
 simp only [Oper.wp,hrun,Oper.upon_enter]
 obtain ⟨F,h1,h2⟩:=hi.hp
 have hjl:=(List.getElem?_eq_some_iff.1 hA).1
 obtain ⟨k1,k2⟩:=h1 j A (by rw [List.getElem?_append_left hjl]; exact hA)
 let V1:as:=fun b=>if b ∈ F j then w.heap[b]? else V b
 have hle : fE V V1 := fun b o hb => by
  have:b ∉ F j:=fun hf=>by have:=(k2 b hf).1; rw [hb] at this; cases this
  simp only [V1,if_neg this]; exact hb
 have hon : ∀ b o, V1 b = some o → w.heap[b]? = some o := fun b o hb => by
  by_cases hf:b ∈ F j
  ·simp only [V1,if_pos hf] at hb; exact hb
  ·simp only [V1,if_neg hf] at hb; exact hi.on b o hb
 have hA1:A.h (F j) V1 V1:=A.mono (A.loc k1 fun b hb=>by simp only [V1,if_pos hb]; rfl) hle
 have hsl : bF n ((tt, T1) :: E) V1 a := by
  have hs':=hs.mono hle
  refine ⟨hs'.1,hs'.2.1,fun t' T hT=>?_⟩
  rw [b6] at hT
  by_cases e:tt = t'
  ·subst e
   rw [if_pos rfl] at hT; obtain rfl:=Option.some.inj hT
   obtain ⟨v,q1,q2⟩:=hs'.2.2 _ _ hl
   exact ⟨v,q1,hz v (F j) V1 q2 hA1⟩
  ·rw [if_neg e] at hT; exact hs'.2.2 t' T hT
 refine (hF _ V1 w hon (iH.all hsl ha)).mono ?_
 rintro e w' ⟨v,V',rfl,m1,m2,m3,m4,m5⟩
 exact hK v w' V (hi.after (fE.refl V) (fun b o hb=>m2 b o (m1 b o (hle b o hb))) (fun b o hb h0=>by rw [hb] at h0; cases h0) m4) (fE.refl V) (hU v V' V m5)
theorem uv {x i : Operand} {q : Nat} {Ts : List Ty} {T : Ty} {kd : IntKind} {e : TypeId} {len : Nat} (hU : ∀ w, (underlying t).run P w = .ok (.array len e) w) (hS : ∀ w, (sizeOf e).run P w = .ok 1 w) (hg : ∀ w, (isAgg e).run P w = .ok false w)
  (hx:ax E x (bB Ts)) (hi:ax E i (NT kd q)) (hl:q < len) (hT:Ts[q]? = some T) {t':TypeId}:ae P n E H ⟨d,.index t x i,t',pos,af,g⟩ T :=
 bt fun a V w hs => by
  obtain ⟨vs,e1,e4⟩:=hx n V a hs
  have ei:a.eval i = .int kd (q:Int):=hi n V a hs
  obtain ⟨u,e5,e6⟩:=e4.all.get hT
  exact ⟨u,by simp [execOp,e1,ei,Instr.index,asIntOf,Sem.run_bind,hU,hS,hg,part,Result.andThen,hl,e5],e6⟩
end
end
section
open Go Go.RowKit
theorem rJ {n : Nat} {E : aT} {H : Hp} {d : Option Tmp} {t : TypeId} {pos : String} {af : Array Edge} {g : Option (Nat × Bool)} {x0 x1 : Operand} {T0 T1 : Ty} [s0 : bg T0 1 false] (h0 : ax E x0 T0) [s1 : bg T1 1 false] (h1 : ax E x1 T1) :
  ae Tryz.prog n E H ⟨d,.build 71 #[(0,x0),(1,x1)],t,pos,af,g⟩ (bB [T0,T1]) :=
 cB (parts := [(0, x0), (1, x1)]) fun a V w hs => by
  have p0:=h0 n V a hs
  generalize e0:a.eval x0 = v0 at p0
  have q0:=(s0.ok v0 V p0).2.2 rfl
  have p1:=h1 n V a hs
  generalize e1:a.eval x1 = v1 at p1
  have q1:=(s1.ok v1 V p1).2.2 rfl
  refine ⟨.agg #[v0,v1],?_,[v0,v1],rfl,aW (⟨p0,q0⟩) (aW (⟨p1,q1⟩) (aG))⟩
  simp [e0,e1,Instr.build,Instr.fill,Sem.run_bind,Result.andThen,ca,q0.cells,q1.cells,Tryz.zeroValue71,U_71,Z_3]
end
section
open Go Go.RowKit
theorem wh {z:List Qi} {S:List (List Qi)} {js:List (Int × Int)} {L:Nat} (hfz:aP z L) (hL:1 ≤ L) (hLb:L ≤ 1000000) (hz:z.length ≤ 1000) (hj:js.length ≤ 100):aw Tryz.prog 117 [aM z S,CE js] (bo [dP 1 ((By z js).map (aa .i64)),aa .i64 (nN z js)]):=by
 refine aw.intro Tryz.func117 rfl Tryz.ntmps117 rfl (fun cx=>(ts (rn rfl (fU (Ht rfl)) fun B2=>(ro rfl (cQ cV) (ro rfl (cQ (cJ 0)) (eZ (ts (ro rfl (cQ cV) (eZ (cK (cK (jk 3 1 (cY (rm rfl (ro rfl (dK U_26 (Ht rfl) a7) (ro rfl (cX (cJ 0)) (eZ (eK ?_))))))))))))))))))
 refine ci (fun (k : Nat) (vG : Value) => k ≤ js.length ∧ ∀ j, j < k → kP z js j = 0) (fun (k : Nat) (vG : Value) => js.length - k) (fun (k : Nat) (vG : Value) => [(1, CE js), (2, aH B2 0), (6, Is vG), (12, CE js), (13, NT .i64 js.length), (14, NT .i64 k)]) (fun (k : Nat) (vG : Value) => [box B2 32 [av z, bp S], aE 3 1 vG ((gy (js.take k)).map (aa .i64))]) 0 _ ⟨Nat.zero_le _, fun j h => by omega⟩
  (zS rfl) (aU (a8 rfl) (aU (ar rfl) aY)) (fun k vG ⟨hk,h0⟩=>?_)
 refine ts (ro rfl (gV (Ht rfl) (Ht rfl)) (eZ (cK (dQ (Ht rfl) (fun hd=>?_) (fun hd=>?_)))))
 ·have hkn : k < js.length := by simp only [decide_eq_true_eq] at hd; omega
  have hjk:=iX (js.take k)
  refine cU (cK (eK (ts (ro rfl (dZ U_26 Z_71 (Ht rfl) (Ht rfl) rfl (eQ (dY (d:=(0,0)) hkn))) (ro rfl (dV Tryz.isAgg71 Z_71 (Ht rfl)) (rn rfl (eG (Ts:=[Is (.int .i64 0),Is (.int .i64 0)]) Tryz.zeroValue71 rfl (fun V=>aW zd (aW zd (aG)))) fun B8=>(gJ Z_71 (Ht rfl) (Ht rfl) rfl (i:=2) rfl (aK rfl) rfl rfl (eZ (cK (cK (gG (i:=2) (tt:=8) rfl rfl cf (cY (ro rfl (dV Tryz.isAgg71 Z_71 (Ht rfl)) ?_)))))))))))))
  refine ro rfl (cX (cJ 0)) (eZ (eK (aD [0,1] rfl (by decide) ?_)))
  refine ci (fun (i : Nat) (vI : Value) => i ≤ 2 ∧ ∀ x, x < i → oO z js k x = 0) (fun (i : Nat) (vI : Value) => 2 - i) (fun (i : Nat) (vI : Value) => [(1, CE js), (2, aH B2 0), (6, Is vI), (8, PT (JT (fy js k))), (12, CE js), (13, NT .i64 js.length), (14, NT .i64 k), (18, JT (fy js k)), (19, NT .i64 i)]) (fun (i : Nat) (vI : Value) => [box B2 32 [av z, bp S], aE 3 1 vI ((gy (js.take k) ++ (rl (fy js k)).take i).map (aa .i64))]) 0 _ ⟨Nat.zero_le _, fun x h => by omega⟩
   (zS rfl) (aU (a8 rfl) (aU (ar (by rw [List.take_zero,List.append_nil])) aY)) (fun i vI ⟨hi,h1⟩=>?_)
  refine ts (ro rfl (gV (Ht rfl) (cJ 2)) (eZ (cK (dQ (Ht rfl) (fun he=>?_) (fun he=>?_)))))
  ·have hi2 : i < 2 := by simp only [decide_eq_true_eq] at he; omega
   have hol:(gy (js.take k) ++ (rl (fy js k)).take i).length ≤ 300:=by rw [List.length_append,hjk,List.length_take,List.length_take]; omega
   refine cU (cK (eK (ts (ro rfl (uv U_71 Z_3 A_3 (Ht rfl) (Ht rfl) zo (z8 hi2)) (ra rfl (eZ (cK (ts (ro rfl (eW A_32 Z_32 (Ht rfl) (i:=0) rfl rfl rfl) (rm rfl (rm rfl (ro rfl (wt Tryz.call125 (sQ (z:=z) (s:=S) (q:=(rl (fy js k)).getD i 0) (o:=gy (js.take k) ++ (rl (fy js k)).take i) hz zo) (j:=1) (tt:=24) rfl rfl cg (fun _ _ _ h=>h) ⟨(Ht rfl),(Ht rfl),(Ht rfl),trivial⟩) (ra rfl (eZ (ts (rm rfl (ro rfl (bT (Ht rfl) cV) (eZ (dQ (Ht rfl) (fun hf=>?_) (fun hf=>?_))))))))))))))))))))
   ·have h3 : oO z js k i ≠ 0 := by simp only [Bool.not_eq_true', decide_eq_false_iff_not] at hf; exact hf
    have h4:=D9 hi2 h1 h3
    have h5:nX z js = oO z js k i:=(iN h0 (by rw [h4]; exact h3) hkn).trans h4
    have h6:nN z js = oO z js k i:=(xy (by rw [h5]; exact h3)).trans h5
    refine ts (rm rfl (ro rfl (cQ cV) (ra rfl (eZ (aC rfl (fJ (eY rfl) ?_) (fJ (eY rfl) ?_))))))
    ·exact (fun v V h=>by rw [By,cL,h6,if_neg h3]; exact dc v V h)
    ·exact (am h6.symm)
   ·have h3 : oO z js k i = 0 := by simp only [Bool.not_eq_false', decide_eq_true_eq] at hf; exact hf
    refine cU (cY (rm rfl (rm rfl (ro rfl (bm (xs:=[.tmp 30]) U_72 Z_3 O_3 (cW (Ht rfl) cG) rfl rfl rfl) (gd (inf:=Tryz.t3) nE nm rfl rfl rfl (Ht rfl) (Ht rfl) (i:=1) rfl (by simp) (fun T hT=>by simp at hT; subst hT; exact El.one) (by show _ * 8 ≤ _; simp only [List.length_map,List.length_cons,List.length_nil]; omega) (by simp only [List.length_map,List.length_cons,List.length_nil]; omega) rfl (fun v2=>?_))))))
    refine ra rfl (eZ (aB (cY (ro rfl (dW (Ht rfl) (cJ 1) z6) (rm rfl (eZ ?_))))))
    refine gQ (i + 1, v2) ⟨hi2, fun x hx => by
      by_cases e:x = i
      ·rw [e]; exact h3
      ·exact h1 x zo⟩ (by dsimp only; omega) (zS rfl) (aU (a8 rfl) (aU (ar (by rw [vY hi2,← List.append_assoc,List.map_append (l₁:=gy (js.take k) ++ (rl (fy js k)).take i)]; rfl)) aY))
  ·obtain rfl : i = 2 := by simp only [decide_eq_false_iff_not] at he; omega
   obtain ⟨⟨p1,p2⟩,⟨p3,p4⟩,h3⟩:=Dq h1
   have hrow:gy (js.take (k + 1)) = gy (js.take k) ++ (rl (fy js k)).take 2:=qz hkn
   haveI g1:=hfz.get hL ((fy js k).1 - 1).toNat
   haveI g2:=hfz.get hL ((fy js k).2 - 1).toNat
   refine gK rfl (cK (fV (m:=14) (dp 2 rfl (eJ bH (Ht rfl) rfl) (dq 34 0 rfl (fQ A_29 Z_29 (Ht rfl) (i:=0) rfl rfl) (dp 8 rfl (t4 U_71 Z_3 (Ht rfl) cV rfl (by decide) rfl) (dq 36 2 rfl (dV A_3 Z_3 (Ht rfl)) (dq 37 3 rfl (cq (Ht rfl) cV (r:=((((fy js k).1 - 1).toNat:Nat):Int)) ((kq (z:=(fy js k).1 - 1) zo).trans zo)) ?_)))))))
   refine bv 35 1 38 4 rfl (dZ U_29 Z_51 (Ht rfl) (Ht rfl) rfl (eQ (dY (d:=Qi.zero) zo))) (dq 39 5 rfl (dV A_51 Z_51 (Ht rfl)) (dp 2 rfl (eJ bH (Ht rfl) rfl) (dq 41 7 rfl (fQ A_29 Z_29 (Ht rfl) (i:=0) rfl rfl) (dp 8 rfl (t4 U_71 Z_3 (Ht rfl) cV rfl (by decide) rfl) (dq 43 9 rfl (dV A_3 Z_3 (Ht rfl)) (dq 44 10 rfl (cq (Ht rfl) cV (r:=((((fy js k).2 - 1).toNat:Nat):Int)) ((kq (z:=(fy js k).2 - 1) zo).trans zo)) ?_))))))
   refine bv 42 8 45 11 rfl (dZ U_29 Z_51 (Ht rfl) (Ht rfl) rfl (eQ (dY (d:=Qi.zero) zo))) (dq 46 12 rfl (dV A_51 Z_51 (Ht rfl)) (fG aA rfl (by kernel_rfl) (zF (zF (zF (aJ (aJ (aV (ro rfl (cZ Tryz.call139 (pL (x:=gv z ((fy js k).1 - 1).toNat) (y:=gv z ((fy js k).2 - 1).toNat) (L:=L) (M:=L) zo zo) ⟨(Ht rfl),(Ht rfl),trivial⟩) (ro rfl (bD (Ht rfl)) ?_))))))))))
   refine eZ (dQ (Ht rfl) (fun hg=>?_) (fun hg=>?_))
   ·have h4 : kP z js k = 40 := by rw [h3, if_neg (by simpa using hg)]
    have h5:nX z js = 40:=(iN h0 (by rw [h4]; decide) hkn).trans h4
    have h6:nN z js = 40:=(xy (by rw [h5]; decide)).trans h5
    refine ts (ro rfl (cQ cV) (ro rfl (cQ (cJ 40)) (eZ (aC rfl (fJ (eY rfl) ?_) (fJ (eY rfl) ?_)))))
    ·exact (fun v V h=>by rw [By,cL,h6]; exact dc v V h)
    ·exact (am h6.symm)
   ·have h4 : kP z js k = 0 := by rw [h3, if_pos (by simpa using hg)]
    refine cU (aB (cY (ro rfl (dW (Ht rfl) (cJ 1) z6) (rm rfl (eZ ?_)))))
    refine gQ (k + 1, vI) ⟨hkn, fun j h => by
      by_cases e:j = k
      ·rw [e]; exact h4
      ·exact h0 j zo⟩ (by dsimp only; omega) (zS rfl) (aU (a8 rfl) (aU (ar (by rw [hrow])) aY))
 ·obtain rfl : k = js.length := by simp only [decide_eq_false_iff_not] at hd; omega
  have h2:nX z js = 0:=d8 h0
  have hll:=iX js
  rw [List.take_length]
  refine gK rfl (cK (ts (rm rfl (ro rfl (gH U_72 (Ht rfl) (i:=1) rfl a7) (ro rfl (bR (Ht rfl) (cJ 0)) (rm rfl (fX rfl rfl (eU rfl rfl (Ht rfl) (fun h=>cX (Ht rfl))) (fX rfl rfl (eU rfl rfl (Ht rfl) (fun h=>gH U_72 (fW rfl h) (i:=1) rfl a7)) (fX rfl rfl (eU rfl rfl (Ht rfl) (fun h=>eJ bH (Ht rfl) rfl)) (fX rfl rfl (eU rfl rfl (Ht rfl) (fun h=>fQ A_29 Z_29 (fW rfl h) (i:=0) rfl rfl)) (fX rfl rfl (eU rfl rfl (Ht rfl) (fun h=>dK U_29 (fW rfl h) a7)) ?_)))))))))))
  refine fX rfl rfl (eU rfl rfl (Ht rfl) (fun h=>aO (fW rfl h) (fW rfl h))) (ro rfl (bx (Ht rfl) (fun h=>(fW rfl h))) (eZ (dQ (Ht rfl) (fun hc=>?_) (fun hc=>?_))))
  ·have h3 : 0 < 2 * js.length ∧ 2 * js.length = z.length := by simpa [hll] using hc
   have h6:nN z js = 4:=yG h2 h3
   refine ts (ro rfl (cQ cV) (ro rfl (cQ (cJ 4)) (eZ (aC rfl (fJ (eY rfl) ?_) (fJ (eY rfl) ?_)))))
   ·exact (fun v V h=>by rw [By,cL,h6]; exact dc v V h)
   ·exact (am h6.symm)
  ·have h3 : ¬ (0 < 2 * js.length ∧ 2 * js.length = z.length) := by simpa [hll] using hc
   have h6:nN z js = 0:=AA h2 h3
   refine gG (i:=1) (tt:=6) rfl rfl cg (cU (ts (rm rfl (ra rfl (ro rfl (cQ (cJ 0)) (eZ (aC rfl (fJ (eY rfl) ?_) (fJ (eY rfl) ?_))))))))
   ·exact (ee (by rw [By,cL,h6]; rfl))
   ·exact (am h6.symm)
end
section
open Go Go.RowKit
section
variable {P:Program} {R:cO} {cx:Cx} {n:Nat} {k:List It} {E:aT} {H:Hp}
theorem HH.two {base:Nat} {w:World} {V:as} {Z:SA} {X:Hp} (h:HH base w V (Z :: X)):HH base w V [Z,co (SA.emp :: X)]:=by
 have h1:HH base w V ((Z :: X).set 0 SA.emp ++ [Z]):=h.last rfl
 have h2:HH base w V (co (SA.emp :: X) :: [Z]):=HH.repack h1
 exact h2.pick (is:=[1,0]) ⟨⟨_,rfl,fun _ _ _ h=>h⟩,⟨_,rfl,fun _ _ _ h=>h⟩,trivial⟩ (by decide)
theorem dy.pack {f : FuncId} {Ts : List Ty} {γ : Type} {U : γ → Ty} {X : γ → Hp} {Q : γ → Prop} (h : dy P f Ts [] γ U X Q) : dy P f Ts [] γ U (fun x => [co (SA.emp :: X x)]) Q :=
 fun cx Z vs V w h1 h2=>(h cx Z vs V w h1 h2).mono fun e w' ⟨v,V',x,a,b,c,d,e'⟩=>⟨v,V',x,a,b,c.withHH c.hp.two,d,e'⟩
theorem Cl {X Y:Hp} (h:Tr P R cx n k E (X ++ Y)):Tr P R cx n k E (co X :: Y):=fun a w ⟨V,hin,hs⟩=>h a w ⟨V,hin.withHH hin.hp.unpack,hs⟩
end
namespace W
variable {P:Program} {R:cO} {cx:Cx} {n:Nat} {k:List It} {E:aT} {H:Hp} {Hf:Bool → Hp} {p:Nat}
end W
end
section
open Go Go.RowKit
theorem yH {z:List Qi} {s:List (List Qi)} {Q:List Nat} {m:Nat} (hs:bM s z.length z.length) (hQ:∀ x,x ∈ Q → x < z.length) (hm:Q.length = m) (hm2:m ≤ 1000) (hl:z.length ≤ 1000):dy Tryz.prog 122 [aM z s,cD (Q.map Nat.succ)] [] (Nat × Nat) (fun B=>bB [Is (.slice (some ⟨B.1,0,none⟩) m m),Is (.slice (some ⟨B.2,0,none⟩) m m)]) (fun B=>[aE 51 5 (.slice (some ⟨B.1,0,none⟩) m m) ((gz z Q).map ab),gt B.2 29 51 5 (bq ab (kI s Q))]) (fun _=>True):=by
 have hll:(Q.map Nat.succ).length = m:=by rw [List.length_map]; exact hm
 refine dy.intro Tryz.func122 rfl Tryz.ntmps122 rfl (fun cx Z=>(ts (rn rfl (fU (Ht rfl)) fun B2=>(rn rfl (iQ (Ht rfl)) fun B3=>(rn rfl (eG (Ts:=[Is (.slice none 0 0),Is (.slice none 0 0)]) O_32 rfl (fun V=>aW zd (aW zd (aG)))) fun B4=>(eZ (cK (gG (i:=1) (tt:=2) rfl rfl cf (gG (i:=2) (tt:=3) rfl rfl cC (cY (ro rfl (dV A_72 Z_72 (Ht rfl)) (ro rfl (dK U_72 (Ht rfl) (by rw [List.length_map,hll])) ?_))))))))))))
 refine rn rfl (uL (T:=ab Qi.zero) (i:=Tryz.t51) ef de rfl rfl (Ht rfl) rfl cw (El.ag rfl) (by show 88 * _ ≤ _; omega) zo) fun B10=>ra rfl (eZ (cK (ts (ro rfl (dV A_72 Z_72 (Ht rfl)) (ro rfl (dK U_72 (Ht rfl) (by rw [List.length_map,hll])) ?_)))))
 refine ro rfl (cX (cJ 0)) (eZ (eK (aD [0,3,4] rfl (by decide) ?_)))
 refine b8 (fun (i : Nat) => i ≤ m) (fun (i : Nat) => m - i) (fun (i : Nat) => [(2, PT (aM z s)), (3, PT (cD (Q.map Nat.succ))), (4, aH B4 0), (5, Is (.slice (some ⟨B10, 0, none⟩) m m)), (11, cD (Q.map Nat.succ)), (12, NT .i64 m), (13, NT .i64 i)]) (fun (i : Nat) => [Z, box B4 32 [Is (.slice none 0 0), Is (.slice none 0 0)], aE 51 5 (.slice (some ⟨B10, 0, none⟩) m m) ((dN (fun i => gv z (c4 Q i)) Qi.zero m i).map ab)]) 0 (Nat.zero_le _)
  (zS rfl) (aU (fun _ _ _ h=>h) (aU (fun _ _ _ h=>h) (aU (ar (by rw [← cP]; exact gL ab m)) aY))) (fun i hi=>?_)
 refine ts (ro rfl (gV (Ht rfl) (Ht rfl)) (eZ (cK (dQ (Ht rfl) (fun hd=>?_) (fun hd=>?_)))))
 ·simp only [decide_eq_true_eq] at hd
  have hki:c4 Q i < z.length:=oR hQ zo
  refine cU (cK (eK (ts (rm rfl (ro rfl (dZ U_72 Z_3 (Ht rfl) (Ht rfl) rfl (eQ (gM zo))) (ro rfl (dV A_3 Z_3 (Ht rfl)) (ra rfl (ra rfl (eZ (cY (rm rfl (rm rfl (ro rfl (dB bH (Ht rfl) rfl) (ro rfl (dV A_29 Z_29 (Ht rfl)) (rm rfl (ro rfl (ae.nat (dG (Ht rfl) (cJ 1) zo z6) (show c4 Q i + 1 - 1 = c4 Q i by omega)) (ro rfl (dZ U_29 Z_51 (Ht rfl) (Ht rfl) rfl (eQ (dY (d:=Qi.zero) hki))) ?_)))))))))))))))))
  refine ro rfl (dV A_51 Z_51 (Ht rfl)) (ro rfl (bi U_29 Z_51 (Ht rfl) (Ht rfl) rfl (i:=2) rfl (by rw [List.length_map,b9]; omega) rfl) ?_)
  refine eL Z_51 (Ht rfl) (Ht rfl) (El.ag rfl) (i:=2) rfl rfl (by rw [List.length_map,b9]; omega) rfl ?_
  refine eZ (aB (cY (ro rfl (dW (Ht rfl) (cJ 1) z6) (rm rfl (eZ (gQ (i + 1) hd zo (zS rfl) (aU (fun _ _ _ h=>h) (aU (fun _ _ _ h=>h) (aU (ar (by rw [c9,← dC (f:=(fun i=>gv z (c4 Q i)))])) aY)))))))))
 ·simp only [decide_eq_false_iff_not] at hd
  obtain rfl:m = i:=Nat.le_antisymm zo hi
  rw [dD]
  rw [show gz z Q = tab m fun i=>gv z (c4 Q i) from by rw [gz,hm],show kI s Q = tab m fun i=>tab m fun j=>gm s (c4 Q i) (c4 Q j) from by rw [kI,hm]]
  refine gK rfl (ts (rm rfl (ro rfl (dV A_72 Z_72 (Ht rfl)) (ro rfl (dK U_72 (Ht rfl) (by rw [List.length_map,hll])) ?_))))
  refine ro rfl (fm (γ:=Fin m × Fin m) (Ts:=fun x=>[NT .i64 x.1.1,NT .i64 x.2.1]) (U:=fun x=>ab (gm s (c4 Q x.1.1) (c4 Q x.2.1))) Tryz.call206 (fun x=>sZ hs hQ hm hm2 hl x.1.2 x.2.2) ⟨(Ht rfl),(Ht rfl),trivial⟩) (gD K_114 (po (n:=m) (f:=fun i j=>gm s (c4 Q i) (c4 Q j)) zo) ⟨(Ht rfl),(Ht rfl),trivial⟩ rfl (fun B32 _=>(ro rfl (j0 (Ht rfl) (Ht rfl)) (gJ Z_32 (Ht rfl) (Ht rfl) rfl (i:=1) rfl (aK rfl) rfl rfl (eZ ?_)))))
  exact fo (B10,B32) trivial [0,2,3] ⟨⟨_,rfl,fun _ _ _ h=>h⟩,⟨_,rfl,fun _ _ _ h=>h⟩,⟨_,rfl,fun _ _ _ h=>h⟩,trivial⟩ (by decide) (nt rfl (fY A_32 Z_32 rfl (i:=1) rfl rfl))
end
section
open Go Go.RowKit
theorem A7 {z : List Qi} {s : List (List Qi)} (hl : z.length ≤ 1000) : aw Tryz.prog 121 [aM z s, Is (.slice none 0 0)] (cD ((gx [] z.length).map Nat.succ)) :=
 (pS (z := z) (s := s) (G := []) hl (by simp)).arg fun vs V h => match vs, h with
  | [_,b],⟨h1,h2,_⟩=>⟨h1,dc b V h2,trivial⟩
end
section
open Go Go.RowKit
section
variable {P:Program} {n:Nat} {E:aT} {H:Hp}
variable {d:Option Tmp} {t:TypeId} {pos:String} {af:Array Edge} {g:Option (Nat × Bool)}
theorem cE {x i : Operand} {B o q r s : Nat} {kd : IntKind} {j : Int} {e : TypeId} {len : Nat} (hU : ∀ w, (underlying t).run P w = .ok (.array len e) w) (hS : ∀ w, (sizeOf e).run P w = .ok s w)
  (hx:ax E x (aH B o)) (hi:ax E i (aa kd j)) (hj:j = (q:Int)) (hl:q < len) (hr:o + q * s = r) {t':TypeId}:ae P n E H ⟨d,.indexAddr t x i,t',pos,af,g⟩ (aH B r) :=
 bt fun a V w hs => by
  have e1:a.eval x = .pointer (some ⟨B,o,none⟩):=hx n V a hs
  have ei:a.eval i = .int kd j:=hi n V a hs
  subst hj hr
  exact ⟨.pointer (some ⟨B,o + q * s,none⟩),by simp [execOp,e1,ei,Instr.indexAt,Instr.sureAddr,asIntOf,Sem.run_bind,hU,hS,Result.andThen,hl,cm],rfl⟩
theorem za {x : Operand} {arr e : TypeId} {s : Nat} {Us Ws : List Ty} (hU : ∀ w, (underlying arr).run P w = .ok (.array 2 e) w) (hx : ax E x (dP s [bB Us, bB Ws])) (hl : Us.length = s) {t' : TypeId} :
  ae P n E H ⟨d,.sliceToArrayPointer arr x,t',pos,af,g⟩ (PT (bB (Us ++ Ws))) :=
 bt fun a V w hs => by
  obtain ⟨a0,cap,e1,hcap,h3⟩:=hx n V a hs
  obtain ⟨b,o,x0,ea,⟨c,BT,fr,l2,l3⟩,c0,us,rfl,hu⟩:=h3 0 _ rfl
  obtain ⟨b',o',x1,ea',⟨c',BT',fr',l2',l3'⟩,c1,ws,rfl,hw⟩:=h3 1 _ rfl
  subst ea
  obtain ⟨rfl,rfl⟩:b = b' ∧ o = o':=by simpa using ea'
  obtain ⟨rfl,rfl,rfl⟩:c = c' ∧ BT = BT' ∧ fr = fr':=by rw [l2] at l2'; simpa using l2'
  have hlu:us.length = s:=hu.length.trans hl
  refine ⟨.pointer (some ⟨b,o,none⟩),by simp [execOp,e1,Instr.arrayAt,Sem.run_bind,hU,Result.andThen,pure,Sem.run],b,o,.agg (us ++ ws).toArray,rfl,⟨c,BT,fr,l2,fun j u hj=>?_⟩,us ++ ws,rfl,hu.append hw⟩
  simp only [Value.cells,List.getElem?_toArray] at hj
  by_cases c2:j < us.length
  ·rw [List.getElem?_append_left c2] at hj
   have:=l3 j u (by simpa [Value.cells] using hj)
   rw [show o + j = o + 0 * s + j by omega]; exact this
  ·rw [List.getElem?_append_right zo] at hj
   have:=l3' (j - us.length) u (by simpa [Value.cells] using hj)
   rw [show o + j = o + 1 * s + (j - us.length) by omega]; exact this
end
end
end Go.Proofs.YteohomnhncjcnaaGreat
